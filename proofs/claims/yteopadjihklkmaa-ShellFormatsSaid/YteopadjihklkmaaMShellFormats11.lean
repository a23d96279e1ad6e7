/- Part 11 of the proof of ShellFormats. -/
import Derived.Test.YteopadjihklkmaaMShellFormats10
import Derived.Maps.Keyed
import Derived.WideMake
import Derived.Deep.Slices
section
namespace Go.Proofs.Yteopadjihklkmaa
open Go Go.Proofs
theorem one_int (k : IntKind) (i : Int) : (Value.int k i).oneCell' = true := rfl
theorem one_bool (b : Bool) : (Value.bool b).oneCell' = true := rfl
theorem one_S (s : List UInt8) : (S s).oneCell' = true := rfl
theorem one_str (s : ByteArray) : (Value.string s).oneCell' = true := rfl
theorem one_slice (a : Option Addr) (n c : Nat) : (Value.slice a n c).oneCell' = true := rfl
theorem one_map (b : Option Nat) : (Value.map b).oneCell' = true := rfl
theorem one_ptr (a : Option Addr) : (Value.pointer a).oneCell' = true := rfl
/-- A value of one cell. -/
abbrev SV := { v : Value // v.oneCell' = true }
instance : Inhabited SV := ⟨⟨.slice none 0 0, rfl⟩⟩
section lists
variable {K V : Type} [DecidableEq K]
def mget : List (K × V) → K → Option V
  | [], _ => none
  | p :: r, a => if a = p.1 then some p.2 else mget r a
def idx : List (K × V) → K → Nat → Option (Nat × V)
  | [], _, _ => none
  | p :: r, a, i => if a = p.1 then some (i, p.2) else idx r a (i + 1)
end lists
section
variable {P : Program} {n : Nat} {w0 : World} {ops : Array Oper} {l : List Oper} {Kk : Act → World → Prop} {E : Env} {A : Asn} {ty : TypeId} {ps : String} {af : Array Edge}
variable {K V : Type} [DecidableEq K] {ek : K → Value} {vv : V → Value} {z : Value} {t kt : TypeId}
omit [DecidableEq K] in
omit [DecidableEq K] in
/-- The block b can be read as this map. -/
structure MapAt (w0 : World) (A : Asn) (ek : K → Value) (vv : V → Value) (b : Nat) (m : List (K × V)) : Prop where
  out : ∀ w, Sat w0 w A → ∃ es clock, w.heap[b]? = some (.map es clock) ∧ es.toList.map (fun e => (e.key, e.val)) = m.map (fun p => (ek p.1, vv p.2))
omit [DecidableEq K] in
omit [DecidableEq K] in
theorem MapAt.left {C : Asn} {b : Nat} {m : List (K × V)} (h : MapAt w0 A ek vv b m) : MapAt w0 (A * C) ek vv b m := ⟨fun w hs => h.out w hs.weak⟩
omit [DecidableEq K] in
omit [DecidableEq K] in
end
/-! ### Sets of pairs of numbers -/
def k2 (p : Int × Int) : Value := .agg #[.int .i64 p.1, .int .i64 p.2]
section
variable {P : Program} {n : Nat} {w0 : World} {ops : Array Oper} {l : List Oper} {Kk : Act → World → Prop} {E : Env} {A : Asn} {ty : TypeId} {ps : String} {af : Array Edge} {t : TypeId}
structure SetAt (w0 : World) (A : Asn) (b : Nat) (ks : List (Int × Int)) : Prop where
  out : ∀ w, Sat w0 w A → ∃ es clock m, w.heap[b]? = some (.map es clock) ∧ es.toList.map (fun e => (e.key, e.val)) = m.map (fun p => (k2 p.1, Value.bool p.2)) ∧ ∀ k, mget m k = if k ∈ ks then some true else none
theorem SetAt.left {C : Asn} {b : Nat} {ks : List (Int × Int)} (h : SetAt w0 A b ks) : SetAt w0 (A * C) b ks := ⟨fun w hs => h.out w hs.weak⟩
end
end Go.Proofs.Yteopadjihklkmaa
end

section
namespace Go.Proofs.Yteopadjihklkmaa
open Go Go.Proofs
section
variable {P : Program} {n : Nat} {w0 : World} {E : Env} {A : Asn} {ty : TypeId}
theorem OpOk.loadFl1E {α : Type} {enc : α → List Value} {t : TypeId} {d : TypeDesc} {x : Operand} {v u : Value} {i j m size : Nat} {ys : List α} {z y : α} (he : ys.getD i z = y) (hu : P.underlying t = some d) (hd : aggD d = false) (hx : ev E x = some (.pointer (some ((adr v).add (i * size + j)))))
    (rd : Rd w0 A v size m (Fl enc ys)) (hs : ∀ y, (enc y).length = size) (h0 : Nat.ble 1 size = true) (hi : i < m) (hj : (enc y)[j]? = some u) : OpOk P n w0 (.load t x) ty E A u := by
  subst he
  exact OpOk.loadFl1 z hu hd hx rd hs h0 hi hj
end
end Go.Proofs.Yteopadjihklkmaa
end

section
namespace Go.Proofs.Yteopadjihklkmaa
open Go Go.Proofs
set_option maxRecDepth 100000
theorem FlDrop {α : Type} {enc : α → List Value} {s : Nat} (h : ∀ x, (enc x).length = s) : ∀ (xs : List α) (i : Nat), (Fl enc xs).drop (i * s) = Fl enc (xs.drop i)
  | xs, 0 => by simp
  | [], i + 1 => by simp [Fl]
  | x :: r, i + 1 => by
    rw [show Fl enc (x :: r) = enc x ++ Fl enc r from rfl, show (i + 1) * s = (enc x).length + i * s by rw [h x, Nat.succ_mul, Nat.add_comm], List.drop_append, List.drop_eq_nil_of_le (by omega), List.nil_append]
    rw [show (enc x).length + i * s - (enc x).length = i * s by omega, FlDrop h r i]
    rfl
theorem FlTake {α : Type} {enc : α → List Value} {s : Nat} (h : ∀ x, (enc x).length = s) : ∀ (xs : List α) (i : Nat), (Fl enc xs).take (i * s) = Fl enc (xs.take i)
  | xs, 0 => by simp [Fl]
  | [], i + 1 => by simp [Fl]
  | x :: r, i + 1 => by
    rw [show Fl enc (x :: r) = enc x ++ Fl enc r from rfl, show (i + 1) * s = (enc x).length + i * s by rw [h x, Nat.succ_mul, Nat.add_comm], List.take_append, List.take_of_length_le (by omega)]
    rw [show (enc x).length + i * s - (enc x).length = i * s by omega, FlTake h r i]
    rfl
theorem FlSet {α : Type} {enc : α → List Value} {s : Nat} (h : ∀ x, (enc x).length = s) (xs : List α) {i : Nat} (hi : i < xs.length) (y : α) : (Fl enc xs).take (i * s) ++ enc y ++ (Fl enc xs).drop (i * s + s) = Fl enc (xs.set i y) := by
  rw [show i * s + s = (i + 1) * s by rw [Nat.succ_mul], FlTake h, FlDrop h, List.set_eq_take_append_cons_drop, if_pos hi]
  simp [Fl, List.append_assoc]
section
variable {P : Program} {n : Nat} {w0 : World} {ops : Array Oper} {l : List Oper} {K : Act → World → Prop} {E : Env} {A : Asn} {ty : TypeId} {ps : String} {af : Array Edge}
theorem RunL.storeOwnM {t e : TypeId} {x y : Operand} {v u : Value} {us : List Value} {q m k size : Nat} {xs : List Value} {A1 : Asn} {zz : Value} {bb : Nat} (hz : TyI P t zz k bb) (hx : ev E x = some (.pointer (some ((adr v).add q)))) (hy : ev E y = some u) (hc : u.cells.toList = us) (hk : us.length = k) (h1 : ∀ w ∈ us, w.oneCell' = true)
    (hA : A = A1 * own e size v m xs) (hi : q + k ≤ m * size) (h0 : 0 < k) (r : RunL P n w0 ops l K E (A1 * own e size v m (xs.take q ++ us ++ xs.drop (q + k)))) :
    RunL P n w0 ops ({ dst := none, op := .store t x y, type := ty, pos := ps, after := af, guard := none } :: l) K E A := by
  subst hA
  refine RunL.unit (X := Unit) (fun _ => A1 * own e size v m (xs.take q ++ us ++ xs.drop (q + k))) (fun a w he hs => ?_) fun _ => r
  obtain ⟨f, hf, hsz⟩ := Option.map_eq_some_iff.1 hz.size
  have hl := hs.ownLen.1
  rcases hs.ownForm with ⟨_, rfl, _⟩ | ⟨g, cap, cur, rfl, h2, h3, h4, h5, s⟩
  · omega
  · have hq : q + k ≤ cur.size := by rw [h4]; exact Nat.le_trans hi (Nat.mul_le_mul_right _ h2)
    have ha : (adr (.slice (some ⟨g, 0, none⟩) m cap)).add q = ⟨g, q, none⟩ := by
      show (⟨g, 0, none⟩ : Addr).add q = _
      unfold Addr.add
      split <;> simp_all
    rw [ha] at hx
    have hst := run_storeCells_at P g q e us 0 cur w s.get (by omega) h1
    simp only [Nat.add_zero, hk] at hst
    have hcs : u.cells.size = k := by rw [← hk, ← hc]; simp
    refine ⟨(), w.setRow g (cur.toList.take q ++ us ++ cur.toList.drop (q + k)).toArray, ?_, ?_⟩
    · simp [execOp, he.eval hx, he.eval hy, Instr.storeAt, Instr.sureAddr, storeVar, sizeOf, typeInfo, hf, hsz, hc, hcs, hst]
    · have hlen : (cur.toList.take q ++ us ++ cur.toList.drop (q + k)).length = cur.size := by
        rw [List.length_append, List.length_append, List.length_take, List.length_drop, hk, Array.length_toList]; omega
      have s2 : Sat w0 (w.setRow g (cur.toList.take q ++ us ++ cur.toList.drop (q + k)).toArray) (A1 * pts g (.cells (cur.toList.take q ++ us ++ cur.toList.drop (q + k)).toArray e (0, 0))) :=
        s.upd rfl rfl rfl (by simp) (fun p h _ => setRow_other w g p _ h) (setRow_heap w g cur _ e _ s.get)
      refine s2.entr (own_of_pts ?_ h2 h3 (by rw [List.size_toArray, hlen]; exact h4) ?_)
      · rw [List.length_append, List.length_append, List.length_take, List.length_drop, hk]; omega
      · rw [← h5]
        show (cur.toList.take q ++ us ++ cur.toList.drop (q + k)).take (m * size) = _
        have hcl : cur.toList.length = cur.size := by simp
        rw [List.take_append, List.take_append, List.length_append, List.length_take, hk, List.take_take, List.take_of_length_le (l := us) (by rw [hk]; omega), List.take_take, List.drop_take]
        congr 2
        · rw [Nat.min_comm]
        · congr 1
          omega
theorem RunL.storeFl {α : Type} {enc : α → List Value} [OneC enc] {t e : TypeId} {x y : Operand} {v : Value} {cs : Array Value} {i m size : Nat} {ys : List α} {A1 : Asn} {zz : Value} {bb : Nat} (b : α) (hz : TyI P t zz size bb) (hx : ev E x = some (.pointer (some ((adr v).add (i * size))))) (hy : ev E y = some (.agg cs)) (hc : cs.toList = enc b)
    (hs : ∀ y, (enc y).length = size) (h0 : Nat.ble 1 size = true) (hA : A = A1 * own e size v m (Fl enc ys)) (hm : ys.length = m) (hi : i < m) (r : RunL P n w0 ops l K E (A1 * own e size v m (Fl enc (ys.set i b)))) :
    RunL P n w0 ops ({ dst := none, op := .store t x y, type := ty, pos := ps, after := af, guard := none } :: l) K E A := by
  have hle : i * size + size ≤ m * size := by
    have := Nat.mul_le_mul_right size (show i + 1 ≤ m by omega)
    rwa [Nat.succ_mul] at this
  refine RunL.storeOwnM (us := enc b) hz hx hy hc (hs b) (fun w hw => OneC.one (enc := enc) b w hw) hA hle (Nat.le_of_ble_eq_true h0) ?_
  rw [FlSet hs ys (by omega) b]
  exact r
/-- An element of one cell. -/
theorem OpOk.loadRow {α : Type} {enc : α → List Value} {t : TypeId} {d : TypeDesc} {x : Operand} {v u : Value} {i m : Nat} {ys : List α} (z : α) (hu : P.underlying t = some d) (hd : aggD d = false) (hx : ev E x = some (.pointer (some ((adr v).add (i + 0)))))
    (rd : Rd w0 A v 1 m (Fl enc ys)) (hs : ∀ y, (enc y).length = 1) (hi : i < m) (hj : (enc (ys.getD i z))[0]? = some u) : OpOk P n w0 (.load t x) ty E A u :=
  OpOk.loadFl1 (i := i) (j := 0) z hu hd (by rw [Nat.mul_one]; exact hx) rd hs rfl hi hj
end
end Go.Proofs.Yteopadjihklkmaa
end

section
namespace Go.Proofs.Yteopadjihklkmaa
open Go Go.Proofs
set_option maxRecDepth 100000
set_option maxHeartbeats 4000000
set_option linter.unusedSimpArgs false
set_option linter.unusedVariables false
/-- An entry: kind, owner, number, slot. -/
abbrev En := Int × Int × Int × Int
def encT111 : En → List Value := fun (k, o, i, s) => [.int .i64 k, .int .i64 o, .int .i64 i, .int .i64 s]
instance : OneC encT111 := ⟨fun ⟨k, o, i, s⟩ u hu => by
  simp only [encT111, List.mem_cons, List.not_mem_nil, or_false] at hu
  rcases hu with rfl | rfl | rfl | rfl <;> rfl⟩
abbrev encT208 := encF
def rightP (e : En) : Prop := 1 ≤ e.1 ∧ e.1 < 5 ∧ 1 ≤ e.2.1 ∧ e.2.1 ≤ 4 ∧ 1 ≤ e.2.2.1 ∧ e.2.2.1 ≤ 65535
instance (e : En) : Decidable (rightP e) := inferInstanceAs (Decidable (_ ∧ _))
def namedP (a b : Int) : Prop := 1 ≤ a ∧ a ≤ 65535 ∧ 1 ≤ b ∧ b ≤ 4
instance (a b : Int) : Decidable (namedP a b) := inferInstanceAs (Decidable (_ ∧ _))
/-- A body filled up; a sector of it. -/
def pad (bs : List UInt8) : List UInt8 := bs ++ List.replicate (30 - bs.length) 0
def sectB (bs : List UInt8) : List UInt8 := sealed (pad bs)
theorem pad_len {bs : List UInt8} (h : bs.length ≤ 30) : (pad bs).length = 30 := by rw [pad, List.length_append, List.length_replicate]; omega
def faceB (a b : Int) : List UInt8 := [70, 66, UInt8.ofNat (a.toNat / 256), UInt8.ofNat a.toNat, UInt8.ofNat b.toNat]
def entB (e : En) : List UInt8 := [UInt8.ofNat e.1.toNat, UInt8.ofNat e.2.1.toNat, UInt8.ofNat (e.2.2.1.toNat / 256), UInt8.ofNat e.2.2.1.toNat, UInt8.ofNat e.2.2.2.toNat]
def listP (q : Int) (n : Nat) (es : List En) : List UInt8 := [UInt8.ofNat (q.toNat / 256), UInt8.ofNat q.toNat, UInt8.ofNat n] ++ es.flatMap entB
abbrev listB (q : Int) (es : List En) : List UInt8 := listP q es.length es
def okE (e : En) : Prop := 0 ≤ e.1 ∧ e.1 ≤ 255 ∧ 0 ≤ e.2.1 ∧ e.2.1 ≤ 255 ∧ 0 ≤ e.2.2.1 ∧ e.2.2.1 ≤ 65535 ∧ 0 ≤ e.2.2.2 ∧ e.2.2.2 ≤ 255
theorem fits16 {v : Int} (h : 0 ≤ v) (h2 : v ≤ 65535) : fitsF (16, v) = true := by
  simp only [fitsF, rightF, decide_eq_true_eq]
  refine ⟨by decide, by decide, h, ?_⟩
  show v / 2 ^ 16 = 0
  omega
theorem fits8 {v : Int} (h : 0 ≤ v) (h2 : v ≤ 255) : fitsF (8, v) = true := by
  simp only [fitsF, rightF, decide_eq_true_eq]
  refine ⟨by decide, by decide, h, ?_⟩
  show v / 2 ^ 8 = 0
  omega
theorem face_bits (a b : Int) : ([] : List Bool) ++ fieldBits [(16, 17986), (16, a), (8, b)] = bytesBits (faceB a b) := by
  have e : fieldBits [(16, 17986), (16, a), (8, b)] = bitsOf 16 17986 ++ (bitsOf 16 a.toNat ++ (bitsOf 8 b.toNat ++ [])) := rfl
  have e2 : faceB a b = [UInt8.ofNat (17986 / 256), UInt8.ofNat 17986] ++ ([UInt8.ofNat (a.toNat / 256), UInt8.ofNat a.toNat] ++ [UInt8.ofNat b.toNat]) := rfl
  rw [List.nil_append, e, e2, bytesBits_append, bytesBits_append, ← bits16, ← bits16, ← bits8, List.append_nil]
theorem ent_bits (k o i s : Int) : fieldBits [(8, k), (8, o), (16, i), (8, s)] = bytesBits (entB (k, o, i, s)) := by
  have e : fieldBits [(8, k), (8, o), (16, i), (8, s)] = bitsOf 8 k.toNat ++ (bitsOf 8 o.toNat ++ (bitsOf 16 i.toNat ++ (bitsOf 8 s.toNat ++ []))) := rfl
  have e2 : entB (k, o, i, s) = [UInt8.ofNat k.toNat] ++ ([UInt8.ofNat o.toNat] ++ ([UInt8.ofNat (i.toNat / 256), UInt8.ofNat i.toNat] ++ [UInt8.ofNat s.toNat])) := rfl
  rw [e, e2, bytesBits_append, bytesBits_append, bytesBits_append, ← bits16, ← bits8, ← bits8, ← bits8, List.append_nil]
theorem head_bits (q : Int) (n : Nat) : ([] : List Bool) ++ fieldBits [(16, q), (8, (n : Int))] = bytesBits [UInt8.ofNat (q.toNat / 256), UInt8.ofNat q.toNat, UInt8.ofNat n] := by
  have e : fieldBits [(16, q), (8, (n : Int))] = bitsOf 16 q.toNat ++ (bitsOf 8 n ++ []) := rfl
  have e2 : [UInt8.ofNat (q.toNat / 256), UInt8.ofNat q.toNat, UInt8.ofNat n] = [UInt8.ofNat (q.toNat / 256), UInt8.ofNat q.toNat] ++ [UInt8.ofNat n] := rfl
  rw [List.nil_append, e, e2, bytesBits_append, ← bits16, ← bits8, List.append_nil]
theorem ents_len : ∀ es : List En, (es.flatMap entB).length = 5 * es.length
  | [] => rfl
  | e :: r => by rw [List.flatMap_cons, List.length_append, ents_len r, List.length_cons]; simp only [entB, List.length_cons, List.length_nil]; omega
theorem out_of {A T X : Asn} (g : Grew A T) : ∃ J, T * X = A * J * X := by
  obtain ⟨J, rfl⟩ := g
  exact ⟨J, rfl⟩
section
variable {w0 : World} {A : Asn}
theorem s86 {a b : Int} : Spec Try.prog w0 86 [.int .i64 a, .int .i64 b] A (fun v' A' => v' = .bool (decide (namedP a b)) ∧ A' = A) := by
  refine Spec.of_run [(0, .int .i64 a), (1, .int .i64 b)] Try.func86 rfl (Nat.le_of_ble_eq_true rfl) (by repeat (first | exact trivial | refine ⟨rfl, ?_⟩)) ?_
  refine Run.seq ?_
  refine Run.region ?_
  refine RunL.ok (OpOk.assign rfl) rfl ?_
  refine RunL.nil ?_
  refine Run.seq ?_
  refine Run.region ?_
  refine RunL.ok (OpOk.move rfl) rfl ?_
  refine RunL.ok (OpOk.geq rfl rfl) rfl ?_
  refine RunL.ok (OpOk.move rfl) rfl ?_
  refine RunL.splitD (t := 7) rfl (fun x1 => ?_) (fun x1 => ?_)
  · refine RunL.on rfl rfl ?_
    refine RunL.ok (OpOk.move rfl) rfl ?_
    refine RunL.on rfl rfl ?_
    refine RunL.ok (OpOk.leq rfl rfl) rfl ?_
    refine RunL.ok (OpOk.pickT rfl rfl) rfl ?_
    refine RunL.ok (OpOk.move rfl) rfl ?_
    refine RunL.splitD (t := 11) rfl (fun x2 => ?_) (fun x2 => ?_)
    · refine RunL.on rfl rfl ?_
      refine RunL.ok (OpOk.move rfl) rfl ?_
      refine RunL.on rfl rfl ?_
      refine RunL.ok (OpOk.geq rfl rfl) rfl ?_
      refine RunL.ok (OpOk.pickT rfl rfl) rfl ?_
      refine RunL.ok (OpOk.move rfl) rfl ?_
      refine RunL.splitD (t := 15) rfl (fun x3 => ?_) (fun x3 => ?_)
      · refine RunL.on rfl rfl ?_
        refine RunL.ok (OpOk.move rfl) rfl ?_
        refine RunL.on rfl rfl ?_
        refine RunL.ok (OpOk.leq rfl rfl) rfl ?_
        refine RunL.ok (OpOk.pickT rfl rfl) rfl ?_
        refine RunL.ok (OpOk.assign rfl) rfl ?_
        refine RunL.nil ?_
        refine Run.ret1 Try.func86 rfl rfl ?_
        refine ⟨?_, rfl⟩
        congr 1
        rw [eq_comm]
        first
        | (rw [decide_eq_false_iff_not]; unfold namedP; omega)
        | (refine decide_eq_decide.2 ?_; unfold namedP; omega)
      refine RunL.off rfl rfl rfl rfl ?_
      refine RunL.off rfl rfl rfl rfl ?_
      refine RunL.ok (OpOk.pickF rfl rfl) rfl ?_
      refine RunL.ok (OpOk.assign rfl) rfl ?_
      refine RunL.nil ?_
      refine Run.ret1 Try.func86 rfl rfl ?_
      refine ⟨?_, rfl⟩
      congr 1
      rw [eq_comm]
      first
      | (rw [decide_eq_false_iff_not]; unfold namedP; omega)
      | (refine decide_eq_decide.2 ?_; unfold namedP; omega)
    refine RunL.off rfl rfl rfl rfl ?_
    refine RunL.off rfl rfl rfl rfl ?_
    refine RunL.ok (OpOk.pickF rfl rfl) rfl ?_
    refine RunL.ok (OpOk.move rfl) rfl ?_
    refine RunL.off rfl rfl rfl rfl ?_
    refine RunL.off rfl rfl rfl rfl ?_
    refine RunL.ok (OpOk.pickF rfl rfl) rfl ?_
    refine RunL.ok (OpOk.assign rfl) rfl ?_
    refine RunL.nil ?_
    refine Run.ret1 Try.func86 rfl rfl ?_
    refine ⟨?_, rfl⟩
    congr 1
    rw [eq_comm]
    first
    | (rw [decide_eq_false_iff_not]; unfold namedP; omega)
    | (refine decide_eq_decide.2 ?_; unfold namedP; omega)
  refine RunL.off rfl rfl rfl rfl ?_
  refine RunL.off rfl rfl rfl rfl ?_
  refine RunL.ok (OpOk.pickF rfl rfl) rfl ?_
  refine RunL.ok (OpOk.move rfl) rfl ?_
  refine RunL.off rfl rfl rfl rfl ?_
  refine RunL.off rfl rfl rfl rfl ?_
  refine RunL.ok (OpOk.pickF rfl rfl) rfl ?_
  refine RunL.ok (OpOk.move rfl) rfl ?_
  refine RunL.off rfl rfl rfl rfl ?_
  refine RunL.off rfl rfl rfl rfl ?_
  refine RunL.ok (OpOk.pickF rfl rfl) rfl ?_
  refine RunL.ok (OpOk.assign rfl) rfl ?_
  refine RunL.nil ?_
  refine Run.ret1 Try.func86 rfl rfl ?_
  refine ⟨?_, rfl⟩
  congr 1
  rw [eq_comm]
  first
  | (rw [decide_eq_false_iff_not]; unfold namedP; omega)
  | (refine decide_eq_decide.2 ?_; unfold namedP; omega)
theorem s103 {k o i s : Int} : Spec Try.prog w0 103 [.agg #[.int .i64 k, .int .i64 o, .int .i64 i, .int .i64 s]] A (fun v' A' => ∃ J, v' = .bool (decide (rightP (k, o, i, s))) ∧ A' = A * J) := by
  refine Spec.of_run [(0, .agg #[.int .i64 k, .int .i64 o, .int .i64 i, .int .i64 s])] Try.func103 rfl (Nat.le_of_ble_eq_true rfl) (by repeat (first | exact trivial | refine ⟨rfl, ?_⟩)) ?_
  refine Run.seq ?_
  refine Run.region ?_
  refine RunL.box rfl rfl (fun bx1 => ?_)
  refine RunL.ok (OpOk.assign rfl) rfl ?_
  refine RunL.nil ?_
  refine Run.seq ?_
  refine Run.region ?_
  refine RunL.ok (OpOk.fieldAddr fld111_0 rfl) rfl ?_
  refine RunL.ok (OpOk.load rfl rfl rfl (Blk.out Blk.pts _ _ (by first | rfl | assumption))) rfl ?_
  refine RunL.ok (OpOk.geq rfl rfl) rfl ?_
  refine RunL.ok (OpOk.move rfl) rfl ?_
  refine RunL.splitD (t := 6) rfl (fun x2 => ?_) (fun x2 => ?_)
  · refine RunL.on rfl rfl ?_
    refine RunL.ok (OpOk.fieldAddr fld111_0 rfl) rfl ?_
    refine RunL.on rfl rfl ?_
    refine RunL.ok (OpOk.load rfl rfl rfl (Blk.out Blk.pts _ _ (by first | rfl | assumption))) rfl ?_
    refine RunL.on rfl rfl ?_
    refine RunL.ok (OpOk.lss rfl rfl) rfl ?_
    refine RunL.ok (OpOk.pickT rfl rfl) rfl ?_
    refine RunL.ok (OpOk.move rfl) rfl ?_
    refine RunL.splitD (t := 11) rfl (fun x3 => ?_) (fun x3 => ?_)
    · refine RunL.on rfl rfl ?_
      refine RunL.ok (OpOk.fieldAddr fld111_1 rfl) rfl ?_
      refine RunL.on rfl rfl ?_
      refine RunL.ok (OpOk.load rfl rfl rfl (Blk.out Blk.pts _ _ (by first | rfl | assumption))) rfl ?_
      refine RunL.on rfl rfl ?_
      refine RunL.ok (OpOk.geq rfl rfl) rfl ?_
      refine RunL.ok (OpOk.pickT rfl rfl) rfl ?_
      refine RunL.ok (OpOk.move rfl) rfl ?_
      refine RunL.splitD (t := 16) rfl (fun x4 => ?_) (fun x4 => ?_)
      · refine RunL.on rfl rfl ?_
        refine RunL.ok (OpOk.fieldAddr fld111_1 rfl) rfl ?_
        refine RunL.on rfl rfl ?_
        refine RunL.ok (OpOk.load rfl rfl rfl (Blk.out Blk.pts _ _ (by first | rfl | assumption))) rfl ?_
        refine RunL.on rfl rfl ?_
        refine RunL.ok (OpOk.leq rfl rfl) rfl ?_
        refine RunL.ok (OpOk.pickT rfl rfl) rfl ?_
        refine RunL.ok (OpOk.move rfl) rfl ?_
        refine RunL.splitD (t := 21) rfl (fun x5 => ?_) (fun x5 => ?_)
        · refine RunL.on rfl rfl ?_
          refine RunL.ok (OpOk.fieldAddr fld111_2 rfl) rfl ?_
          refine RunL.on rfl rfl ?_
          refine RunL.ok (OpOk.load rfl rfl rfl (Blk.out Blk.pts _ _ (by first | rfl | assumption))) rfl ?_
          refine RunL.on rfl rfl ?_
          refine RunL.ok (OpOk.geq rfl rfl) rfl ?_
          refine RunL.ok (OpOk.pickT rfl rfl) rfl ?_
          refine RunL.ok (OpOk.move rfl) rfl ?_
          refine RunL.splitD (t := 26) rfl (fun x6 => ?_) (fun x6 => ?_)
          · refine RunL.on rfl rfl ?_
            refine RunL.ok (OpOk.fieldAddr fld111_2 rfl) rfl ?_
            refine RunL.on rfl rfl ?_
            refine RunL.ok (OpOk.load rfl rfl rfl (Blk.out Blk.pts _ _ (by first | rfl | assumption))) rfl ?_
            refine RunL.on rfl rfl ?_
            refine RunL.ok (OpOk.leq rfl rfl) rfl ?_
            refine RunL.ok (OpOk.pickT rfl rfl) rfl ?_
            refine RunL.ok (OpOk.assign rfl) rfl ?_
            refine RunL.nil ?_
            refine Run.ret1 Try.func103 rfl rfl ?_
            refine ⟨_, ?_, rfl⟩
            congr 1
            rw [eq_comm]
            first
            | (rw [decide_eq_false_iff_not]; unfold rightP; dsimp only; omega)
            | (refine decide_eq_decide.2 ?_; unfold rightP; dsimp only; omega)
          refine RunL.off rfl rfl rfl rfl ?_
          refine RunL.off rfl rfl rfl rfl ?_
          refine RunL.off rfl rfl rfl rfl ?_
          refine RunL.ok (OpOk.pickF rfl rfl) rfl ?_
          refine RunL.ok (OpOk.assign rfl) rfl ?_
          refine RunL.nil ?_
          refine Run.ret1 Try.func103 rfl rfl ?_
          refine ⟨_, ?_, rfl⟩
          congr 1
          rw [eq_comm]
          first
          | (rw [decide_eq_false_iff_not]; unfold rightP; dsimp only; omega)
          | (refine decide_eq_decide.2 ?_; unfold rightP; dsimp only; omega)
        refine RunL.off rfl rfl rfl rfl ?_
        refine RunL.off rfl rfl rfl rfl ?_
        refine RunL.off rfl rfl rfl rfl ?_
        refine RunL.ok (OpOk.pickF rfl rfl) rfl ?_
        refine RunL.ok (OpOk.move rfl) rfl ?_
        refine RunL.off rfl rfl rfl rfl ?_
        refine RunL.off rfl rfl rfl rfl ?_
        refine RunL.off rfl rfl rfl rfl ?_
        refine RunL.ok (OpOk.pickF rfl rfl) rfl ?_
        refine RunL.ok (OpOk.assign rfl) rfl ?_
        refine RunL.nil ?_
        refine Run.ret1 Try.func103 rfl rfl ?_
        refine ⟨_, ?_, rfl⟩
        congr 1
        rw [eq_comm]
        first
        | (rw [decide_eq_false_iff_not]; unfold rightP; dsimp only; omega)
        | (refine decide_eq_decide.2 ?_; unfold rightP; dsimp only; omega)
      refine RunL.off rfl rfl rfl rfl ?_
      refine RunL.off rfl rfl rfl rfl ?_
      refine RunL.off rfl rfl rfl rfl ?_
      refine RunL.ok (OpOk.pickF rfl rfl) rfl ?_
      refine RunL.ok (OpOk.move rfl) rfl ?_
      refine RunL.off rfl rfl rfl rfl ?_
      refine RunL.off rfl rfl rfl rfl ?_
      refine RunL.off rfl rfl rfl rfl ?_
      refine RunL.ok (OpOk.pickF rfl rfl) rfl ?_
      refine RunL.ok (OpOk.move rfl) rfl ?_
      refine RunL.off rfl rfl rfl rfl ?_
      refine RunL.off rfl rfl rfl rfl ?_
      refine RunL.off rfl rfl rfl rfl ?_
      refine RunL.ok (OpOk.pickF rfl rfl) rfl ?_
      refine RunL.ok (OpOk.assign rfl) rfl ?_
      refine RunL.nil ?_
      refine Run.ret1 Try.func103 rfl rfl ?_
      refine ⟨_, ?_, rfl⟩
      congr 1
      rw [eq_comm]
      first
      | (rw [decide_eq_false_iff_not]; unfold rightP; dsimp only; omega)
      | (refine decide_eq_decide.2 ?_; unfold rightP; dsimp only; omega)
    refine RunL.off rfl rfl rfl rfl ?_
    refine RunL.off rfl rfl rfl rfl ?_
    refine RunL.off rfl rfl rfl rfl ?_
    refine RunL.ok (OpOk.pickF rfl rfl) rfl ?_
    refine RunL.ok (OpOk.move rfl) rfl ?_
    refine RunL.off rfl rfl rfl rfl ?_
    refine RunL.off rfl rfl rfl rfl ?_
    refine RunL.off rfl rfl rfl rfl ?_
    refine RunL.ok (OpOk.pickF rfl rfl) rfl ?_
    refine RunL.ok (OpOk.move rfl) rfl ?_
    refine RunL.off rfl rfl rfl rfl ?_
    refine RunL.off rfl rfl rfl rfl ?_
    refine RunL.off rfl rfl rfl rfl ?_
    refine RunL.ok (OpOk.pickF rfl rfl) rfl ?_
    refine RunL.ok (OpOk.move rfl) rfl ?_
    refine RunL.off rfl rfl rfl rfl ?_
    refine RunL.off rfl rfl rfl rfl ?_
    refine RunL.off rfl rfl rfl rfl ?_
    refine RunL.ok (OpOk.pickF rfl rfl) rfl ?_
    refine RunL.ok (OpOk.assign rfl) rfl ?_
    refine RunL.nil ?_
    refine Run.ret1 Try.func103 rfl rfl ?_
    refine ⟨_, ?_, rfl⟩
    congr 1
    rw [eq_comm]
    first
    | (rw [decide_eq_false_iff_not]; unfold rightP; dsimp only; omega)
    | (refine decide_eq_decide.2 ?_; unfold rightP; dsimp only; omega)
  refine RunL.off rfl rfl rfl rfl ?_
  refine RunL.off rfl rfl rfl rfl ?_
  refine RunL.off rfl rfl rfl rfl ?_
  refine RunL.ok (OpOk.pickF rfl rfl) rfl ?_
  refine RunL.ok (OpOk.move rfl) rfl ?_
  refine RunL.off rfl rfl rfl rfl ?_
  refine RunL.off rfl rfl rfl rfl ?_
  refine RunL.off rfl rfl rfl rfl ?_
  refine RunL.ok (OpOk.pickF rfl rfl) rfl ?_
  refine RunL.ok (OpOk.move rfl) rfl ?_
  refine RunL.off rfl rfl rfl rfl ?_
  refine RunL.off rfl rfl rfl rfl ?_
  refine RunL.off rfl rfl rfl rfl ?_
  refine RunL.ok (OpOk.pickF rfl rfl) rfl ?_
  refine RunL.ok (OpOk.move rfl) rfl ?_
  refine RunL.off rfl rfl rfl rfl ?_
  refine RunL.off rfl rfl rfl rfl ?_
  refine RunL.off rfl rfl rfl rfl ?_
  refine RunL.ok (OpOk.pickF rfl rfl) rfl ?_
  refine RunL.ok (OpOk.move rfl) rfl ?_
  refine RunL.off rfl rfl rfl rfl ?_
  refine RunL.off rfl rfl rfl rfl ?_
  refine RunL.off rfl rfl rfl rfl ?_
  refine RunL.ok (OpOk.pickF rfl rfl) rfl ?_
  refine RunL.ok (OpOk.assign rfl) rfl ?_
  refine RunL.nil ?_
  refine Run.ret1 Try.func103 rfl rfl ?_
  refine ⟨_, ?_, rfl⟩
  congr 1
  rw [eq_comm]
  first
  | (rw [decide_eq_false_iff_not]; unfold rightP; dsimp only; omega)
  | (refine decide_eq_decide.2 ?_; unfold rightP; dsimp only; omega)
theorem s88 {u : Value} {m : Nat} {bs : List UInt8} (rd : Rd w0 A u 1 m (B bs)) (hm : m ≤ 30) : Spec Try.prog w0 88 [u] A (fun v' A' => ∃ J, A' = A * J * own 5 1 v' 32 (B (sealed (bs ++ List.replicate (30 - bs.length) 0)))) := by
  have hl := rd.lenB
  subst hl
  refine Spec.of_run [(0, u)] Try.func88 rfl (Nat.le_of_ble_eq_true rfl) (by repeat (first | exact trivial | refine ⟨rfl, ?_⟩)) ?_
  refine Run.seq ?_
  refine Run.region ?_
  refine RunL.ok (OpOk.assign rfl) rfl ?_
  refine RunL.nil ?_
  refine Run.seq ?_
  refine Run.region ?_
  refine RunL.ok (OpOk.move rfl) rfl ?_
  refine RunL.ok (OpOk.move rfl) rfl ?_
  refine RunL.ok (OpOk.lenR rfl rfl rd rfl) rfl ?_
  refine RunL.ok (OpOk.subN 30 _ rfl rfl rfl rfl (by omega) (by omega)) rfl ?_
  refine RunL.makeB (m := _) rfl ti5 rfl rfl (by omega) rfl (fun vx1 rdx1 => ?_)
  refine RunL.know (fun w s => (s.conv rfl).ownRd0) (fun rdx3 => ?_)
  have alx2 : Alls (GB w0) _ [(u, bs), (vx1, List.replicate (30 - bs.length) 0)] := (Alls.cons (GB.of rd.left) (Alls.cons (GB.of (Rd.right rdx3)) Alls.nil))
  refine RunL.litV (ls := [(u, bs), (vx1, List.replicate (30 - bs.length) 0)]) alx2 rfl ti63 rfl rfl rfl (by decide) rfl (fun vx2 rdx2 => ?_)
  refine RunL.know (fun w s => (s.conv rfl).ownRd0) (fun rdx4 => ?_)
  refine RunL.call cal110 rfl (s110 (Rd.right rdx4) alx2.left (by simp [flatB]; omega)) rfl (fun vx6 Ax6 hx6 => ?_)
  obtain ⟨x7, rfl⟩ := hx6
  refine RunL.ok (OpOk.assign rfl) rfl ?_
  refine RunL.nil ?_
  refine Run.ret1 Try.func88 rfl rfl ?_
  have e : flatB [(u, bs), (vx1, List.replicate (30 - bs.length) 0)] = pad bs := by simp [flatB, pad]
  rw [e, pad_len hm, ← sectB]
  exact out_of (by repeat (first | exact Grew.refl _ | refine Grew.mul ?_ _))
theorem s89 {a b : Int} (hn : namedP a b) : Spec Try.prog w0 89 [.int .i64 a, .int .i64 b] A (fun v' A' => ∃ J, A' = A * J * own 5 1 v' 5 (B (faceB a b))) := by
  obtain ⟨h1, h2, h3, h4⟩ := hn
  have hfit : ([(16, 17986), (16, a), (8, b)] : List (Int × Int)).all fitsF = true := by
    simp only [List.all_cons, List.all_nil, fits16 (show (0 : Int) ≤ 17986 by decide) (by decide), fits16 (show 0 ≤ a by omega) (by omega), fits8 (show 0 ≤ b by omega) (by omega), Bool.and_self]
  have hfb : ([] : List Bool) ++ fieldBits [(16, 17986), (16, a), (8, b)] = bytesBits (faceB a b) := face_bits a b
  have hfl : (bytesBits (faceB a b)).length = 40 := by rw [bytesBits_length]; rfl
  have hpk : pack (bytesBits (faceB a b)) 5 = faceB a b := pack_bytes (faceB a b)
  refine Spec.of_run [(0, .int .i64 a), (1, .int .i64 b)] Try.func89 rfl (Nat.le_of_ble_eq_true rfl) (by repeat (first | exact trivial | refine ⟨rfl, ?_⟩)) ?_
  refine Run.seq ?_
  refine Run.region ?_
  refine RunL.ok (OpOk.assign rfl) rfl ?_
  refine RunL.nil ?_
  refine Run.seq ?_
  refine Run.region ?_
  refine RunL.alloc ti205 rfl (fun bx1 => ?_)
  refine RunL.ent (newT205 _ _) ?_
  refine RunL.nil ?_
  refine Run.seq ?_
  refine Run.region ?_
  refine RunL.ok (OpOk.build (cells := #[.int (IntKind.i64) (16), .int (IntKind.i64) (17986)]) rfl (fun w => run_build w 208 _ _ (by rfl))) rfl ?_
  refine RunL.ok (OpOk.move rfl) rfl ?_
  refine RunL.ok (OpOk.build (cells := #[.int (IntKind.i64) (16), .int (IntKind.i64) (a)]) rfl (fun w => run_build w 208 _ _ (by rfl))) rfl ?_
  refine RunL.ok (OpOk.move rfl) rfl ?_
  refine RunL.ok (OpOk.build (cells := #[.int (IntKind.i64) (8), .int (IntKind.i64) (b)]) rfl (fun w => run_build w 208 _ _ (by rfl))) rfl ?_
  refine RunL.litFl (enc := encT208) [(16, 17986), (16, a), (8, b)] rfl ti208 rfl (fun _ => rfl) rfl rfl (by decide) (by decide) rfl (fun vx2 rdx2 => ?_)
  refine RunL.know (fun w s => (s.conv rfl).ownRd0) (fun rdx3 => ?_)
  refine RunL.mem (frc (frl rfl) (frc (frl rfl) rfl)) ?_
  refine RunL.call cal112 rfl (s112a (Rd.right rdx3) (by assumption) (by decide)) rfl (fun vx4 Ax4 hx4 => ?_)
  obtain ⟨x5, ⟨rfl, rfl⟩⟩ := hx4
  refine RunL.nil ?_
  refine Run.seq ?_
  refine Run.region ?_
  rw [hfb]
  refine RunL.call cal113 rfl (s113 (by omega)) rfl (fun vy1 Ay1 hy1 => ?_)
  obtain rfl := hy1
  refine RunL.ok (OpOk.assign rfl) rfl ?_
  refine RunL.nil ?_
  refine Run.ret1 Try.func89 rfl rfl ?_
  rw [hfl]
  show ∃ J, _ * own 5 1 _ 5 (B (pack (bytesBits (faceB a b)) 5)) = _
  rw [hpk]
  exact out_of (by repeat (first | exact Grew.refl _ | refine Grew.mul ?_ _))
theorem s99 {q : Int} {u : Value} {m : Nat} {es : List En} (rd : Rd w0 A u 4 m (Fl encT111 es)) (hq : 0 ≤ q) (hq2 : q ≤ 65535) (hm : m ≤ 255) (hes : ∀ e ∈ es, okE e) : Spec Try.prog w0 99 [.int .i64 q, u] A (fun v' A' => ∃ J, A' = A * J * own 5 1 v' (3 + 5 * m) (B (listB q es))) := by
  have hl := rd.lenFl (fun _ => rfl) (by decide)
  subst hl
  have hfit : ([(16, q), (8, (es.length : Int))] : List (Int × Int)).all fitsF = true := by
    simp only [List.all_cons, List.all_nil, fits16 hq (by omega), fits8 (show (0 : Int) ≤ es.length by omega) (by omega), Bool.and_self]
  refine Spec.of_run [(0, .int .i64 q), (1, u)] Try.func99 rfl (Nat.le_of_ble_eq_true rfl) (by repeat (first | exact trivial | refine ⟨rfl, ?_⟩)) ?_
  refine Run.seq ?_
  refine Run.region ?_
  refine RunL.ok (OpOk.assign rfl) rfl ?_
  refine RunL.nil ?_
  refine Run.seq ?_
  refine Run.region ?_
  refine RunL.alloc ti205 rfl (fun bx1 => ?_)
  refine RunL.ent (newT205 _ _) ?_
  refine RunL.nil ?_
  refine Run.seq ?_
  refine Run.region ?_
  refine RunL.ok (OpOk.move rfl) rfl ?_
  refine RunL.ok (OpOk.build (cells := #[.int (IntKind.i64) (16), .int (IntKind.i64) (q)]) rfl (fun w => run_build w 208 _ _ (by rfl))) rfl ?_
  refine RunL.ok (OpOk.move rfl) rfl ?_
  refine RunL.ok (OpOk.lenR rfl rfl rd.left.left rfl) rfl ?_
  refine RunL.ok (OpOk.build (cells := #[.int (IntKind.i64) (8), .int (IntKind.i64) (↑es.length)]) rfl (fun w => run_build w 208 _ _ (by rfl))) rfl ?_
  refine RunL.litFl (enc := encT208) [(16, q), (8, ↑es.length)] rfl ti208 rfl (fun _ => rfl) rfl rfl (by decide) (by decide) rfl (fun vx2 rdx2 => ?_)
  refine RunL.know (fun w s => (s.conv rfl).ownRd0) (fun rdx3 => ?_)
  refine RunL.mem (frc (frl rfl) (frc (frl rfl) rfl)) ?_
  refine RunL.call cal112 rfl (s112a (Rd.right rdx3) (by assumption) (by decide)) rfl (fun vx4 Ax4 hx4 => ?_)
  obtain ⟨x5, ⟨rfl, rfl⟩⟩ := hx4
  refine RunL.nil ?_
  refine Run.seq ?_
  refine Run.seq ?_
  refine Run.region ?_
  refine RunL.ok (OpOk.move rfl) rfl ?_
  refine RunL.ok (OpOk.lenR rfl rfl rd.left.left.left rfl) rfl ?_
  refine RunL.ok (OpOk.move rfl) rfl ?_
  refine RunL.nil ?_
  refine Run.block ?_
  rw [head_bits]
  have hl0 : ∀ i, i ≤ es.length → (bytesBits (listP q es.length (es.take i))).length = 8 * (3 + 5 * i) := fun i hi => by
    rw [bytesBits_length, listP, List.length_append, ents_len, List.length_take, Nat.min_eq_left hi]
    rfl
  refine Run.jump ((Run.loopJ (X := Nat × Asn × Value) (fun x => [(17, .int .i64 (x.1 : Int)), (16, .int .i64 (es.length : Int)), (15, u), (5, .pointer (some ⟨bx1, 0, none⟩))]) (fun x => A * x.2.1 * pts bx1 (.cells #[x.2.2, .int .i64 ((((bytesBits (listP q es.length (es.take x.1)))).length : Nat) : Int)] 205 (0, 0)) * own 5 1 x.2.2 ((((bytesBits (listP q es.length (es.take x.1)))).length + 7) / 8) (B (pack ((bytesBits (listP q es.length (es.take x.1)))) ((((bytesBits (listP q es.length (es.take x.1)))).length + 7) / 8)))) (fun x => x.1 ≤ es.length) (fun x => es.length - x.1) (0, _, x5) (Nat.zero_le _) (fun x hx ih => ?_))) ⟨rfl, rfl, rfl, rfl, trivial⟩ (Grew.of (Eq.trans (frc rfl (frc rfl rfl)) (congrArg (· * _) (congrArg (· * _) as1))) (Grew.refl _))
  obtain ⟨i, J, v⟩ := x
  simp only at hx ih ⊢
  have hli := hl0 i hx
  rcases Nat.lt_or_ge i es.length with hlt | hge
  · have hoke := hes _ (getD_mem hlt)
    have htk : listP q es.length (es.take i) ++ entB (es.getD i default) = listP q es.length (es.take (i + 1)) := by
      rw [listP, listP, take_next hlt, List.flatMap_append, List.append_assoc]; simp
    obtain ⟨e, hoe⟩ : ∃ e, es.getD i default = e := ⟨_, rfl⟩
    rw [hoe] at hoke htk
    obtain ⟨k, o, d, s⟩ := e
    obtain ⟨a1, a2, a3, a4, a5, a6, a7, a8⟩ := hoke
    dsimp only at a1 a2 a3 a4 a5 a6 a7 a8
    have hfe : ([(8, k), (8, o), (16, d), (8, s)] : List (Int × Int)).all fitsF = true := by
      simp only [List.all_cons, List.all_nil, fits16 a5 a6, fits8 a1 a2, fits8 a3 a4, fits8 a7 a8, Bool.and_self]
    refine Run.seq ?_
    refine Run.region ?_
    refine RunL.ok (OpOk.asT (OpOk.lss rfl rfl) (by omega)) rfl ?_
    refine RunL.nil ?_
    refine Run.seq ?_
    refine Run.condT rfl ?_
    refine Run.skip ?_
    refine Run.seq ?_
    refine Run.block ?_
    refine Run.seq ?_
    refine Run.region ?_
    refine RunL.ok (OpOk.idxN rfl ti111 rfl rd.left.left.left rfl (by omega)) rfl ?_
    refine RunL.ok (OpOk.loadFlE (by assumption) rfl rfl ti111 rfl rd.left.left.left (fun _ => rfl) rfl (by omega)) rfl ?_
    refine RunL.alloc ti111 rfl (fun by1 => ?_)
    refine RunL.storeAll ti111 rfl rfl rfl (fun w hw => OneC.one (enc := encT111) ((k, o, d, s)) w hw) rfl rfl ?_
    refine RunL.nil ?_
    refine Run.region ?_
    refine RunL.ok (OpOk.fieldAddr fld111_0 rfl) rfl ?_
    refine RunL.ok (OpOk.load rfl rfl rfl (Blk.out Blk.pts _ _ (by first | rfl | assumption))) rfl ?_
    refine RunL.ok (OpOk.build (cells := #[.int (IntKind.i64) (8), .int (IntKind.i64) (k)]) rfl (fun w => run_build w 208 _ _ (by rfl))) rfl ?_
    refine RunL.ok (OpOk.fieldAddr fld111_1 rfl) rfl ?_
    refine RunL.ok (OpOk.load rfl rfl rfl (Blk.out Blk.pts _ _ (by first | rfl | assumption))) rfl ?_
    refine RunL.ok (OpOk.build (cells := #[.int (IntKind.i64) (8), .int (IntKind.i64) (o)]) rfl (fun w => run_build w 208 _ _ (by rfl))) rfl ?_
    refine RunL.ok (OpOk.fieldAddr fld111_2 rfl) rfl ?_
    refine RunL.ok (OpOk.load rfl rfl rfl (Blk.out Blk.pts _ _ (by first | rfl | assumption))) rfl ?_
    refine RunL.ok (OpOk.build (cells := #[.int (IntKind.i64) (16), .int (IntKind.i64) (d)]) rfl (fun w => run_build w 208 _ _ (by rfl))) rfl ?_
    refine RunL.ok (OpOk.fieldAddr fld111_3 rfl) rfl ?_
    refine RunL.ok (OpOk.load rfl rfl rfl (Blk.out Blk.pts _ _ (by first | rfl | assumption))) rfl ?_
    refine RunL.ok (OpOk.build (cells := #[.int (IntKind.i64) (8), .int (IntKind.i64) (s)]) rfl (fun w => run_build w 208 _ _ (by rfl))) rfl ?_
    refine RunL.litFl (enc := encT208) [(8, k), (8, o), (16, d), (8, s)] rfl ti208 rfl (fun _ => rfl) rfl rfl (by decide) (by decide) rfl (fun vy2 rdy2 => ?_)
    refine RunL.know (fun w s => (s.conv rfl).ownRd0) (fun rdy3 => ?_)
    refine RunL.mem (frc (frl (frl rfl)) (frc (frl (frl rfl)) rfl)) ?_
    refine RunL.call cal112 rfl (s112a (Rd.right rdy3) (by assumption) (by omega)) rfl (fun vy4 Ay4 hy4 => ?_)
    obtain ⟨y5, ⟨rfl, rfl⟩⟩ := hy4
    refine RunL.nil ?_
    refine Run.inBlock ?_
    refine Run.region ?_
    refine RunL.ok (OpOk.addN _ 1 rfl rfl rfl rfl (by omega)) rfl ?_
    refine RunL.ok (OpOk.move rfl) rfl ?_
    refine RunL.nil ?_
    rw [ent_bits, ← bytesBits_append, htk]
    refine Run.jump ((ih (i + 1, _, y5) (by dsimp only; omega) (by dsimp only; omega))) ⟨rfl, rfl, rfl, rfl, trivial⟩ (Grew.of (congrArg (· * _) (congrArg (· * _) (asg (asg as1)))) (Grew.refl _))
  · obtain rfl : i = es.length := by omega
    clear ih
    rw [List.take_length] at hli ⊢
    refine Run.seq ?_
    refine Run.region ?_
    refine RunL.ok (OpOk.asF (OpOk.lss rfl rfl) (by omega)) rfl ?_
    refine RunL.nil ?_
    refine Run.seq ?_
    refine Run.condF rfl ?_
    refine Run.exit rfl ?_
    refine Run.seq ?_
    refine Run.region ?_
    refine RunL.call cal113 rfl (s113 (by omega)) rfl (fun vy1 Ay1 hy1 => ?_)
    obtain rfl := hy1
    refine RunL.ok (OpOk.assign rfl) rfl ?_
    refine RunL.nil ?_
    refine Run.ret1 Try.func99 rfl rfl ?_
    rw [hli, show (8 * (3 + 5 * es.length) + 7) / 8 = (listP q es.length es).length by rw [listP, List.length_append, ents_len]; simp; omega, pack_bytes, show (listP q es.length es).length = 3 + 5 * es.length by rw [listP, List.length_append, ents_len]; rfl]
    exact out_of (by repeat (first | exact Grew.refl _ | refine Grew.mul ?_ _))
end
end Go.Proofs.Yteopadjihklkmaa
end

section
namespace Go.Proofs.Yteopadjihklkmaa
open Go Go.Proofs
set_option maxRecDepth 100000
set_option maxHeartbeats 4000000
set_option linter.unusedSimpArgs false
set_option linter.unusedVariables false
/-- The first that's so, or -1. -/
def idxE (p : En → Bool) : Nat → List En → Int
  | _, [] => -1
  | i, e :: r => if p e = true then (i : Int) else idxE p (i + 1) r
theorem idxE_any (p : En → Bool) : ∀ (l : List En) (i : Nat), (0 ≤ idxE p i l ↔ l.any p = true) ∧ (idxE p i l = -1 ∨ (i : Int) ≤ idxE p i l ∧ idxE p i l < i + l.length)
  | [], i => by simp [idxE]
  | e :: r, i => by
    have ih := idxE_any p r (i + 1)
    rw [idxE, List.any_cons]
    by_cases h : p e = true
    · rw [if_pos h, h]
      simp
      omega
    · rw [if_neg h, Bool.eq_false_iff.2 h, Bool.false_or]
      refine ⟨ih.1, ?_⟩
      rw [List.length_cons]
      rcases ih.2 with h2 | h2
      · exact .inl h2
      · exact .inr ⟨by omega, by omega⟩
/-- A function value that tells p of an entry. -/
structure Pred (w0 : World) (fv : Value) (M : Asn) (p : En → Bool) : Prop where
  out : ∃ f us, fv = .func (.func f) #[] (List.toArray us) ∧ Callee Try.prog f ∧ ∀ (A : Asn) (e : En), Spec Try.prog w0 f ([.agg (encT111 e).toArray] ++ us) (A * M) (fun v' A' => ∃ J, v' = .bool (p e) ∧ A' = A * J * M)
section
variable {w0 : World} {A : Asn}
theorem idx_spec {fv v : Value} {M : Asn} {p : En → Bool} {m : Nat} {es : List En} (rd : Rd w0 A v 4 m (Fl encT111 es)) (hp : Pred w0 fv M p) :
    Spec Try.prog w0 94 [v, fv] (A * M) (fun v' A' => ∃ J, v' = .int .i64 (idxE p 0 es) ∧ A' = A * J * M) := by
  have hl0 := rd.lenFl (fun _ => rfl) (by decide)
  subst hl0
  have hmx := rd.max
  obtain ⟨f, us, rfl, hc, hs⟩ := hp.out
  refine Spec.of_run [(0, v), (1, .func (.func f) #[] (List.toArray us))] Try.func94 rfl (Nat.le_of_ble_eq_true rfl) (by repeat (first | exact trivial | refine ⟨rfl, ?_⟩)) ?_
  refine Run.seq ?_
  refine Run.region ?_
  refine RunL.ok (OpOk.assign rfl) rfl ?_
  refine RunL.nil ?_
  refine Run.seq ?_
  refine Run.seq ?_
  refine Run.region ?_
  refine RunL.ok (OpOk.move rfl) rfl ?_
  refine RunL.ok (OpOk.lenR rfl rfl rd.left rfl) rfl ?_
  refine RunL.ok (OpOk.move rfl) rfl ?_
  refine RunL.nil ?_
  refine Run.block ?_
  refine Run.jump ((Run.loopJ (X := Nat × Asn) (fun x => [(8, .int .i64 (x.1 : Int)), (7, .int .i64 (es.length : Int)), (6, v), (0, v), (1, .func (.func f) #[] (List.toArray us))]) (fun x => A * x.2 * M) (fun x => x.1 ≤ es.length ∧ idxE p 0 es = idxE p x.1 (es.drop x.1)) (fun x => es.length - x.1) (0, _) ⟨Nat.zero_le _, rfl⟩ (fun x hx ih => ?_))) ⟨rfl, rfl, rfl, rfl, rfl, trivial⟩ (Grew.of (congrArg (· * _) as0) (Grew.refl _))
  obtain ⟨i, J⟩ := x
  simp only at hx ih ⊢
  obtain ⟨hi, hd⟩ := hx
  rcases Nat.lt_or_ge i es.length with hlt | hge
  · rw [drop_next hlt, idxE] at hd
    refine Run.seq ?_
    refine Run.region ?_
    refine RunL.ok (OpOk.asT (OpOk.lss rfl rfl) (by omega)) rfl ?_
    refine RunL.nil ?_
    refine Run.seq ?_
    refine Run.condT rfl ?_
    refine Run.skip ?_
    refine Run.seq ?_
    refine Run.block ?_
    refine Run.seq ?_
    refine Run.region ?_
    refine RunL.ok (OpOk.move rfl) rfl ?_
    refine RunL.ok (OpOk.assign rfl) rfl ?_
    refine RunL.nil ?_
    refine Run.seq ?_
    refine Run.region ?_
    refine RunL.ok (OpOk.move rfl) rfl ?_
    refine RunL.ok (OpOk.move rfl) rfl ?_
    refine RunL.ok (OpOk.move rfl) rfl ?_
    refine RunL.ok (OpOk.idxN rfl ti111 rfl rd.left.left rfl (by omega)) rfl ?_
    refine RunL.ok (OpOk.loadFl default rfl rfl ti111 rfl rd.left.left (fun _ => rfl) rfl (by omega)) rfl ?_
    refine RunL.callV hc rfl rfl (hs (A * J) (es.getD i default)) rfl (fun u A' h2 => ?_)
    obtain ⟨J2, rfl, rfl⟩ := h2
    cases hpe : p (es.getD i default) with
    | true =>
      rw [if_pos hpe] at hd
      rw [hd]
      refine RunL.nil ?_
      refine Run.condT rfl ?_
      refine Run.seq ?_
      refine Run.region ?_
      refine RunL.ok (OpOk.move rfl) rfl ?_
      refine RunL.ok (OpOk.assign rfl) rfl ?_
      refine RunL.nil ?_
      refine Run.ret1 Try.func94 rfl rfl ?_
      exact ⟨_, rfl, (congrArg (· * _) (asg as1))⟩
    | false =>
      rw [if_neg (by rw [hpe]; decide)] at hd
      refine RunL.nil ?_
      refine Run.condF rfl ?_
      refine Run.skip ?_
      refine Run.inBlock ?_
      refine Run.region ?_
      refine RunL.ok (OpOk.addN _ 1 rfl rfl rfl rfl (by omega)) rfl ?_
      refine RunL.ok (OpOk.move rfl) rfl ?_
      refine RunL.nil ?_
      refine Run.jump ((ih (i + 1, _) ⟨by dsimp only; omega, hd⟩ (by dsimp only; omega))) ⟨rfl, rfl, rfl, rfl, rfl, trivial⟩ (Grew.of (congrArg (· * _) (asg as1)) (Grew.refl _))
  · obtain rfl : i = es.length := by omega
    clear ih
    rw [List.drop_length, idxE] at hd
    rw [hd]
    refine Run.seq ?_
    refine Run.region ?_
    refine RunL.ok (OpOk.asF (OpOk.lss rfl rfl) (by omega)) rfl ?_
    refine RunL.nil ?_
    refine Run.seq ?_
    refine Run.condF rfl ?_
    refine Run.exit rfl ?_
    refine Run.seq ?_
    refine Run.region ?_
    refine RunL.ok (OpOk.assign rfl) rfl ?_
    refine RunL.nil ?_
    refine Run.ret1 Try.func94 rfl rfl ?_
    exact ⟨_, rfl, (congrArg (· * _) as1)⟩
theorem has_spec {fv v : Value} {M : Asn} {p : En → Bool} {m : Nat} {es : List En} (rd : Rd w0 A v 4 m (Fl encT111 es)) (hp : Pred w0 fv M p) :
    Spec Try.prog w0 96 [v, fv] (A * M) (fun v' A' => ∃ J, v' = .bool (es.any p) ∧ A' = A * J * M) := by
  have hx := (idxE_any p es 0).1
  obtain ⟨f, us, hfv, _⟩ := hp.out
  refine Spec.of_run [(0, v), (1, fv)] Try.func96 rfl (Nat.le_of_ble_eq_true rfl) (by repeat (first | exact trivial | refine ⟨rfl, ?_⟩)) ?_
  refine Run.seq ?_
  refine Run.region ?_
  refine RunL.ok (OpOk.assign rfl) rfl ?_
  refine RunL.nil ?_
  refine Run.seq ?_
  refine Run.region ?_
  refine RunL.ok (OpOk.move rfl) rfl ?_
  refine RunL.ok (OpOk.move rfl) rfl ?_
  refine RunL.call cal94 rfl (idx_spec rd hp) rfl (fun v' A' h => ?_)
  obtain ⟨J, rfl, rfl⟩ := h
  refine RunL.ok (OpOk.geq rfl rfl) rfl ?_
  refine RunL.ok (OpOk.assign rfl) rfl ?_
  refine RunL.nil ?_
  refine Run.ret1 Try.func96 rfl rfl ?_
  exact ⟨J, congrArg Value.bool (by rw [Bool.eq_iff_iff, decide_eq_true_eq]; exact hx), rfl⟩
theorem pred_at {b c : Nat} {o i : Int} : Pred w0 (.func (.func 95) #[] #[.pointer (some ⟨b, 0, none⟩), .pointer (some ⟨c, 0, none⟩)]) (pts b (.cells #[.int .i64 o] 3 (0, 0)) * pts c (.cells #[.int .i64 i] 3 (0, 0))) (fun e => decide (e.2.1 = o ∧ e.2.2.1 = i)) := by
  refine ⟨95, [.pointer (some ⟨b, 0, none⟩), .pointer (some ⟨c, 0, none⟩)], rfl, cal95, fun A e => ?_⟩
  obtain ⟨k, o2, i2, s⟩ := e
  rw [← sep_assoc]
  refine Spec.of_run [(0, .agg (encT111 (k, o2, i2, s)).toArray), (1, .pointer (some ⟨b, 0, none⟩)), (2, .pointer (some ⟨c, 0, none⟩))] Try.func95 rfl (Nat.le_of_ble_eq_true rfl) (by repeat (first | exact trivial | refine ⟨rfl, ?_⟩)) ?_
  refine Run.seq ?_
  refine Run.region ?_
  refine RunL.box rfl rfl (fun bx1 => ?_)
  refine RunL.ok (OpOk.assign rfl) rfl ?_
  refine RunL.nil ?_
  refine Run.seq ?_
  refine Run.region ?_
  refine RunL.ok (OpOk.fieldAddr fld111_1 rfl) rfl ?_
  refine RunL.ok (OpOk.load rfl rfl rfl (Blk.out Blk.pts _ _ (by first | rfl | assumption))) rfl ?_
  refine RunL.ok (OpOk.load rfl rfl rfl (Blk.out Blk.pts.left.left _ _ (by first | rfl | assumption))) rfl ?_
  refine RunL.ok (OpOk.eql rfl rfl) rfl ?_
  refine RunL.ok (OpOk.move rfl) rfl ?_
  refine RunL.splitD (t := 9) rfl (fun x2 => ?_) (fun x2 => ?_)
  · refine RunL.on rfl rfl ?_
    refine RunL.ok (OpOk.fieldAddr fld111_2 rfl) rfl ?_
    refine RunL.on rfl rfl ?_
    refine RunL.ok (OpOk.load rfl rfl rfl (Blk.out Blk.pts _ _ (by first | rfl | assumption))) rfl ?_
    refine RunL.on rfl rfl ?_
    refine RunL.ok (OpOk.load rfl rfl rfl (Blk.out Blk.pts.left _ _ (by first | rfl | assumption))) rfl ?_
    refine RunL.on rfl rfl ?_
    refine RunL.ok (OpOk.eql rfl rfl) rfl ?_
    refine RunL.ok (OpOk.pickT rfl rfl) rfl ?_
    refine RunL.ok (OpOk.assign rfl) rfl ?_
    refine RunL.nil ?_
    refine Run.ret1 Try.func95 rfl rfl ?_
    refine ⟨pts bx1 (.cells (Value.agg (encT111 (k, o2, i2, s)).toArray).cells 111 (0, 0)), ?_, ?_⟩
    · simp [x2]
    · simp only [← sep_assoc]
      exact (frc (frl rfl) (frc (frl rfl) rfl))
  refine RunL.off rfl rfl rfl rfl ?_
  refine RunL.off rfl rfl rfl rfl ?_
  refine RunL.off rfl rfl rfl rfl ?_
  refine RunL.off rfl rfl rfl rfl ?_
  refine RunL.ok (OpOk.pickF rfl rfl) rfl ?_
  refine RunL.ok (OpOk.assign rfl) rfl ?_
  refine RunL.nil ?_
  refine Run.ret1 Try.func95 rfl rfl ?_
  refine ⟨pts bx1 (.cells (Value.agg (encT111 (k, o2, i2, s)).toArray).cells 111 (0, 0)), ?_, ?_⟩
  · simp [x2]
  · simp only [← sep_assoc]
    exact (frc (frl rfl) (frc (frl rfl) rfl))
theorem pred_free {b : Nat} {z : Int} : Pred w0 (.func (.func 97) #[] #[.pointer (some ⟨b, 0, none⟩)]) (pts b (.cells #[.int .i64 z] 3 (0, 0))) (fun e => decide (e.2.2.2 = z)) := by
  refine ⟨97, [.pointer (some ⟨b, 0, none⟩)], rfl, cal97, fun A e => ?_⟩
  obtain ⟨k, o2, i2, s⟩ := e
  refine Spec.of_run [(0, .agg (encT111 (k, o2, i2, s)).toArray), (1, .pointer (some ⟨b, 0, none⟩))] Try.func97 rfl (Nat.le_of_ble_eq_true rfl) (by repeat (first | exact trivial | refine ⟨rfl, ?_⟩)) ?_
  refine Run.seq ?_
  refine Run.region ?_
  refine RunL.box rfl rfl (fun bx1 => ?_)
  refine RunL.ok (OpOk.assign rfl) rfl ?_
  refine RunL.nil ?_
  refine Run.seq ?_
  refine Run.region ?_
  refine RunL.ok (OpOk.fieldAddr fld111_3 rfl) rfl ?_
  refine RunL.ok (OpOk.load rfl rfl rfl (Blk.out Blk.pts _ _ (by first | rfl | assumption))) rfl ?_
  refine RunL.ok (OpOk.load rfl rfl rfl (Blk.out Blk.pts.left _ _ (by first | rfl | assumption))) rfl ?_
  refine RunL.ok (OpOk.eql rfl rfl) rfl ?_
  refine RunL.ok (OpOk.assign rfl) rfl ?_
  refine RunL.nil ?_
  refine Run.ret1 Try.func97 rfl rfl ?_
  exact ⟨_, rfl, (Eq.trans (frc (frl rfl) rfl) (congrArg (· * _) as1))⟩
theorem pred_parse {b : Nat} {x : En} : Pred w0 (.func (.func 114) #[] #[.pointer (some ⟨b, 0, none⟩)]) (pts b (.cells (Value.agg (encT111 x).toArray).cells 111 (0, 0))) (fun e => decide (e.2.2.2 = x.2.2.2)) := by
  refine ⟨114, [.pointer (some ⟨b, 0, none⟩)], rfl, cal114, fun A e => ?_⟩
  obtain ⟨k, o2, i2, s⟩ := e
  obtain ⟨k3, o3, i3, s3⟩ := x
  refine Spec.of_run [(0, .agg (encT111 (k, o2, i2, s)).toArray), (1, .pointer (some ⟨b, 0, none⟩))] Try.func114 rfl (Nat.le_of_ble_eq_true rfl) (by repeat (first | exact trivial | refine ⟨rfl, ?_⟩)) ?_
  refine Run.seq ?_
  refine Run.region ?_
  refine RunL.box rfl rfl (fun bx1 => ?_)
  refine RunL.ok (OpOk.assign rfl) rfl ?_
  refine RunL.nil ?_
  refine Run.seq ?_
  refine Run.region ?_
  refine RunL.ok (OpOk.fieldAddr fld111_3 rfl) rfl ?_
  refine RunL.ok (OpOk.load rfl rfl rfl (Blk.out Blk.pts _ _ (by first | rfl | assumption))) rfl ?_
  refine RunL.ok (OpOk.fieldAddr fld111_3 rfl) rfl ?_
  refine RunL.ok (OpOk.load rfl rfl rfl (Blk.out Blk.pts.left _ _ (by first | rfl | assumption))) rfl ?_
  refine RunL.ok (OpOk.eql rfl rfl) rfl ?_
  refine RunL.ok (OpOk.assign rfl) rfl ?_
  refine RunL.nil ?_
  refine Run.ret1 Try.func114 rfl rfl ?_
  exact ⟨_, rfl, (Eq.trans (frc (frl rfl) rfl) (congrArg (· * _) as1))⟩
/-- Where a product is, or -1. -/
def atE (o i : Int) (es : List En) : Int := idxE (fun e => decide (e.2.1 = o ∧ e.2.2.1 = i)) 0 es
/-- Is the slot taken? -/
def takenE (es : List En) (s : Int) : Bool := es.any fun e => decide (e.2.2.2 = s)
/-- The least free slot, from one on, so many left. -/
def freeN (es : List En) : Nat → Int → Int
  | 0, _ => -1
  | n + 1, s => if takenE es s = false then s else freeN es n (s + 1)
def freeE (es : List En) : Int := freeN es 6 0
theorem s45 {a b c d o i : Int} {u : Value} {m : Nat} {es : List En} (rd : Rd w0 A u 4 m (Fl encT111 es)) :
    Spec Try.prog w0 45 [.agg #[.int .i64 a, .int .i64 b, .int .i64 c, .int .i64 d, u], .int .i64 o, .int .i64 i] A (fun v' A' => ∃ J, v' = .int .i64 (atE o i es) ∧ A' = A * J) := by
  obtain ⟨ad, cap, rfl, _, _⟩ := rd.form
  refine Spec.of_run [(0, .agg #[.int .i64 a, .int .i64 b, .int .i64 c, .int .i64 d, .slice ad m cap]), (1, .int .i64 o), (2, .int .i64 i)] Try.func45 rfl (Nat.le_of_ble_eq_true rfl) (by repeat (first | exact trivial | refine ⟨rfl, ?_⟩)) ?_
  refine Run.seq ?_
  refine Run.region ?_
  refine RunL.box rfl rfl (fun bx1 => ?_)
  refine RunL.box1 rfl rfl rfl (fun bx2 => ?_)
  refine RunL.box1 rfl rfl rfl (fun bx3 => ?_)
  refine RunL.ok (OpOk.assign rfl) rfl ?_
  refine RunL.nil ?_
  refine Run.seq ?_
  refine Run.region ?_
  refine RunL.ok (OpOk.fieldAddr fld86_4 rfl) rfl ?_
  refine RunL.ok (OpOk.load rfl rfl rfl (Blk.out Blk.pts.left.left _ _ (by first | rfl | assumption))) rfl ?_
  refine RunL.ok (OpOk.makeFunc rfl rfl) rfl ?_
  refine RunL.call cal94 rfl (Spec.mem (sep_assoc _ _ _) (idx_spec rd.left pred_at)) rfl (fun v' A' h => ?_)
  obtain ⟨J, rfl, rfl⟩ := h
  refine RunL.ok (OpOk.assign rfl) rfl ?_
  refine RunL.nil ?_
  refine Run.ret1 Try.func45 rfl rfl ?_
  exact ⟨_, rfl, (asg (asg as1))⟩
theorem s47 {a b c d : Int} {u : Value} {m : Nat} {es : List En} (rd : Rd w0 A u 4 m (Fl encT111 es)) :
    Spec Try.prog w0 47 [.agg #[.int .i64 a, .int .i64 b, .int .i64 c, .int .i64 d, u]] A (fun v' A' => ∃ J, v' = .int .i64 (freeE es) ∧ A' = A * J) := by
  obtain ⟨ad, cap, rfl, _, _⟩ := rd.form
  refine Spec.of_run [(0, .agg #[.int .i64 a, .int .i64 b, .int .i64 c, .int .i64 d, .slice ad m cap])] Try.func47 rfl (Nat.le_of_ble_eq_true rfl) (by repeat (first | exact trivial | refine ⟨rfl, ?_⟩)) ?_
  refine Run.seq ?_
  refine Run.region ?_
  refine RunL.box rfl rfl (fun bx1 => ?_)
  refine RunL.ok (OpOk.assign rfl) rfl ?_
  refine RunL.nil ?_
  refine Run.seq ?_
  refine Run.seq ?_
  refine Run.region ?_
  refine RunL.ok (OpOk.move rfl) rfl ?_
  refine RunL.nil ?_
  refine Run.block ?_
  refine Run.jump ((Run.loopJ (X := Nat × Asn) (fun x => [(4, .int .i64 (x.1 : Int)), (1, .pointer (some ⟨bx1, 0, none⟩))]) (fun x => A * x.2 * pts bx1 (.cells (Value.agg #[.int .i64 a, .int .i64 b, .int .i64 c, .int .i64 d, .slice ad m cap]).cells 86 (0, 0))) (fun x => x.1 ≤ 6 ∧ freeE es = freeN es (6 - x.1) (x.1 : Int)) (fun x => 6 - x.1) (0, _) ⟨Nat.zero_le _, rfl⟩ (fun x hx ih => ?_))) ⟨rfl, rfl, trivial⟩ (Grew.of (congrArg (· * _) as0) (Grew.refl _))
  obtain ⟨i, J⟩ := x
  simp only at hx ih ⊢
  obtain ⟨hi, hf⟩ := hx
  rcases Nat.lt_or_ge i 6 with hlt | hge
  · rw [show 6 - i = (6 - (i + 1)) + 1 by omega, freeN] at hf
    refine Run.seq ?_
    refine Run.region ?_
    refine RunL.ok (OpOk.asT (OpOk.lss rfl rfl) (by omega)) rfl ?_
    refine RunL.nil ?_
    refine Run.seq ?_
    refine Run.condT rfl ?_
    refine Run.skip ?_
    refine Run.seq ?_
    refine Run.block ?_
    refine Run.seq ?_
    refine Run.region ?_
    refine RunL.ok (OpOk.move rfl) rfl ?_
    refine RunL.alloc ti3 rfl (fun by1 => ?_)
    refine RunL.store ti3 rfl rfl rfl rfl (by exact Nat.le_of_ble_eq_true rfl) (.inl rfl) ?_
    refine RunL.nil ?_
    refine Run.seq ?_
    refine Run.region ?_
    refine RunL.ok (OpOk.fieldAddr fld86_4 rfl) rfl ?_
    refine RunL.ok (OpOk.load rfl rfl rfl (Blk.out Blk.pts.left _ _ (by first | rfl | assumption))) rfl ?_
    refine RunL.ok (OpOk.makeFunc rfl rfl) rfl ?_
    refine RunL.call cal96 rfl (has_spec (A := A * J * pts bx1 (.cells (Value.agg #[.int .i64 a, .int .i64 b, .int .i64 c, .int .i64 d, .slice ad m cap]).cells 86 (0, 0))) rd.left.left pred_free) rfl (fun v' A' h => ?_)
    obtain ⟨J2, rfl, rfl⟩ := h
    cases ht : takenE es (i : Int) with
    | false =>
      rw [if_pos ht] at hf
      rw [hf]
      have ht2 : (es.any fun e => decide (e.2.2.2 = (i : Int))) = false := ht
      rw [ht2]
      refine RunL.ok (OpOk.not rfl) rfl ?_
      refine RunL.nil ?_
      refine Run.condT rfl ?_
      refine Run.seq ?_
      refine Run.region ?_
      refine RunL.ok (OpOk.load rfl rfl rfl (Blk.out Blk.pts _ _ (by first | rfl | assumption))) rfl ?_
      refine RunL.ok (OpOk.assign rfl) rfl ?_
      refine RunL.nil ?_
      refine Run.ret1 Try.func47 rfl rfl ?_
      exact ⟨_, rfl, (asg (asg (asg as1)))⟩
    | true =>
      rw [if_neg (by rw [ht]; decide)] at hf
      have ht2 : (es.any fun e => decide (e.2.2.2 = (i : Int))) = true := ht
      rw [ht2]
      refine RunL.ok (OpOk.not rfl) rfl ?_
      refine RunL.nil ?_
      refine Run.condF rfl ?_
      refine Run.skip ?_
      refine Run.inBlock ?_
      refine Run.region ?_
      refine RunL.ok (OpOk.addN _ 1 rfl rfl rfl rfl (by omega)) rfl ?_
      refine RunL.ok (OpOk.move rfl) rfl ?_
      refine RunL.nil ?_
      refine Run.jump ((ih (i + 1, _) ⟨by dsimp only; omega, hf⟩ (by dsimp only; omega))) ⟨rfl, rfl, trivial⟩ (Grew.of (Eq.trans (frc (frl (frl rfl)) rfl) (congrArg (· * _) (asg (asg as1)))) (Grew.refl _))
  · obtain rfl : i = 6 := by omega
    clear ih
    rw [Nat.sub_self, freeN] at hf
    rw [hf]
    refine Run.seq ?_
    refine Run.region ?_
    refine RunL.ok (OpOk.asF (OpOk.lss rfl rfl) (by omega)) rfl ?_
    refine RunL.nil ?_
    refine Run.seq ?_
    refine Run.condF rfl ?_
    refine Run.exit rfl ?_
    refine Run.seq ?_
    refine Run.region ?_
    refine RunL.ok (OpOk.assign rfl) rfl ?_
    refine RunL.nil ?_
    refine Run.ret1 Try.func47 rfl rfl ?_
    exact ⟨_, rfl, (asg as1)⟩
end
end Go.Proofs.Yteopadjihklkmaa
end

section
namespace Go.Proofs.Yteopadjihklkmaa
open Go Go.Proofs
set_option maxRecDepth 100000
set_option maxHeartbeats 4000000
set_option linter.unusedSimpArgs false
set_option linter.unusedVariables false
/-- What is taken, from where on, and how it ends. -/
structure TakeF (xs : List UInt8) (a : Nat) (e : Int) (ws l : List Int) (a2 : Nat) (e2 : Int) : Prop where
  out : takeL xs a e ws = l ∧ takeA xs a e ws = a2 ∧ takeE xs a e ws = e2
theorem takeF_ok {xs : List UInt8} {a : Nat} {ws : List Int} (h : ws.any badW = false) (hl : widthsN ws ≤ 8 * xs.length - a) : TakeF xs a 0 ws (nums xs a ws) (a + widthsN ws) 0 := by
  have he : takeE xs a 0 ws = 0 := by
    unfold takeE
    rw [if_pos rfl, if_neg (by rw [h]; decide), if_neg (by omega)]
  exact ⟨by rw [takeL, if_pos he], by rw [takeA, if_pos he], he⟩
def by1 (bs : List UInt8) (i : Nat) : Int := ((bs.getD i 0).toNat : Nat)
def by2 (bs : List UInt8) (i : Nat) : Int := ((bs.getD i 0).toNat * 256 + (bs.getD (i + 1) 0).toNat : Nat)
theorem n8 (bs : List UInt8) (j : Nat) : ((numAt bs (8 * j) (8 : Int).toNat : Nat) : Int) = by1 bs j := by rw [show (8 : Int).toNat = 8 from rfl, num8]; rfl
theorem n16 (bs : List UInt8) (j : Nat) : ((numAt bs (8 * j) (16 : Int).toNat : Nat) : Int) = by2 bs j := by rw [show (16 : Int).toNat = 16 from rfl, num16]; rfl
/-- The entry that begins at so many bytes. -/
def entA (bs : List UInt8) (j : Nat) : En := (by1 bs j, by1 bs (j + 1), by2 bs (j + 2), by1 bs (j + 4))
theorem take_head {bs : List UInt8} (h : bs.length = 30) : TakeF bs 0 0 [16, 8] [by2 bs 0, by1 bs 2] 24 0 := by
  have := takeF_ok (xs := bs) (a := 0) (ws := [16, 8]) (by decide) (by rw [h]; decide)
  rwa [show nums bs 0 [16, 8] = [by2 bs 0, by1 bs 2] by simp only [nums]; rw [show (0 : Nat) = 8 * 0 from rfl, n16, show 8 * 0 + (16 : Int).toNat = 8 * 2 from rfl, n8]] at this
theorem take_ent {bs : List UInt8} (h : bs.length = 30) {j : Nat} (hj : j + 5 ≤ 30) : TakeF bs (8 * j) 0 [8, 8, 16, 8] [(entA bs j).1, (entA bs j).2.1, (entA bs j).2.2.1, (entA bs j).2.2.2] (8 * (j + 5)) 0 := by
  have := takeF_ok (xs := bs) (a := 8 * j) (ws := [8, 8, 16, 8]) (by decide) (by rw [h]; show 40 ≤ _; omega)
  rw [show 8 * j + widthsN [8, 8, 16, 8] = 8 * (j + 5) by show 8 * j + 40 = _; omega] at this
  rwa [show nums bs (8 * j) [8, 8, 16, 8] = [(entA bs j).1, (entA bs j).2.1, (entA bs j).2.2.1, (entA bs j).2.2.2] by
    simp only [nums, entA]
    rw [n8, show 8 * j + (8 : Int).toNat = 8 * (j + 1) by show 8 * j + 8 = _; omega, n8, show 8 * (j + 1) + (8 : Int).toNat = 8 * (j + 2) by show 8 * (j + 1) + 8 = _; omega, n16, show 8 * (j + 2) + (16 : Int).toNat = 8 * (j + 4) by show 8 * (j + 2) + 16 = _; omega, n8]] at this
/-- A directory's entries; may the next one stand there? -/
def dirD (bs : List UInt8) (n : Nat) : List En := (List.range n).map fun i => entA bs (3 + 5 * i)
def stepD (bs : List UInt8) (i : Nat) : Bool := decide (rightP (entA bs (3 + 5 * i))) && decide ((entA bs (3 + 5 * i)).2.2.2 < 6) && !takenE (dirD bs i) (entA bs (3 + 5 * i)).2.2.2 && decide (atE (entA bs (3 + 5 * i)).2.1 (entA bs (3 + 5 * i)).2.2.1 (dirD bs i) < 0)
def goodD (bs : List UInt8) (n : Nat) : Bool := (List.range n).all (stepD bs)
theorem dirD_len (bs : List UInt8) (n : Nat) : (dirD bs n).length = n := by simp [dirD]
theorem dirD_next (bs : List UInt8) (n : Nat) : dirD bs (n + 1) = dirD bs n ++ [entA bs (3 + 5 * n)] := by simp [dirD, List.range_succ]
theorem goodD_next (bs : List UInt8) (n : Nat) : goodD bs (n + 1) = (goodD bs n && stepD bs n) := by simp [goodD, List.range_succ]
theorem goodD_le {bs : List UInt8} {n k : Nat} (h : goodD bs k = true) (hk : n ≤ k) : goodD bs n = true := by
  simp only [goodD, List.all_eq_true, List.mem_range] at h ⊢
  exact fun i hi => h i (by omega)
/-- What a directory's sector says, if it is right. -/
def headD (bs : List UInt8) : Bool := decide (1 ≤ by2 bs 0) && decide (by1 bs 2 ≤ 5) && goodD bs (by1 bs 2).toNat
def entsD (bs : List UInt8) : List En := dirD bs (by1 bs 2).toNat
theorem by1_nat (bs : List UInt8) (i : Nat) : 0 ≤ by1 bs i ∧ by1 bs i ≤ 255 := by
  have := (bs.getD i 0).toNat_lt
  unfold by1
  omega
theorem dirD_ok {bs : List UInt8} {n : Nat} (h : goodD bs n = true) : ∀ e ∈ dirD bs n, okE e := fun e he => by
  simp only [goodD, List.all_eq_true, List.mem_range] at h
  simp only [dirD, List.mem_map, List.mem_range] at he
  obtain ⟨i, hi, rfl⟩ := he
  have hst := h i hi
  simp only [stepD, Bool.and_eq_true, decide_eq_true_eq, Bool.not_eq_true'] at hst
  obtain ⟨⟨⟨hr, hs⟩, _⟩, _⟩ := hst
  obtain ⟨r1, r2, r3, r4, r5, r6⟩ := hr
  have h4 : (entA bs (3 + 5 * i)).2.2.2 = by1 bs (3 + 5 * i + 4) := rfl
  have := by1_nat bs (3 + 5 * i + 4)
  refine ⟨by omega, by omega, by omega, by omega, by omega, by omega, by omega, by omega⟩
theorem out_mid {A T X Y : Asn} (g : ∃ J, T = A * J * X) : ∃ J, T * Y = A * J * X := by
  obtain ⟨J, rfl⟩ := g
  exact ⟨J * Y, by ac_rfl⟩
theorem ex_and {P : Prop} {A T X : Asn} (hP : P) (g : ∃ J, T = A * J * X) : ∃ J, P ∧ T = A * J * X := by
  obtain ⟨J, h⟩ := g
  exact ⟨J, hP, h⟩
section
variable {w0 : World} {A : Asn}
theorem s85a {q : Nat} {v u : Value} {xs : List UInt8} {at_ m a2 : Nat} {e e2 : Int} {ws l : List Int} (rd : Rd w0 A u 1 m (I ws)) (hT : TakeF xs at_ e ws l a2 e2) (hlm : l.length = m) (hlim : xs.length ≤ 140737488355328) (ha : at_ ≤ 8 * xs.length) (hws : m ≤ 17592186044416) :
    Spec Try.prog w0 85 [.pointer (some ⟨q, 0, none⟩), u] (A * pts q (.cells #[v, .int .i64 ((at_ : Nat) : Int), .int .i64 (e)] 203 (0, 0)) * own 5 1 v (xs).length (B (xs))) (fun v' A' => A' = A * pts q (.cells #[v, .int .i64 ((a2 : Nat) : Int), .int .i64 (e2)] 203 (0, 0)) * own 5 1 v (xs).length (B (xs)) * own 3 1 v' m (I l)) := by
  subst hlm
  obtain ⟨rfl, rfl, rfl⟩ := hT.out
  exact s85 rd hlim ha hws
theorem parse_bad {u : Value} {bs : List UInt8} (rd : Rd w0 A u 1 32 (B bs)) (h : sealed (bs.take 30) ≠ bs) : Spec Try.prog w0 90 [u] A (fun v' A' => ∃ J, v' = .tuple #[.agg #[.int .i64 0, .int .i64 0, .int .i64 0, .int .i64 0, .slice none 0 0], .bool false] ∧ A' = A * J) := by
  refine Spec.of_run [(0, u)] Try.func90 rfl (Nat.le_of_ble_eq_true rfl) (by repeat (first | exact trivial | refine ⟨rfl, ?_⟩)) ?_
  refine Run.seq ?_
  refine Run.region ?_
  refine RunL.alloc ti86 rfl (fun bx1 => ?_)
  refine RunL.ok (OpOk.assign rfl) rfl ?_
  refine RunL.nil ?_
  refine Run.seq ?_
  refine Run.region ?_
  refine RunL.ok (OpOk.move rfl) rfl ?_
  refine RunL.call cal83 rfl (s83c rd.left (by omega) (by omega) (by assumption)) rfl (fun vx4 Ax4 hx4 => ?_)
  obtain ⟨x5, ⟨rfl, rfl⟩⟩ := hx4
  refine RunL.ok (OpOk.move rfl) rfl ?_
  refine RunL.ok (OpOk.ext20 rfl) rfl ?_
  refine RunL.ok (OpOk.ext21 rfl) rfl ?_
  refine RunL.ok (OpOk.assign rfl) rfl ?_
  refine RunL.ok (OpOk.assign rfl) rfl ?_
  refine RunL.nil ?_
  refine Run.seq ?_
  refine Run.seq ?_
  refine Run.region ?_
  refine RunL.ok (OpOk.move rfl) rfl ?_
  refine RunL.ok (OpOk.as (c := true) (OpOk.neq rfl rfl) (by rw [decide_eq_false (by omega)]; rfl)) rfl ?_
  refine RunL.nil ?_
  refine Run.condT rfl ?_
  refine Run.seq ?_
  refine Run.region ?_
  refine RunL.ok (OpOk.build rfl (fun w => run_build w 86 _ _ (by rfl))) rfl ?_
  refine RunL.storeAll ti86 rfl rfl rfl (ones rfl) (frl rfl) rfl ?_
  refine RunL.ok (OpOk.assign rfl) rfl ?_
  refine RunL.nil ?_
  refine Run.retC2 (A' := _) Try.func90 rfl rfl rfl ti86 rfl rfl Blk.pts rfl (Grew.refl _) ?_
  exact ⟨_, rfl, (asg as1)⟩
theorem parse_ok {u : Value} {bs : List UInt8} (rd : Rd w0 A u 1 32 (B bs)) (h : sealed (bs.take 30) = bs) (hh : headD (bs.take 30) = true) : Spec Try.prog w0 90 [u] A (fun v' A' => ∃ v J, v' = .tuple #[.agg #[.int .i64 0, .int .i64 0, .int .i64 (by2 (bs.take 30) 0), .int .i64 0, v], .bool (decide (sectB (listB (by2 (bs.take 30) 0) (entsD (bs.take 30))) = bs))] ∧
    A' = A * J * own 111 4 v (entsD (bs.take 30)).length (Fl encT111 (entsD (bs.take 30)))) := by
  have hl := rd.lenB
  have hdl : (bs.take 30).length = 30 := by rw [List.length_take]; omega
  have hT1 := take_head hdl
  simp only [headD, Bool.and_eq_true, decide_eq_true_eq] at hh
  obtain ⟨⟨hs1, hn5⟩, hg⟩ := hh
  unfold entsD
  rw [show bs.take 30 = bs.take (32 - 2) from rfl] at h hdl hT1 hs1 hn5 hg ⊢
  obtain ⟨N, hN⟩ : ∃ N : Nat, by1 (bs.take (32 - 2)) 2 = (N : Int) := ⟨_, rfl⟩
  rw [hN, Int.toNat_natCast] at hg
  rw [hN] at hT1 hn5 ⊢
  rw [Int.toNat_natCast]
  obtain ⟨Q, hQ⟩ : ∃ Q : Int, by2 (bs.take (32 - 2)) 0 = Q := ⟨_, rfl⟩
  have hQ2 : Q ≤ 65535 := by
    rw [← hQ, by2]
    have h1 := ((bs.take (32 - 2)).getD 0 0).toNat_lt
    have h2 := ((bs.take (32 - 2)).getD (0 + 1) 0).toNat_lt
    omega
  rw [hQ] at hT1 hs1 ⊢
  have rw_q0 : ([Q, (N : Int)] : List Int).getD (Int.toNat 0) 0 = Q := rfl
  have rw_q1 : ([Q, (N : Int)] : List Int).getD (Int.toNat 1) 0 = (N : Int) := rfl
  refine Spec.of_run [(0, u)] Try.func90 rfl (Nat.le_of_ble_eq_true rfl) (by repeat (first | exact trivial | refine ⟨rfl, ?_⟩)) ?_
  refine Run.seq ?_
  refine Run.region ?_
  refine RunL.alloc ti86 rfl (fun bx1 => ?_)
  refine RunL.ok (OpOk.assign rfl) rfl ?_
  refine RunL.nil ?_
  refine Run.seq ?_
  refine Run.region ?_
  refine RunL.ok (OpOk.move rfl) rfl ?_
  refine RunL.call cal83 rfl (s83b rd.left (by omega) (by omega) (by assumption)) rfl (fun vx3 Ax3 hx3 => ?_)
  obtain ⟨x4, ⟨x5, ⟨rfl, rfl⟩⟩⟩ := hx3
  refine RunL.ok (OpOk.move rfl) rfl ?_
  refine RunL.ok (OpOk.ext20 rfl) rfl ?_
  refine RunL.ok (OpOk.ext21 rfl) rfl ?_
  refine RunL.ok (OpOk.assign rfl) rfl ?_
  refine RunL.ok (OpOk.assign rfl) rfl ?_
  refine RunL.nil ?_
  refine Run.seq ?_
  refine Run.seq ?_
  refine Run.region ?_
  refine RunL.ok (OpOk.move rfl) rfl ?_
  refine RunL.ok (OpOk.as (c := false) (OpOk.neq rfl rfl) (by rw [decide_eq_true (by omega)]; rfl)) rfl ?_
  refine RunL.nil ?_
  refine Run.condF rfl ?_
  refine Run.skip ?_
  refine Run.seq ?_
  refine Run.region ?_
  refine RunL.ok (OpOk.move rfl) rfl ?_
  refine RunL.know (fun w s => (s.conv rfl).ownRd0) (fun rdx6 => ?_)
  refine RunL.call cal84 rfl (s84 (Rd.right rdx6) (by omega)) rfl (fun vx7 Ax7 hx7 => ?_)
  obtain ⟨x8, ⟨x9, ⟨rfl, rfl⟩⟩⟩ := hx7
  refine RunL.ok (OpOk.assign rfl) rfl ?_
  refine RunL.nil ?_
  refine Run.seq ?_
  refine Run.region ?_
  refine RunL.ok (OpOk.move rfl) rfl ?_
  refine RunL.litI (xs := [16, 8]) rfl ti3 rfl rfl rfl (by decide) rfl (fun vx10 rdx10 => ?_)
  refine RunL.know (fun w s => (s.conv rfl).ownRd0) (fun rdx11 => ?_)
  refine RunL.mem (frc (frl rfl) (frc (frl rfl) rfl)) ?_
  refine RunL.call cal85 rfl (s85a (Rd.right rdx11) (by assumption) rfl (by omega) (by omega) (by omega)) rfl (fun vx12 Ax12 hx12 => ?_)
  obtain rfl := hx12
  refine RunL.ok (OpOk.assign rfl) rfl ?_
  refine RunL.nil ?_
  refine Run.seq ?_
  refine Run.region ?_
  refine RunL.ok (OpOk.move rfl) rfl ?_
  refine RunL.know (fun w s => (s.conv rfl).ownRd0) (fun rdx13 => ?_)
  refine RunL.ok (OpOk.idx1 rfl ti3 rfl (Rd.right rdx13) rfl (by omega) (by omega)) rfl ?_
  refine RunL.ok (OpOk.load rfl rfl rfl (Rd.getIE (by assumption) (Rd.right rdx13) (by omega))) rfl ?_
  refine RunL.ok (OpOk.build (cells := #[.int (IntKind.i64) (0), .int (IntKind.i64) (0), .int (IntKind.i64) (Q), .int (IntKind.i64) (0), .slice (none) (0) (0)]) rfl (fun w => run_build w 86 _ _ (by rfl))) rfl ?_
  refine RunL.alloc ti86 rfl (fun bx14 => ?_)
  refine RunL.storeAll ti86 rfl rfl rfl (ones rfl) rfl rfl ?_
  refine RunL.nil ?_
  refine Run.seq ?_
  refine Run.seq ?_
  refine Run.region ?_
  refine RunL.ok (OpOk.move rfl) rfl ?_
  refine RunL.ok (OpOk.idx1 rfl ti3 rfl (Rd.right rdx13).left rfl (by omega) (by omega)) rfl ?_
  refine RunL.ok (OpOk.load rfl rfl rfl (Rd.getIE (by assumption) (Rd.right rdx13).left (by omega))) rfl ?_
  refine RunL.ok (OpOk.asF (OpOk.lss rfl rfl) (by omega)) rfl ?_
  refine RunL.ok (OpOk.move rfl) rfl ?_
  refine RunL.on rfl rfl ?_
  refine RunL.ok (OpOk.move rfl) rfl ?_
  refine RunL.on rfl rfl ?_
  refine RunL.ok (OpOk.idx1 rfl ti3 rfl (Rd.right rdx13).left rfl (by omega) (by omega)) rfl ?_
  refine RunL.on rfl rfl ?_
  refine RunL.ok (OpOk.load rfl rfl rfl (Rd.getIE (by assumption) (Rd.right rdx13).left (by omega))) rfl ?_
  refine RunL.on rfl rfl ?_
  refine RunL.ok (OpOk.asF (OpOk.gtr rfl rfl) (by omega)) rfl ?_
  refine RunL.ok (OpOk.pickF rfl rfl) rfl ?_
  refine RunL.nil ?_
  refine Run.condF rfl ?_
  refine Run.skip ?_
  refine Run.seq ?_
  refine Run.seq ?_
  refine Run.region ?_
  refine RunL.ok (OpOk.move rfl) rfl ?_
  refine RunL.ok (OpOk.idx1 rfl ti3 rfl (Rd.right rdx13).left rfl (by omega) (by omega)) rfl ?_
  refine RunL.ok (OpOk.load rfl rfl rfl (Rd.getIE (by assumption) (Rd.right rdx13).left (by omega))) rfl ?_
  refine RunL.ok (OpOk.move rfl) rfl ?_
  refine RunL.nil ?_
  refine Run.block ?_
  clear rdx6 rdx10 rdx11 rdx13 rw_q0 rw_q1 hT1
  generalize hd : bs.take (32 - 2) = d at h hdl hg hN hQ ⊢
  refine Run.ent (Ent.ownNil' _ 111 4 (Fl encT111 ([] : List En)) rfl) ?_
  refine Run.jump ((Run.loopJ (X := Nat × Asn × Value) (fun x => [(43, .int .i64 (x.1 : Int)), (42, .int .i64 (N : Int)), (8, .pointer (some ⟨bx14, 0, none⟩)), (6, .pointer (some ⟨x8, 0, none⟩)), (2, .pointer (some ⟨bx1, 0, none⟩)), (0, u)]) (fun x => A * x.2.1 * pts bx1 (.cells #[.int .i64 0, .int .i64 0, .int .i64 0, .int .i64 0, .slice none 0 0] 86 (0, 0)) * pts x8 (.cells #[x9, .int .i64 (((8 * (3 + 5 * x.1)) : Nat) : Int), .int .i64 (0)] 203 (0, 0)) * own 5 1 x9 (d).length (B (d)) * pts bx14 (.cells #[.int .i64 0, .int .i64 0, .int .i64 Q, .int .i64 0, x.2.2] 86 (0, 0)) * own 111 4 x.2.2 x.1 (Fl encT111 (dirD d x.1))) (fun x => x.1 ≤ N) (fun x => N - x.1) (0, _, .slice none 0 0) (Nat.zero_le _) (fun x hx ih => ?_))) ⟨rfl, rfl, rfl, rfl, rfl, rfl, trivial⟩ (Grew.of (Eq.trans (frc rfl (frc rfl (frc (frl rfl) (frc (frl rfl) (frc (frl (frl (frl (frl rfl)))) rfl))))) (congrArg (· * _) (congrArg (· * _) (congrArg (· * _) (congrArg (· * _) (congrArg (· * _) (asg (asg (asg as1))))))))) (Grew.refl _))
  obtain ⟨i, J, v⟩ := x
  simp only at hx ih ⊢
  rcases Nat.lt_or_ge i N with hlt | hge
  · have hst := goodD_le (n := i + 1) hg hlt
    rw [goodD_next, Bool.and_eq_true] at hst
    have hst := hst.2
    simp only [stepD, Bool.and_eq_true, decide_eq_true_eq, Bool.not_eq_true'] at hst
    obtain ⟨⟨⟨hri, hs6⟩, htk⟩, hat⟩ := hst
    have hT2 := take_ent hdl (j := 3 + 5 * i) (by omega)
    have hdn := dirD_next d i
    have hdl2 := dirD_len d i
    generalize entA d (3 + 5 * i) = e at hri hs6 htk hat hT2 hdn
    obtain ⟨k, o, n, s⟩ := e
    dsimp only at hri hs6 htk hat hT2
    have rw_0 : ([k, o, n, s] : List Int).getD (Int.toNat 0) 0 = k := rfl
    have rw_1 : ([k, o, n, s] : List Int).getD (Int.toNat 1) 0 = o := rfl
    have rw_2 : ([k, o, n, s] : List Int).getD (Int.toNat 2) 0 = n := rfl
    have rw_3 : ([k, o, n, s] : List Int).getD (Int.toNat 3) 0 = s := rfl
    refine Run.seq ?_
    refine Run.region ?_
    refine RunL.ok (OpOk.asT (OpOk.lss rfl rfl) (by omega)) rfl ?_
    refine RunL.nil ?_
    refine Run.seq ?_
    refine Run.condT rfl ?_
    refine Run.skip ?_
    refine Run.seq ?_
    refine Run.block ?_
    refine Run.seq ?_
    refine Run.region ?_
    refine RunL.ok (OpOk.move rfl) rfl ?_
    refine RunL.litI (xs := [8, 8, 16, 8]) rfl ti3 rfl rfl rfl (by decide) rfl (fun vy1 rdy1 => ?_)
    refine RunL.know (fun w s => (s.conv rfl).ownRd0) (fun rdy2 => ?_)
    refine RunL.mem (frc (frl (frl (frl rfl))) (frc (frl (frl (frl rfl))) rfl)) ?_
    refine RunL.call cal85 rfl (s85a (Rd.right rdy2) (by assumption) rfl (by omega) (by omega) (by omega)) rfl (fun vy3 Ay3 hy3 => ?_)
    obtain rfl := hy3
    refine RunL.ok (OpOk.assign rfl) rfl ?_
    refine RunL.nil ?_
    refine Run.seq ?_
    refine Run.know (fun w s => (s.conv (frl (frl (frl (frl rfl))))).ownRd0) (fun rdy4 => ?_)
    refine Run.know (fun w s => (s.conv (frl rfl)).ownRd0) (fun rdy5 => ?_)
    refine Run.know (fun w s => (s.conv rfl).ownRd0) (fun rdy6 => ?_)
    (apply Run.drawD [14] (by rfl) (sep_emp _).symm; case hchk => kernel_rfl)
    refine Sd.quiet 0 _ _ rfl rfl rfl rfl rfl (QOp.ok (fun X => OpOk.move rfl)) ?_
    refine Sd.quiet 1 _ _ rfl rfl rfl rfl rfl (QOp.ok (fun X => OpOk.idx1 rfl ti3 rfl (Rd.right rdy6).left.left rfl (by omega) (by omega))) ?_
    refine Sd.quiet 2 _ _ rfl rfl rfl rfl rfl (QOp.ok (fun X => OpOk.load rfl rfl rfl (Rd.getIE (by assumption) (Rd.right rdy6).left.left (by omega)))) ?_
    refine Sd.quiet 3 _ _ rfl rfl rfl rfl rfl (QOp.ok (fun X => OpOk.move rfl)) ?_
    refine Sd.quiet 4 _ _ rfl rfl rfl rfl rfl (QOp.ok (fun X => OpOk.idx1 rfl ti3 rfl (Rd.right rdy6).left.left rfl (by omega) (by omega))) ?_
    refine Sd.quiet 5 _ _ rfl rfl rfl rfl rfl (QOp.ok (fun X => OpOk.load rfl rfl rfl (Rd.getIE (by assumption) (Rd.right rdy6).left.left (by omega)))) ?_
    refine Sd.quiet 6 _ _ rfl rfl rfl rfl rfl (QOp.ok (fun X => OpOk.move rfl)) ?_
    refine Sd.quiet 7 _ _ rfl rfl rfl rfl rfl (QOp.ok (fun X => OpOk.idx1 rfl ti3 rfl (Rd.right rdy6).left.left rfl (by omega) (by omega))) ?_
    refine Sd.quiet 8 _ _ rfl rfl rfl rfl rfl (QOp.ok (fun X => OpOk.load rfl rfl rfl (Rd.getIE (by assumption) (Rd.right rdy6).left.left (by omega)))) ?_
    refine Sd.quiet 9 _ _ rfl rfl rfl rfl rfl (QOp.ok (fun X => OpOk.move rfl)) ?_
    refine Sd.quiet 10 _ _ rfl rfl rfl rfl rfl (QOp.ok (fun X => OpOk.idx1 rfl ti3 rfl (Rd.right rdy6).left.left rfl (by omega) (by omega))) ?_
    refine Sd.quiet 11 _ _ rfl rfl rfl rfl rfl (QOp.ok (fun X => OpOk.load rfl rfl rfl (Rd.getIE (by assumption) (Rd.right rdy6).left.left (by omega)))) ?_
    refine Sd.quiet 12 _ _ rfl rfl rfl rfl rfl (QOp.ok (fun X => OpOk.build (cells := #[.int (IntKind.i64) (k), .int (IntKind.i64) (o), .int (IntKind.i64) (n), .int (IntKind.i64) (s)]) rfl (fun w => run_build w 111 _ _ (by rfl)))) ?_
    (refine Sd.exec 13 rfl rfl rfl rfl rfl ?hrest (by rfl) (fun Xy7 Ky7 hKy7 => ?_); case hrest => kernel_rfl)
    refine RunL.mem (fl2 (sep_emp _) (sep_emp _)) ?_
    refine RunL.alloc ti111 rfl (fun by8 => ?_)
    refine Sd.ret hKy7 (Eq.trans rfl (gp2 (sep_emp _).symm rfl)) ⟨_, (emp_sep _).symm⟩ ?_
    (apply Sd.tail; case hall => kernel_rfl)
    refine RunL.mem (fl2 rfl (sep_emp _)) ?_
    refine RunL.storeAll ti111 rfl rfl rfl (ones rfl) rfl rfl ?_
    refine RunL.nil ?_
    refine Run.seq ?_
    refine Run.region ?_
    refine RunL.ok (OpOk.fieldAddr fld86_4 rfl) rfl ?_
    refine RunL.ok (OpOk.load rfl rfl rfl (Blk.out Blk.pts.left.left.left.left.left.left _ _ (by first | rfl | assumption))) rfl ?_
    refine RunL.ok (OpOk.makeFunc rfl rfl) rfl ?_
    refine RunL.call cal96 rfl (has_spec (by repeat (first | exact Rd.right rdy4 | apply Rd.left)) (pred_parse (x := (k, o, n, s)))) rfl (fun v' A' h2 => ?_)
    obtain ⟨J2, rfl, rfl⟩ := h2
    rw [show (dirD d i).any (fun e => decide (e.2.2.2 = s)) = false from htk]
    refine RunL.ok (OpOk.assign rfl) rfl ?_
    refine RunL.nil ?_
    refine Run.seq ?_
    refine Run.seq ?_
    refine Run.region ?_
    refine RunL.ok (OpOk.loadS rfl rfl ti111 rfl Blk.pts rfl) rfl ?_
    refine RunL.call cal103 rfl (s103) rfl (fun vz1 Az1 hz1 => ?_)
    obtain ⟨z2, ⟨rfl, rfl⟩⟩ := hz1
    refine RunL.ok (OpOk.not rfl) rfl ?_
    refine RunL.ok (OpOk.move rfl) rfl ?_
    refine RunL.splitNF (t := 68) rfl (by first | omega | with_reducible rfl | assumption) ?_
    refine RunL.on rfl rfl ?_
    refine RunL.ok (OpOk.fieldAddr fld111_3 rfl) rfl ?_
    refine RunL.on rfl rfl ?_
    refine RunL.ok (OpOk.load rfl rfl rfl (Blk.out Blk.pts.left _ _ (by first | rfl | assumption))) rfl ?_
    refine RunL.on rfl rfl ?_
    refine RunL.ok (OpOk.asF (OpOk.geq rfl rfl) (by omega)) rfl ?_
    refine RunL.ok (OpOk.pickF rfl rfl) rfl ?_
    refine RunL.ok (OpOk.move rfl) rfl ?_
    refine RunL.on rfl rfl ?_
    refine RunL.ok (OpOk.move rfl) rfl ?_
    refine RunL.ok (OpOk.pickF rfl rfl) rfl ?_
    refine RunL.ok (OpOk.move rfl) rfl ?_
    refine RunL.on rfl rfl ?_
    refine RunL.ok (OpOk.loadS rfl rfl ti86 rfl Blk.pts.left.left.left.left.left.left.left.left rfl) rfl ?_
    refine RunL.on rfl rfl ?_
    refine RunL.ok (OpOk.fieldAddr fld111_1 rfl) rfl ?_
    refine RunL.on rfl rfl ?_
    refine RunL.ok (OpOk.load rfl rfl rfl (Blk.out Blk.pts.left _ _ (by first | rfl | assumption))) rfl ?_
    refine RunL.on rfl rfl ?_
    refine RunL.ok (OpOk.fieldAddr fld111_2 rfl) rfl ?_
    refine RunL.on rfl rfl ?_
    refine RunL.ok (OpOk.load rfl rfl rfl (Blk.out Blk.pts.left _ _ (by first | rfl | assumption))) rfl ?_
    refine RunL.on rfl rfl ?_
    refine RunL.call cal45 rfl (s45 (Rd.right rdy4).left.left.left.left.left.left.left) rfl (fun vz4 Az4 hz4 => ?_)
    obtain ⟨z5, ⟨rfl, rfl⟩⟩ := hz4
    refine RunL.on rfl rfl ?_
    refine RunL.ok (OpOk.asF (OpOk.geq rfl rfl) (by omega)) rfl ?_
    refine RunL.ok (OpOk.pickF rfl rfl) rfl ?_
    refine RunL.nil ?_
    refine Run.condF rfl ?_
    refine Run.skip ?_
    refine Run.region ?_
    refine RunL.ok (OpOk.fieldAddr fld86_4 rfl) rfl ?_
    refine RunL.ok (OpOk.load rfl rfl rfl (Blk.out Blk.pts.left.left.left.left.left.left.left.left.left _ _ (by first | rfl | assumption))) rfl ?_
    refine RunL.ok (OpOk.loadS rfl rfl ti111 rfl Blk.pts.left.left rfl) rfl ?_
    refine RunL.litFl (enc := encT111) [(k, (o, (n, s)))] rfl ti111 rfl (fun _ => rfl) rfl rfl (by decide) (by decide) rfl (fun vz6 rdz6 => ?_)
    refine RunL.know (fun w s => (s.conv rfl).ownRd0) (fun rdz8 => ?_)
    refine RunL.appendF rfl ti111 rfl rfl rfl (frl (frl (frl (frl (frl (frl (frl (frl (frl rfl))))))))) (Rd.right rdz8) rfl (by decide) (by omega) (by simp only [maxLen]; omega) rfl (fun vz7 rdz7 => ?_)
    refine RunL.ok (OpOk.fieldAddr fld86_4 rfl) rfl ?_
    refine RunL.know (fun w s => (s.conv rfl).ownRd0) (fun rdz9 => ?_)
    refine RunL.store ti84 rfl rfl (Rd.one rdz9) (frl (frl (frl (frl (frl (frl (frl (frl (frl (frl rfl)))))))))) (by exact Nat.le_of_ble_eq_true rfl) (.inl rfl) ?_
    refine RunL.nil ?_
    refine Run.inBlock ?_
    refine Run.region ?_
    refine RunL.ok (OpOk.addN _ 1 rfl rfl rfl rfl (by omega)) rfl ?_
    refine RunL.ok (OpOk.move rfl) rfl ?_
    refine RunL.nil ?_
    rw [← hdn, show 3 + 5 * i + 5 = 3 + 5 * (i + 1) by omega]
    refine Run.jump ((ih (i + 1, _, vz7) (by dsimp only; omega) (by dsimp only; omega))) ⟨rfl, rfl, rfl, rfl, rfl, rfl, trivial⟩ (Grew.of (Eq.trans (frc (frl rfl) (frc rfl (frc (frl (frl (frl (frl (frl (frl rfl)))))) (frc (frl (frl (frl (frl (frl (frl rfl)))))) (frc (frl (frl (frl (frl (frl (frl (frl rfl))))))) rfl))))) (congrArg (· * _) (congrArg (· * _) (congrArg (· * _) (congrArg (· * _) (congrArg (· * _) (asg (asg (asg (asg (asg (asg (asg as1))))))))))))) (Grew.refl _))
  · obtain rfl : i = N := by omega
    clear ih
    have hok := dirD_ok hg
    have drawFill : True := trivial
    refine Run.seq ?_
    refine Run.region ?_
    refine RunL.ok (OpOk.asF (OpOk.lss rfl rfl) (by omega)) rfl ?_
    refine RunL.nil ?_
    refine Run.seq ?_
    refine Run.condF rfl ?_
    refine Run.exit rfl ?_
    refine Run.seq ?_
    refine Run.know (fun w s => (s.conv (frl (frl rfl))).ownRd0) (fun rdy1 => ?_)
    refine Run.know (fun w s => (s.conv rfl).ownRd0) (fun rdy2 => ?_)
    (apply Run.drawD [9, 10] (by rfl) (sep_emp _).symm; case hchk => kernel_rfl)
    refine Sd.quiet 0 _ _ rfl rfl rfl rfl rfl (QOp.ok (fun X => OpOk.loadS rfl rfl ti86 rfl Blk.pts.left.left.left rfl)) ?_
    refine Sd.quiet 1 _ _ rfl rfl rfl rfl rfl (QOp.ok (fun X => OpOk.fieldAddr fld86_2 rfl)) ?_
    refine Sd.quiet 2 _ _ rfl rfl rfl rfl rfl (QOp.ok (fun X => OpOk.load rfl rfl rfl (Blk.out Blk.pts.left.left.left _ _ (by first | rfl | assumption)))) ?_
    refine Sd.quiet 3 _ _ rfl rfl rfl rfl rfl (QOp.ok (fun X => OpOk.fieldAddr fld86_4 rfl)) ?_
    refine Sd.quiet 4 _ _ rfl rfl rfl rfl rfl (QOp.ok (fun X => OpOk.load rfl rfl rfl (Blk.out Blk.pts.left.left.left _ _ (by first | rfl | assumption)))) ?_
    refine Sd.quiet 7 _ _ rfl rfl rfl rfl rfl (QOp.ok (fun X => OpOk.move rfl)) ?_
    (refine Sd.exec 5 rfl rfl rfl rfl rfl ?hrest (by rfl) (fun Xy3 Ky3 hKy3 => ?_); case hrest => kernel_rfl)
    refine RunL.mem (fl2 (sep_emp _) (sep_emp _)) ?_
    refine RunL.call cal99 rfl (s99 (Rd.right rdy2).left (by omega) (by assumption) (by omega) (by assumption)) rfl (fun vy4 Ay4 hy4 => ?_)
    obtain ⟨y5, rfl⟩ := hy4
    refine RunL.know (fun w s => (s.conv rfl).ownRd0) (fun rdy6 => ?_)
    refine Sd.ret hKy3 (Eq.trans rfl (gp2 (sep_emp _).symm (asg rfl))) ⟨_, (emp_sep _).symm⟩ ?_
    (refine Sd.exec 6 rfl rfl rfl rfl rfl ?hrest (by rfl) (fun Xy7 Ky7 hKy7 => ?_); case hrest => kernel_rfl)
    refine RunL.mem (fl2 (flS rfl) (sep_emp _)) ?_
    refine RunL.call cal88 rfl (s88 (Rd.right rdy6) (by omega)) rfl (fun vy8 Ay8 hy8 => ?_)
    obtain ⟨y9, rfl⟩ := hy8
    refine RunL.know (fun w s => (s.conv rfl).ownRd0) (fun rdy10 => ?_)
    refine Sd.ret hKy7 (Eq.trans rfl (gp2 (sep_emp _).symm (asg (asg (asg rfl))))) ⟨_, (asg rfl)⟩ ?_
    refine Sd.quiet 8 _ _ rfl rfl rfl rfl rfl (QOp.call cal87 rfl (fun X => s87 (Rd.right (Rd.right rdy10)).left rd.left.left.left.left.left.left.left.left)) ?_
    (apply Sd.tail; case hall => kernel_rfl)
    refine RunL.mem (fl2 (flS (flS (flS rfl))) (sep_emp _)) ?_
    refine RunL.storeAll ti86 rfl rfl rfl (by simp [Value.cells, one_int, one_bool, one_S, one_str, one_slice, one_map, one_ptr, Rd.one rdy10, Rd.one rdy6, Rd.one rdy2, Rd.one rdy1, Rd.one rd, *]) (frl (frl (frl (frl (frl (frl (frl (frl rfl)))))))) rfl ?_
    refine RunL.ok (OpOk.assign rfl) rfl ?_
    refine RunL.nil ?_
    refine Run.retC2 (A' := _) Try.func90 rfl rfl rfl ti86 rfl rfl Blk.pts rfl (Grew.refl _) ?_
    rw [dirD_len]
    refine ⟨v, ex_and rfl ?_⟩
    repeat (first | exact out_of (by repeat (first | exact Grew.refl _ | refine Grew.mul ?_ _)) | refine out_mid ?_)
end
end Go.Proofs.Yteopadjihklkmaa
end

section
namespace Go.Proofs.Yteopadjihklkmaa
open Go Go.Proofs
set_option maxRecDepth 100000
set_option maxHeartbeats 4000000
set_option linter.unusedSimpArgs false
set_option linter.unusedVariables false
section
variable {w0 : World} {A : Asn}
theorem parse_no {u : Value} {bs : List UInt8} (rd : Rd w0 A u 1 32 (B bs)) (h : sealed (bs.take 30) = bs) (hh : headD (bs.take 30) = false) : Spec Try.prog w0 90 [u] A (fun v' A' => ∃ J, v' = .tuple #[.agg #[.int .i64 0, .int .i64 0, .int .i64 0, .int .i64 0, .slice none 0 0], .bool false] ∧ A' = A * J) := by
  have hl := rd.lenB
  have hdl : (bs.take 30).length = 30 := by rw [List.length_take]; omega
  have hT1 := take_head hdl
  unfold headD at hh
  rw [show bs.take 30 = bs.take (32 - 2) from rfl] at h hdl hT1 hh
  obtain ⟨N, hN⟩ : ∃ N : Nat, by1 (bs.take (32 - 2)) 2 = (N : Int) := ⟨_, rfl⟩
  rw [hN, Int.toNat_natCast] at hh
  rw [hN] at hT1
  obtain ⟨Q, hQ⟩ : ∃ Q : Int, by2 (bs.take (32 - 2)) 0 = Q := ⟨_, rfl⟩
  rw [hQ] at hT1 hh
  have rw_q0 : ([Q, (N : Int)] : List Int).getD (Int.toNat 0) 0 = Q := rfl
  have rw_q1 : ([Q, (N : Int)] : List Int).getD (Int.toNat 1) 0 = (N : Int) := rfl
  rcases Int.lt_or_le Q 1 with hs1 | hs1
  · refine Spec.of_run [(0, u)] Try.func90 rfl (Nat.le_of_ble_eq_true rfl) (by repeat (first | exact trivial | refine ⟨rfl, ?_⟩)) ?_
    refine Run.seq ?_
    refine Run.region ?_
    refine RunL.alloc ti86 rfl (fun bx1 => ?_)
    refine RunL.ok (OpOk.assign rfl) rfl ?_
    refine RunL.nil ?_
    refine Run.seq ?_
    refine Run.region ?_
    refine RunL.ok (OpOk.move rfl) rfl ?_
    refine RunL.call cal83 rfl (s83b rd.left (by omega) (by omega) (by assumption)) rfl (fun vx3 Ax3 hx3 => ?_)
    obtain ⟨x4, ⟨x5, ⟨rfl, rfl⟩⟩⟩ := hx3
    refine RunL.ok (OpOk.move rfl) rfl ?_
    refine RunL.ok (OpOk.ext20 rfl) rfl ?_
    refine RunL.ok (OpOk.ext21 rfl) rfl ?_
    refine RunL.ok (OpOk.assign rfl) rfl ?_
    refine RunL.ok (OpOk.assign rfl) rfl ?_
    refine RunL.nil ?_
    refine Run.seq ?_
    refine Run.seq ?_
    refine Run.region ?_
    refine RunL.ok (OpOk.move rfl) rfl ?_
    refine RunL.ok (OpOk.as (c := false) (OpOk.neq rfl rfl) (by rw [decide_eq_true (by omega)]; rfl)) rfl ?_
    refine RunL.nil ?_
    refine Run.condF rfl ?_
    refine Run.skip ?_
    refine Run.seq ?_
    refine Run.region ?_
    refine RunL.ok (OpOk.move rfl) rfl ?_
    refine RunL.know (fun w s => (s.conv rfl).ownRd0) (fun rdx6 => ?_)
    refine RunL.call cal84 rfl (s84 (Rd.right rdx6) (by omega)) rfl (fun vx7 Ax7 hx7 => ?_)
    obtain ⟨x8, ⟨x9, ⟨rfl, rfl⟩⟩⟩ := hx7
    refine RunL.ok (OpOk.assign rfl) rfl ?_
    refine RunL.nil ?_
    refine Run.seq ?_
    refine Run.region ?_
    refine RunL.ok (OpOk.move rfl) rfl ?_
    refine RunL.litI (xs := [16, 8]) rfl ti3 rfl rfl rfl (by decide) rfl (fun vx10 rdx10 => ?_)
    refine RunL.know (fun w s => (s.conv rfl).ownRd0) (fun rdx11 => ?_)
    refine RunL.mem (frc (frl rfl) (frc (frl rfl) rfl)) ?_
    refine RunL.call cal85 rfl (s85a (Rd.right rdx11) (by assumption) rfl (by omega) (by omega) (by omega)) rfl (fun vx12 Ax12 hx12 => ?_)
    obtain rfl := hx12
    refine RunL.ok (OpOk.assign rfl) rfl ?_
    refine RunL.nil ?_
    refine Run.seq ?_
    refine Run.region ?_
    refine RunL.ok (OpOk.move rfl) rfl ?_
    refine RunL.know (fun w s => (s.conv rfl).ownRd0) (fun rdx13 => ?_)
    refine RunL.ok (OpOk.idx1 rfl ti3 rfl (Rd.right rdx13) rfl (by omega) (by omega)) rfl ?_
    refine RunL.ok (OpOk.load rfl rfl rfl (Rd.getIE (by assumption) (Rd.right rdx13) (by omega))) rfl ?_
    refine RunL.ok (OpOk.build (cells := #[.int (IntKind.i64) (0), .int (IntKind.i64) (0), .int (IntKind.i64) (Q), .int (IntKind.i64) (0), .slice (none) (0) (0)]) rfl (fun w => run_build w 86 _ _ (by rfl))) rfl ?_
    refine RunL.alloc ti86 rfl (fun bx14 => ?_)
    refine RunL.storeAll ti86 rfl rfl rfl (ones rfl) rfl rfl ?_
    refine RunL.nil ?_
    refine Run.seq ?_
    refine Run.seq ?_
    refine Run.region ?_
    refine RunL.ok (OpOk.move rfl) rfl ?_
    refine RunL.ok (OpOk.idx1 rfl ti3 rfl (Rd.right rdx13).left rfl (by omega) (by omega)) rfl ?_
    refine RunL.ok (OpOk.load rfl rfl rfl (Rd.getIE (by assumption) (Rd.right rdx13).left (by omega))) rfl ?_
    refine RunL.ok (OpOk.asT (OpOk.lss rfl rfl) (by omega)) rfl ?_
    refine RunL.ok (OpOk.move rfl) rfl ?_
    refine RunL.off rfl rfl rfl rfl ?_
    refine RunL.off rfl rfl rfl rfl ?_
    refine RunL.off rfl rfl rfl rfl ?_
    refine RunL.off rfl rfl rfl rfl ?_
    refine RunL.ok (OpOk.pickT rfl rfl) rfl ?_
    refine RunL.nil ?_
    refine Run.condT rfl ?_
    refine Run.seq ?_
    refine Run.region ?_
    refine RunL.ok (OpOk.build rfl (fun w => run_build w 86 _ _ (by rfl))) rfl ?_
    refine RunL.storeAll ti86 rfl rfl rfl (ones rfl) (frl (frl (frl (frl (frl (frl (frl rfl))))))) rfl ?_
    refine RunL.ok (OpOk.assign rfl) rfl ?_
    refine RunL.nil ?_
    refine Run.retC2 (A' := _) Try.func90 rfl rfl rfl ti86 rfl rfl Blk.pts rfl (Grew.refl _) ?_
    exact ⟨_, rfl, (asg (asg (asg (asg (asg (asg (asg as1)))))))⟩
  · rcases Int.lt_or_le 5 (N : Int) with hn5 | hn5
    · refine Spec.of_run [(0, u)] Try.func90 rfl (Nat.le_of_ble_eq_true rfl) (by repeat (first | exact trivial | refine ⟨rfl, ?_⟩)) ?_
      refine Run.seq ?_
      refine Run.region ?_
      refine RunL.alloc ti86 rfl (fun bx1 => ?_)
      refine RunL.ok (OpOk.assign rfl) rfl ?_
      refine RunL.nil ?_
      refine Run.seq ?_
      refine Run.region ?_
      refine RunL.ok (OpOk.move rfl) rfl ?_
      refine RunL.call cal83 rfl (s83b rd.left (by omega) (by omega) (by assumption)) rfl (fun vx3 Ax3 hx3 => ?_)
      obtain ⟨x4, ⟨x5, ⟨rfl, rfl⟩⟩⟩ := hx3
      refine RunL.ok (OpOk.move rfl) rfl ?_
      refine RunL.ok (OpOk.ext20 rfl) rfl ?_
      refine RunL.ok (OpOk.ext21 rfl) rfl ?_
      refine RunL.ok (OpOk.assign rfl) rfl ?_
      refine RunL.ok (OpOk.assign rfl) rfl ?_
      refine RunL.nil ?_
      refine Run.seq ?_
      refine Run.seq ?_
      refine Run.region ?_
      refine RunL.ok (OpOk.move rfl) rfl ?_
      refine RunL.ok (OpOk.as (c := false) (OpOk.neq rfl rfl) (by rw [decide_eq_true (by omega)]; rfl)) rfl ?_
      refine RunL.nil ?_
      refine Run.condF rfl ?_
      refine Run.skip ?_
      refine Run.seq ?_
      refine Run.region ?_
      refine RunL.ok (OpOk.move rfl) rfl ?_
      refine RunL.know (fun w s => (s.conv rfl).ownRd0) (fun rdx6 => ?_)
      refine RunL.call cal84 rfl (s84 (Rd.right rdx6) (by omega)) rfl (fun vx7 Ax7 hx7 => ?_)
      obtain ⟨x8, ⟨x9, ⟨rfl, rfl⟩⟩⟩ := hx7
      refine RunL.ok (OpOk.assign rfl) rfl ?_
      refine RunL.nil ?_
      refine Run.seq ?_
      refine Run.region ?_
      refine RunL.ok (OpOk.move rfl) rfl ?_
      refine RunL.litI (xs := [16, 8]) rfl ti3 rfl rfl rfl (by decide) rfl (fun vx10 rdx10 => ?_)
      refine RunL.know (fun w s => (s.conv rfl).ownRd0) (fun rdx11 => ?_)
      refine RunL.mem (frc (frl rfl) (frc (frl rfl) rfl)) ?_
      refine RunL.call cal85 rfl (s85a (Rd.right rdx11) (by assumption) rfl (by omega) (by omega) (by omega)) rfl (fun vx12 Ax12 hx12 => ?_)
      obtain rfl := hx12
      refine RunL.ok (OpOk.assign rfl) rfl ?_
      refine RunL.nil ?_
      refine Run.seq ?_
      refine Run.region ?_
      refine RunL.ok (OpOk.move rfl) rfl ?_
      refine RunL.know (fun w s => (s.conv rfl).ownRd0) (fun rdx13 => ?_)
      refine RunL.ok (OpOk.idx1 rfl ti3 rfl (Rd.right rdx13) rfl (by omega) (by omega)) rfl ?_
      refine RunL.ok (OpOk.load rfl rfl rfl (Rd.getIE (by assumption) (Rd.right rdx13) (by omega))) rfl ?_
      refine RunL.ok (OpOk.build (cells := #[.int (IntKind.i64) (0), .int (IntKind.i64) (0), .int (IntKind.i64) (Q), .int (IntKind.i64) (0), .slice (none) (0) (0)]) rfl (fun w => run_build w 86 _ _ (by rfl))) rfl ?_
      refine RunL.alloc ti86 rfl (fun bx14 => ?_)
      refine RunL.storeAll ti86 rfl rfl rfl (ones rfl) rfl rfl ?_
      refine RunL.nil ?_
      refine Run.seq ?_
      refine Run.seq ?_
      refine Run.region ?_
      refine RunL.ok (OpOk.move rfl) rfl ?_
      refine RunL.ok (OpOk.idx1 rfl ti3 rfl (Rd.right rdx13).left rfl (by omega) (by omega)) rfl ?_
      refine RunL.ok (OpOk.load rfl rfl rfl (Rd.getIE (by assumption) (Rd.right rdx13).left (by omega))) rfl ?_
      refine RunL.ok (OpOk.asF (OpOk.lss rfl rfl) (by omega)) rfl ?_
      refine RunL.ok (OpOk.move rfl) rfl ?_
      refine RunL.on rfl rfl ?_
      refine RunL.ok (OpOk.move rfl) rfl ?_
      refine RunL.on rfl rfl ?_
      refine RunL.ok (OpOk.idx1 rfl ti3 rfl (Rd.right rdx13).left rfl (by omega) (by omega)) rfl ?_
      refine RunL.on rfl rfl ?_
      refine RunL.ok (OpOk.load rfl rfl rfl (Rd.getIE (by assumption) (Rd.right rdx13).left (by omega))) rfl ?_
      refine RunL.on rfl rfl ?_
      refine RunL.ok (OpOk.asT (OpOk.gtr rfl rfl) (by omega)) rfl ?_
      refine RunL.ok (OpOk.pickF rfl rfl) rfl ?_
      refine RunL.nil ?_
      refine Run.condT rfl ?_
      refine Run.seq ?_
      refine Run.region ?_
      refine RunL.ok (OpOk.build rfl (fun w => run_build w 86 _ _ (by rfl))) rfl ?_
      refine RunL.storeAll ti86 rfl rfl rfl (ones rfl) (frl (frl (frl (frl (frl (frl (frl rfl))))))) rfl ?_
      refine RunL.ok (OpOk.assign rfl) rfl ?_
      refine RunL.nil ?_
      refine Run.retC2 (A' := _) Try.func90 rfl rfl rfl ti86 rfl rfl Blk.pts rfl (Grew.refl _) ?_
      exact ⟨_, rfl, (asg (asg (asg (asg (asg (asg (asg as1)))))))⟩
    · have hg : goodD (bs.take (32 - 2)) N = false := by
        rw [decide_eq_true hs1, decide_eq_true hn5] at hh
        simpa using hh
      refine Spec.of_run [(0, u)] Try.func90 rfl (Nat.le_of_ble_eq_true rfl) (by repeat (first | exact trivial | refine ⟨rfl, ?_⟩)) ?_
      refine Run.seq ?_
      refine Run.region ?_
      refine RunL.alloc ti86 rfl (fun bx1 => ?_)
      refine RunL.ok (OpOk.assign rfl) rfl ?_
      refine RunL.nil ?_
      refine Run.seq ?_
      refine Run.region ?_
      refine RunL.ok (OpOk.move rfl) rfl ?_
      refine RunL.call cal83 rfl (s83b rd.left (by omega) (by omega) (by assumption)) rfl (fun vx3 Ax3 hx3 => ?_)
      obtain ⟨x4, ⟨x5, ⟨rfl, rfl⟩⟩⟩ := hx3
      refine RunL.ok (OpOk.move rfl) rfl ?_
      refine RunL.ok (OpOk.ext20 rfl) rfl ?_
      refine RunL.ok (OpOk.ext21 rfl) rfl ?_
      refine RunL.ok (OpOk.assign rfl) rfl ?_
      refine RunL.ok (OpOk.assign rfl) rfl ?_
      refine RunL.nil ?_
      refine Run.seq ?_
      refine Run.seq ?_
      refine Run.region ?_
      refine RunL.ok (OpOk.move rfl) rfl ?_
      refine RunL.ok (OpOk.as (c := false) (OpOk.neq rfl rfl) (by rw [decide_eq_true (by omega)]; rfl)) rfl ?_
      refine RunL.nil ?_
      refine Run.condF rfl ?_
      refine Run.skip ?_
      refine Run.seq ?_
      refine Run.region ?_
      refine RunL.ok (OpOk.move rfl) rfl ?_
      refine RunL.know (fun w s => (s.conv rfl).ownRd0) (fun rdx6 => ?_)
      refine RunL.call cal84 rfl (s84 (Rd.right rdx6) (by omega)) rfl (fun vx7 Ax7 hx7 => ?_)
      obtain ⟨x8, ⟨x9, ⟨rfl, rfl⟩⟩⟩ := hx7
      refine RunL.ok (OpOk.assign rfl) rfl ?_
      refine RunL.nil ?_
      refine Run.seq ?_
      refine Run.region ?_
      refine RunL.ok (OpOk.move rfl) rfl ?_
      refine RunL.litI (xs := [16, 8]) rfl ti3 rfl rfl rfl (by decide) rfl (fun vx10 rdx10 => ?_)
      refine RunL.know (fun w s => (s.conv rfl).ownRd0) (fun rdx11 => ?_)
      refine RunL.mem (frc (frl rfl) (frc (frl rfl) rfl)) ?_
      refine RunL.call cal85 rfl (s85a (Rd.right rdx11) (by assumption) rfl (by omega) (by omega) (by omega)) rfl (fun vx12 Ax12 hx12 => ?_)
      obtain rfl := hx12
      refine RunL.ok (OpOk.assign rfl) rfl ?_
      refine RunL.nil ?_
      refine Run.seq ?_
      refine Run.region ?_
      refine RunL.ok (OpOk.move rfl) rfl ?_
      refine RunL.know (fun w s => (s.conv rfl).ownRd0) (fun rdx13 => ?_)
      refine RunL.ok (OpOk.idx1 rfl ti3 rfl (Rd.right rdx13) rfl (by omega) (by omega)) rfl ?_
      refine RunL.ok (OpOk.load rfl rfl rfl (Rd.getIE (by assumption) (Rd.right rdx13) (by omega))) rfl ?_
      refine RunL.ok (OpOk.build (cells := #[.int (IntKind.i64) (0), .int (IntKind.i64) (0), .int (IntKind.i64) (Q), .int (IntKind.i64) (0), .slice (none) (0) (0)]) rfl (fun w => run_build w 86 _ _ (by rfl))) rfl ?_
      refine RunL.alloc ti86 rfl (fun bx14 => ?_)
      refine RunL.storeAll ti86 rfl rfl rfl (ones rfl) rfl rfl ?_
      refine RunL.nil ?_
      refine Run.seq ?_
      refine Run.seq ?_
      refine Run.region ?_
      refine RunL.ok (OpOk.move rfl) rfl ?_
      refine RunL.ok (OpOk.idx1 rfl ti3 rfl (Rd.right rdx13).left rfl (by omega) (by omega)) rfl ?_
      refine RunL.ok (OpOk.load rfl rfl rfl (Rd.getIE (by assumption) (Rd.right rdx13).left (by omega))) rfl ?_
      refine RunL.ok (OpOk.asF (OpOk.lss rfl rfl) (by omega)) rfl ?_
      refine RunL.ok (OpOk.move rfl) rfl ?_
      refine RunL.on rfl rfl ?_
      refine RunL.ok (OpOk.move rfl) rfl ?_
      refine RunL.on rfl rfl ?_
      refine RunL.ok (OpOk.idx1 rfl ti3 rfl (Rd.right rdx13).left rfl (by omega) (by omega)) rfl ?_
      refine RunL.on rfl rfl ?_
      refine RunL.ok (OpOk.load rfl rfl rfl (Rd.getIE (by assumption) (Rd.right rdx13).left (by omega))) rfl ?_
      refine RunL.on rfl rfl ?_
      refine RunL.ok (OpOk.asF (OpOk.gtr rfl rfl) (by omega)) rfl ?_
      refine RunL.ok (OpOk.pickF rfl rfl) rfl ?_
      refine RunL.nil ?_
      refine Run.condF rfl ?_
      refine Run.skip ?_
      refine Run.seq ?_
      refine Run.seq ?_
      refine Run.region ?_
      refine RunL.ok (OpOk.move rfl) rfl ?_
      refine RunL.ok (OpOk.idx1 rfl ti3 rfl (Rd.right rdx13).left rfl (by omega) (by omega)) rfl ?_
      refine RunL.ok (OpOk.load rfl rfl rfl (Rd.getIE (by assumption) (Rd.right rdx13).left (by omega))) rfl ?_
      refine RunL.ok (OpOk.move rfl) rfl ?_
      refine RunL.nil ?_
      refine Run.block ?_
      clear rdx6 rdx10 rdx11 rdx13 rw_q0 rw_q1 hT1 hh
      generalize hd : bs.take (32 - 2) = d at h hdl hg hN hQ ⊢
      refine Run.ent (Ent.ownNil' _ 111 4 (Fl encT111 ([] : List En)) rfl) ?_
      refine Run.jump ((Run.loopJ (X := Nat × Asn × Value) (fun x => [(43, .int .i64 (x.1 : Int)), (42, .int .i64 (N : Int)), (8, .pointer (some ⟨bx14, 0, none⟩)), (6, .pointer (some ⟨x8, 0, none⟩)), (2, .pointer (some ⟨bx1, 0, none⟩)), (0, u)]) (fun x => A * x.2.1 * pts bx1 (.cells #[.int .i64 0, .int .i64 0, .int .i64 0, .int .i64 0, .slice none 0 0] 86 (0, 0)) * pts x8 (.cells #[x9, .int .i64 (((8 * (3 + 5 * x.1)) : Nat) : Int), .int .i64 (0)] 203 (0, 0)) * own 5 1 x9 (d).length (B (d)) * pts bx14 (.cells #[.int .i64 0, .int .i64 0, .int .i64 Q, .int .i64 0, x.2.2] 86 (0, 0)) * own 111 4 x.2.2 x.1 (Fl encT111 (dirD d x.1))) (fun x => x.1 ≤ N ∧ goodD d x.1 = true) (fun x => N - x.1) (0, _, .slice none 0 0) ⟨Nat.zero_le _, rfl⟩ (fun x hx ih => ?_))) ⟨rfl, rfl, rfl, rfl, rfl, rfl, trivial⟩ (Grew.of (Eq.trans (frc rfl (frc rfl (frc (frl rfl) (frc (frl rfl) (frc (frl (frl (frl (frl rfl)))) rfl))))) (congrArg (· * _) (congrArg (· * _) (congrArg (· * _) (congrArg (· * _) (congrArg (· * _) (asg (asg (asg as1))))))))) (Grew.refl _))
      obtain ⟨i, J, v⟩ := x
      simp only at hx ih ⊢
      obtain ⟨hi, hgi⟩ := hx
      rcases Nat.lt_or_ge i N with hlt | hge
      · have hT2 := take_ent hdl (j := 3 + 5 * i) (by omega)
        have hdn := dirD_next d i
        have hdl2 := dirD_len d i
        have hgn := goodD_next d i
        rw [hgi, Bool.true_and] at hgn
        unfold stepD at hgn
        generalize entA d (3 + 5 * i) = e at hT2 hdn hgn
        obtain ⟨k, o, n, s⟩ := e
        dsimp only at hT2 hgn
        have rw_0 : ([k, o, n, s] : List Int).getD (Int.toNat 0) 0 = k := rfl
        have rw_1 : ([k, o, n, s] : List Int).getD (Int.toNat 1) 0 = o := rfl
        have rw_2 : ([k, o, n, s] : List Int).getD (Int.toNat 2) 0 = n := rfl
        have rw_3 : ([k, o, n, s] : List Int).getD (Int.toNat 3) 0 = s := rfl
        refine Run.seq ?_
        refine Run.region ?_
        refine RunL.ok (OpOk.asT (OpOk.lss rfl rfl) (by omega)) rfl ?_
        refine RunL.nil ?_
        refine Run.seq ?_
        refine Run.condT rfl ?_
        refine Run.skip ?_
        refine Run.seq ?_
        refine Run.block ?_
        refine Run.seq ?_
        refine Run.region ?_
        refine RunL.ok (OpOk.move rfl) rfl ?_
        refine RunL.litI (xs := [8, 8, 16, 8]) rfl ti3 rfl rfl rfl (by decide) rfl (fun vy1 rdy1 => ?_)
        refine RunL.know (fun w s => (s.conv rfl).ownRd0) (fun rdy2 => ?_)
        refine RunL.mem (frc (frl (frl (frl rfl))) (frc (frl (frl (frl rfl))) rfl)) ?_
        refine RunL.call cal85 rfl (s85a (Rd.right rdy2) (by assumption) rfl (by omega) (by omega) (by omega)) rfl (fun vy3 Ay3 hy3 => ?_)
        obtain rfl := hy3
        refine RunL.ok (OpOk.assign rfl) rfl ?_
        refine RunL.nil ?_
        refine Run.seq ?_
        refine Run.know (fun w s => (s.conv (frl (frl (frl (frl rfl))))).ownRd0) (fun rdy4 => ?_)
        refine Run.know (fun w s => (s.conv (frl rfl)).ownRd0) (fun rdy5 => ?_)
        refine Run.know (fun w s => (s.conv rfl).ownRd0) (fun rdy6 => ?_)
        (apply Run.drawD [14] (by rfl) (sep_emp _).symm; case hchk => kernel_rfl)
        refine Sd.quiet 0 _ _ rfl rfl rfl rfl rfl (QOp.ok (fun X => OpOk.move rfl)) ?_
        refine Sd.quiet 1 _ _ rfl rfl rfl rfl rfl (QOp.ok (fun X => OpOk.idx1 rfl ti3 rfl (Rd.right rdy6).left.left rfl (by omega) (by omega))) ?_
        refine Sd.quiet 2 _ _ rfl rfl rfl rfl rfl (QOp.ok (fun X => OpOk.load rfl rfl rfl (Rd.getIE (by assumption) (Rd.right rdy6).left.left (by omega)))) ?_
        refine Sd.quiet 3 _ _ rfl rfl rfl rfl rfl (QOp.ok (fun X => OpOk.move rfl)) ?_
        refine Sd.quiet 4 _ _ rfl rfl rfl rfl rfl (QOp.ok (fun X => OpOk.idx1 rfl ti3 rfl (Rd.right rdy6).left.left rfl (by omega) (by omega))) ?_
        refine Sd.quiet 5 _ _ rfl rfl rfl rfl rfl (QOp.ok (fun X => OpOk.load rfl rfl rfl (Rd.getIE (by assumption) (Rd.right rdy6).left.left (by omega)))) ?_
        refine Sd.quiet 6 _ _ rfl rfl rfl rfl rfl (QOp.ok (fun X => OpOk.move rfl)) ?_
        refine Sd.quiet 7 _ _ rfl rfl rfl rfl rfl (QOp.ok (fun X => OpOk.idx1 rfl ti3 rfl (Rd.right rdy6).left.left rfl (by omega) (by omega))) ?_
        refine Sd.quiet 8 _ _ rfl rfl rfl rfl rfl (QOp.ok (fun X => OpOk.load rfl rfl rfl (Rd.getIE (by assumption) (Rd.right rdy6).left.left (by omega)))) ?_
        refine Sd.quiet 9 _ _ rfl rfl rfl rfl rfl (QOp.ok (fun X => OpOk.move rfl)) ?_
        refine Sd.quiet 10 _ _ rfl rfl rfl rfl rfl (QOp.ok (fun X => OpOk.idx1 rfl ti3 rfl (Rd.right rdy6).left.left rfl (by omega) (by omega))) ?_
        refine Sd.quiet 11 _ _ rfl rfl rfl rfl rfl (QOp.ok (fun X => OpOk.load rfl rfl rfl (Rd.getIE (by assumption) (Rd.right rdy6).left.left (by omega)))) ?_
        refine Sd.quiet 12 _ _ rfl rfl rfl rfl rfl (QOp.ok (fun X => OpOk.build (cells := #[.int (IntKind.i64) (k), .int (IntKind.i64) (o), .int (IntKind.i64) (n), .int (IntKind.i64) (s)]) rfl (fun w => run_build w 111 _ _ (by rfl)))) ?_
        (refine Sd.exec 13 rfl rfl rfl rfl rfl ?hrest (by rfl) (fun Xy7 Ky7 hKy7 => ?_); case hrest => kernel_rfl)
        refine RunL.mem (fl2 (sep_emp _) (sep_emp _)) ?_
        refine RunL.alloc ti111 rfl (fun by8 => ?_)
        refine Sd.ret hKy7 (Eq.trans rfl (gp2 (sep_emp _).symm rfl)) ⟨_, (emp_sep _).symm⟩ ?_
        (apply Sd.tail; case hall => kernel_rfl)
        refine RunL.mem (fl2 rfl (sep_emp _)) ?_
        refine RunL.storeAll ti111 rfl rfl rfl (ones rfl) rfl rfl ?_
        refine RunL.nil ?_
        refine Run.seq ?_
        refine Run.region ?_
        refine RunL.ok (OpOk.fieldAddr fld86_4 rfl) rfl ?_
        refine RunL.ok (OpOk.load rfl rfl rfl (Blk.out Blk.pts.left.left.left.left.left.left _ _ (by first | rfl | assumption))) rfl ?_
        refine RunL.ok (OpOk.makeFunc rfl rfl) rfl ?_
        refine RunL.call cal96 rfl (has_spec (by repeat (first | exact Rd.right rdy4 | apply Rd.left)) (pred_parse (x := (k, o, n, s)))) rfl (fun v' A' h2 => ?_)
        obtain ⟨J2, rfl, rfl⟩ := h2
        cases htk : takenE (dirD d i) s with
        | true =>
          rw [show (dirD d i).any (fun e => decide (e.2.2.2 = s)) = true from htk]
          refine RunL.ok (OpOk.assign rfl) rfl ?_
          refine RunL.nil ?_
          refine Run.seq ?_
          refine Run.seq ?_
          refine Run.region ?_
          refine RunL.ok (OpOk.loadS rfl rfl ti111 rfl Blk.pts rfl) rfl ?_
          refine RunL.call cal103 rfl (s103) rfl (fun vz1 Az1 hz1 => ?_)
          obtain ⟨z2, ⟨rfl, rfl⟩⟩ := hz1
          refine RunL.ok (OpOk.not rfl) rfl ?_
          refine RunL.ok (OpOk.move rfl) rfl ?_
          refine RunL.splitN (t := 68) rfl (fun z3 => ?_) (fun z3 => ?_)
          · refine RunL.off rfl rfl rfl rfl ?_
            refine RunL.off rfl rfl rfl rfl ?_
            refine RunL.off rfl rfl rfl rfl ?_
            refine RunL.ok (OpOk.pickT rfl rfl) rfl ?_
            refine RunL.ok (OpOk.move rfl) rfl ?_
            refine RunL.off rfl rfl rfl rfl ?_
            refine RunL.ok (OpOk.pickT rfl rfl) rfl ?_
            refine RunL.ok (OpOk.move rfl) rfl ?_
            refine RunL.off rfl rfl rfl rfl ?_
            refine RunL.off rfl rfl rfl rfl ?_
            refine RunL.off rfl rfl rfl rfl ?_
            refine RunL.off rfl rfl rfl rfl ?_
            refine RunL.off rfl rfl rfl rfl ?_
            refine RunL.off rfl rfl rfl rfl ?_
            refine RunL.off rfl rfl rfl rfl ?_
            refine RunL.ok (OpOk.pickT rfl rfl) rfl ?_
            refine RunL.nil ?_
            refine Run.condT rfl ?_
            refine Run.seq ?_
            refine Run.region ?_
            refine RunL.ok (OpOk.build rfl (fun w => run_build w 86 _ _ (by rfl))) rfl ?_
            refine RunL.storeAll ti86 rfl rfl rfl (ones rfl) (frl (frl (frl (frl (frl (frl (frl (frl (frl rfl))))))))) rfl ?_
            refine RunL.ok (OpOk.assign rfl) rfl ?_
            refine RunL.nil ?_
            refine Run.retC2 (A' := _) Try.func90 rfl rfl rfl ti86 rfl rfl Blk.pts rfl (Grew.refl _) ?_
            exact ⟨_, rfl, (asg (asg (asg (asg (asg (asg (asg (asg (asg (asg as1))))))))))⟩
          refine RunL.on rfl rfl ?_
          refine RunL.ok (OpOk.fieldAddr fld111_3 rfl) rfl ?_
          refine RunL.on rfl rfl ?_
          refine RunL.ok (OpOk.load rfl rfl rfl (Blk.out Blk.pts.left _ _ (by first | rfl | assumption))) rfl ?_
          refine RunL.on rfl rfl ?_
          refine RunL.ok (OpOk.geq rfl rfl) rfl ?_
          refine RunL.ok (OpOk.pickF rfl rfl) rfl ?_
          refine RunL.ok (OpOk.move rfl) rfl ?_
          refine RunL.splitD (t := 73) rfl (fun z4 => ?_) (fun z4 => ?_)
          · refine RunL.off rfl rfl rfl rfl ?_
            refine RunL.ok (OpOk.pickT rfl rfl) rfl ?_
            refine RunL.ok (OpOk.move rfl) rfl ?_
            refine RunL.off rfl rfl rfl rfl ?_
            refine RunL.off rfl rfl rfl rfl ?_
            refine RunL.off rfl rfl rfl rfl ?_
            refine RunL.off rfl rfl rfl rfl ?_
            refine RunL.off rfl rfl rfl rfl ?_
            refine RunL.off rfl rfl rfl rfl ?_
            refine RunL.off rfl rfl rfl rfl ?_
            refine RunL.ok (OpOk.pickT rfl rfl) rfl ?_
            refine RunL.nil ?_
            refine Run.condT rfl ?_
            refine Run.seq ?_
            refine Run.region ?_
            refine RunL.ok (OpOk.build rfl (fun w => run_build w 86 _ _ (by rfl))) rfl ?_
            refine RunL.storeAll ti86 rfl rfl rfl (ones rfl) (frl (frl (frl (frl (frl (frl (frl (frl (frl rfl))))))))) rfl ?_
            refine RunL.ok (OpOk.assign rfl) rfl ?_
            refine RunL.nil ?_
            refine Run.retC2 (A' := _) Try.func90 rfl rfl rfl ti86 rfl rfl Blk.pts rfl (Grew.refl _) ?_
            exact ⟨_, rfl, (asg (asg (asg (asg (asg (asg (asg (asg (asg (asg as1))))))))))⟩
          refine RunL.on rfl rfl ?_
          refine RunL.ok (OpOk.move rfl) rfl ?_
          refine RunL.ok (OpOk.pickF rfl rfl) rfl ?_
          refine RunL.ok (OpOk.move rfl) rfl ?_
          refine RunL.off rfl rfl rfl rfl ?_
          refine RunL.off rfl rfl rfl rfl ?_
          refine RunL.off rfl rfl rfl rfl ?_
          refine RunL.off rfl rfl rfl rfl ?_
          refine RunL.off rfl rfl rfl rfl ?_
          refine RunL.off rfl rfl rfl rfl ?_
          refine RunL.off rfl rfl rfl rfl ?_
          refine RunL.ok (OpOk.pickT rfl rfl) rfl ?_
          refine RunL.nil ?_
          refine Run.condT rfl ?_
          refine Run.seq ?_
          refine Run.region ?_
          refine RunL.ok (OpOk.build rfl (fun w => run_build w 86 _ _ (by rfl))) rfl ?_
          refine RunL.storeAll ti86 rfl rfl rfl (ones rfl) (frl (frl (frl (frl (frl (frl (frl (frl (frl rfl))))))))) rfl ?_
          refine RunL.ok (OpOk.assign rfl) rfl ?_
          refine RunL.nil ?_
          refine Run.retC2 (A' := _) Try.func90 rfl rfl rfl ti86 rfl rfl Blk.pts rfl (Grew.refl _) ?_
          exact ⟨_, rfl, (asg (asg (asg (asg (asg (asg (asg (asg (asg (asg as1))))))))))⟩
        | false =>
          rw [show (dirD d i).any (fun e => decide (e.2.2.2 = s)) = false from htk]
          refine RunL.ok (OpOk.assign rfl) rfl ?_
          refine RunL.nil ?_
          refine Run.seq ?_
          refine Run.seq ?_
          refine Run.region ?_
          refine RunL.ok (OpOk.loadS rfl rfl ti111 rfl Blk.pts rfl) rfl ?_
          refine RunL.call cal103 rfl (s103) rfl (fun vz1 Az1 hz1 => ?_)
          obtain ⟨z2, ⟨rfl, rfl⟩⟩ := hz1
          refine RunL.ok (OpOk.not rfl) rfl ?_
          refine RunL.ok (OpOk.move rfl) rfl ?_
          refine RunL.splitN (t := 68) rfl (fun z3 => ?_) (fun z3 => ?_)
          · refine RunL.off rfl rfl rfl rfl ?_
            refine RunL.off rfl rfl rfl rfl ?_
            refine RunL.off rfl rfl rfl rfl ?_
            refine RunL.ok (OpOk.pickT rfl rfl) rfl ?_
            refine RunL.ok (OpOk.move rfl) rfl ?_
            refine RunL.off rfl rfl rfl rfl ?_
            refine RunL.ok (OpOk.pickT rfl rfl) rfl ?_
            refine RunL.ok (OpOk.move rfl) rfl ?_
            refine RunL.off rfl rfl rfl rfl ?_
            refine RunL.off rfl rfl rfl rfl ?_
            refine RunL.off rfl rfl rfl rfl ?_
            refine RunL.off rfl rfl rfl rfl ?_
            refine RunL.off rfl rfl rfl rfl ?_
            refine RunL.off rfl rfl rfl rfl ?_
            refine RunL.off rfl rfl rfl rfl ?_
            refine RunL.ok (OpOk.pickT rfl rfl) rfl ?_
            refine RunL.nil ?_
            refine Run.condT rfl ?_
            refine Run.seq ?_
            refine Run.region ?_
            refine RunL.ok (OpOk.build rfl (fun w => run_build w 86 _ _ (by rfl))) rfl ?_
            refine RunL.storeAll ti86 rfl rfl rfl (ones rfl) (frl (frl (frl (frl (frl (frl (frl (frl (frl rfl))))))))) rfl ?_
            refine RunL.ok (OpOk.assign rfl) rfl ?_
            refine RunL.nil ?_
            refine Run.retC2 (A' := _) Try.func90 rfl rfl rfl ti86 rfl rfl Blk.pts rfl (Grew.refl _) ?_
            exact ⟨_, rfl, (asg (asg (asg (asg (asg (asg (asg (asg (asg (asg as1))))))))))⟩
          refine RunL.on rfl rfl ?_
          refine RunL.ok (OpOk.fieldAddr fld111_3 rfl) rfl ?_
          refine RunL.on rfl rfl ?_
          refine RunL.ok (OpOk.load rfl rfl rfl (Blk.out Blk.pts.left _ _ (by first | rfl | assumption))) rfl ?_
          refine RunL.on rfl rfl ?_
          refine RunL.ok (OpOk.geq rfl rfl) rfl ?_
          refine RunL.ok (OpOk.pickF rfl rfl) rfl ?_
          refine RunL.ok (OpOk.move rfl) rfl ?_
          refine RunL.splitD (t := 73) rfl (fun z4 => ?_) (fun z4 => ?_)
          · refine RunL.off rfl rfl rfl rfl ?_
            refine RunL.ok (OpOk.pickT rfl rfl) rfl ?_
            refine RunL.ok (OpOk.move rfl) rfl ?_
            refine RunL.off rfl rfl rfl rfl ?_
            refine RunL.off rfl rfl rfl rfl ?_
            refine RunL.off rfl rfl rfl rfl ?_
            refine RunL.off rfl rfl rfl rfl ?_
            refine RunL.off rfl rfl rfl rfl ?_
            refine RunL.off rfl rfl rfl rfl ?_
            refine RunL.off rfl rfl rfl rfl ?_
            refine RunL.ok (OpOk.pickT rfl rfl) rfl ?_
            refine RunL.nil ?_
            refine Run.condT rfl ?_
            refine Run.seq ?_
            refine Run.region ?_
            refine RunL.ok (OpOk.build rfl (fun w => run_build w 86 _ _ (by rfl))) rfl ?_
            refine RunL.storeAll ti86 rfl rfl rfl (ones rfl) (frl (frl (frl (frl (frl (frl (frl (frl (frl rfl))))))))) rfl ?_
            refine RunL.ok (OpOk.assign rfl) rfl ?_
            refine RunL.nil ?_
            refine Run.retC2 (A' := _) Try.func90 rfl rfl rfl ti86 rfl rfl Blk.pts rfl (Grew.refl _) ?_
            exact ⟨_, rfl, (asg (asg (asg (asg (asg (asg (asg (asg (asg (asg as1))))))))))⟩
          refine RunL.on rfl rfl ?_
          refine RunL.ok (OpOk.move rfl) rfl ?_
          refine RunL.ok (OpOk.pickF rfl rfl) rfl ?_
          refine RunL.ok (OpOk.move rfl) rfl ?_
          refine RunL.on rfl rfl ?_
          refine RunL.ok (OpOk.loadS rfl rfl ti86 rfl Blk.pts.left.left.left.left.left.left.left.left rfl) rfl ?_
          refine RunL.on rfl rfl ?_
          refine RunL.ok (OpOk.fieldAddr fld111_1 rfl) rfl ?_
          refine RunL.on rfl rfl ?_
          refine RunL.ok (OpOk.load rfl rfl rfl (Blk.out Blk.pts.left _ _ (by first | rfl | assumption))) rfl ?_
          refine RunL.on rfl rfl ?_
          refine RunL.ok (OpOk.fieldAddr fld111_2 rfl) rfl ?_
          refine RunL.on rfl rfl ?_
          refine RunL.ok (OpOk.load rfl rfl rfl (Blk.out Blk.pts.left _ _ (by first | rfl | assumption))) rfl ?_
          refine RunL.on rfl rfl ?_
          refine RunL.call cal45 rfl (s45 (Rd.right rdy4).left.left.left.left.left.left.left) rfl (fun vz5 Az5 hz5 => ?_)
          obtain ⟨z6, ⟨rfl, rfl⟩⟩ := hz5
          refine RunL.on rfl rfl ?_
          refine RunL.ok (OpOk.geq rfl rfl) rfl ?_
          refine RunL.ok (OpOk.pickF rfl rfl) rfl ?_
          refine RunL.nil ?_
          refine Run.condD rfl (fun z7 => ?_) (fun z7 => ?_)
          · refine Run.seq ?_
            refine Run.region ?_
            refine RunL.ok (OpOk.build rfl (fun w => run_build w 86 _ _ (by rfl))) rfl ?_
            refine RunL.storeAll ti86 rfl rfl rfl (ones rfl) (frl (frl (frl (frl (frl (frl (frl (frl (frl (frl rfl)))))))))) rfl ?_
            refine RunL.ok (OpOk.assign rfl) rfl ?_
            refine RunL.nil ?_
            refine Run.retC2 (A' := _) Try.func90 rfl rfl rfl ti86 rfl rfl Blk.pts rfl (Grew.refl _) ?_
            exact ⟨_, rfl, (asg (asg (asg (asg (asg (asg (asg (asg (asg (asg (asg as1)))))))))))⟩
          refine Run.skip ?_
          refine Run.region ?_
          refine RunL.ok (OpOk.fieldAddr fld86_4 rfl) rfl ?_
          refine RunL.ok (OpOk.load rfl rfl rfl (Blk.out Blk.pts.left.left.left.left.left.left.left.left.left _ _ (by first | rfl | assumption))) rfl ?_
          refine RunL.ok (OpOk.loadS rfl rfl ti111 rfl Blk.pts.left.left rfl) rfl ?_
          refine RunL.litFl (enc := encT111) [(k, (o, (n, s)))] rfl ti111 rfl (fun _ => rfl) rfl rfl (by decide) (by decide) rfl (fun vz8 rdz8 => ?_)
          refine RunL.know (fun w s => (s.conv rfl).ownRd0) (fun rdz10 => ?_)
          refine RunL.appendF rfl ti111 rfl rfl rfl (frl (frl (frl (frl (frl (frl (frl (frl (frl rfl))))))))) (Rd.right rdz10) rfl (by decide) (by omega) (by simp only [maxLen]; omega) rfl (fun vz9 rdz9 => ?_)
          refine RunL.ok (OpOk.fieldAddr fld86_4 rfl) rfl ?_
          refine RunL.know (fun w s => (s.conv rfl).ownRd0) (fun rdz11 => ?_)
          refine RunL.store ti84 rfl rfl (Rd.one rdz11) (frl (frl (frl (frl (frl (frl (frl (frl (frl (frl rfl)))))))))) (by exact Nat.le_of_ble_eq_true rfl) (.inl rfl) ?_
          refine RunL.nil ?_
          refine Run.inBlock ?_
          refine Run.region ?_
          refine RunL.ok (OpOk.addN _ 1 rfl rfl rfl rfl (by omega)) rfl ?_
          refine RunL.ok (OpOk.move rfl) rfl ?_
          refine RunL.nil ?_
          rw [← hdn, show 3 + 5 * i + 5 = 3 + 5 * (i + 1) by omega]
          refine Run.jump ((ih (i + 1, _, vz9) ⟨by dsimp only; omega, by dsimp only; rw [hgn, htk]; simp [*]; omega⟩ (by dsimp only; omega))) ⟨rfl, rfl, rfl, rfl, rfl, rfl, trivial⟩ (Grew.of (Eq.trans (frc (frl rfl) (frc rfl (frc (frl (frl (frl (frl (frl (frl rfl)))))) (frc (frl (frl (frl (frl (frl (frl rfl)))))) (frc (frl (frl (frl (frl (frl (frl (frl rfl))))))) rfl))))) (congrArg (· * _) (congrArg (· * _) (congrArg (· * _) (congrArg (· * _) (congrArg (· * _) (asg (asg (asg (asg (asg (asg (asg as1))))))))))))) (Grew.refl _))
      · obtain rfl : i = N := by omega
        rw [hgi] at hg
        cases hg
end
end Go.Proofs.Yteopadjihklkmaa
end

section
namespace Go.Proofs.Yteopadjihklkmaa
open Go Go.Proofs
set_option maxRecDepth 100000
set_option maxHeartbeats 4000000
set_option linter.unusedSimpArgs false
set_option linter.unusedVariables false
theorem Spec.learn2 {P : Program} {w0 : World} {f : FuncId} {args : List Value} {A : Asn} {R R' : Value → Asn → Prop} (h : Spec P w0 f args A R) (hr : ∀ v A' w, R v A' → Sat w0 w A' → R' v A') : Spec P w0 f args A R' :=
  ⟨fun w hs => (h.out w hs).mono fun _ w' ⟨v, A', hR, he, hs'⟩ => ⟨v, A', hr v A' w' hR hs', he, hs'⟩⟩
/-- Is a directory's sector right? -/
def okB (bs : List UInt8) : Bool := decide (sealed (bs.take 30) = bs) && headD (bs.take 30) && decide (sectB (listB (by2 (bs.take 30) 0) (entsD (bs.take 30))) = bs)
section
variable {w0 : World} {A : Asn}
theorem s90a {u : Value} {m : Nat} {bs : List UInt8} (rd : Rd w0 A u 1 m (B bs)) (hm : m = 32) (hok : okB bs = true) : Spec Try.prog w0 90 [u] A (fun v' A' => ∃ ad cap J, v' = .tuple #[.agg #[.int .i64 0, .int .i64 0, .int .i64 (by2 (bs.take 30) 0), .int .i64 0, .slice ad (entsD (bs.take 30)).length cap], .bool true] ∧
    A' = A * J * own 111 4 (.slice ad (entsD (bs.take 30)).length cap) (entsD (bs.take 30)).length (Fl encT111 (entsD (bs.take 30)))) := by
  subst hm
  simp only [okB, Bool.and_eq_true, decide_eq_true_eq] at hok
  obtain ⟨⟨h1, h2⟩, h3⟩ := hok
  refine Spec.learn2 (parse_ok rd h1 h2) ?_
  rintro v' A' w ⟨v, J, rfl, rfl⟩ hs
  obtain ⟨ad, cap, rfl, _, _⟩ := hs.ownRd0.form
  exact ⟨ad, cap, J, by rw [decide_eq_true h3], rfl⟩
theorem s90b {u : Value} {m : Nat} {bs : List UInt8} (rd : Rd w0 A u 1 m (B bs)) (hm : m = 32) (hok : okB bs = false) : Spec Try.prog w0 90 [u] A (fun v' A' => ∃ q ad n cap J, v' = .tuple #[.agg #[.int .i64 0, .int .i64 0, .int .i64 q, .int .i64 0, .slice ad n cap], .bool false] ∧ A' = A * J) := by
  subst hm
  rcases Decidable.em (sealed (bs.take 30) = bs) with h1 | h1
  · cases h2 : headD (bs.take 30) with
    | false =>
      refine (parse_no rd h1 h2).mono ?_
      rintro v' A' ⟨J, rfl, rfl⟩
      exact ⟨0, none, 0, 0, J, rfl, rfl⟩
    | true =>
      have h3 : ¬ sectB (listB (by2 (bs.take 30) 0) (entsD (bs.take 30))) = bs := fun e => by
        rw [okB, decide_eq_true h1, h2, decide_eq_true e] at hok
        cases hok
      refine Spec.learn2 (parse_ok rd h1 h2) ?_
      rintro v' A' w ⟨v, J, rfl, rfl⟩ hs
      obtain ⟨ad, cap, rfl, _, _⟩ := hs.ownRd0.form
      exact ⟨_, ad, _, cap, J * own 111 4 (.slice ad (entsD (bs.take 30)).length cap) (entsD (bs.take 30)).length (Fl encT111 (entsD (bs.take 30))), by rw [decide_eq_false h3], (sep_assoc _ _ _)⟩
  · refine (parse_bad rd h1).mono ?_
    rintro v' A' ⟨J, rfl, rfl⟩
    exact ⟨0, none, 0, 0, J, rfl, rfl⟩
end
end Go.Proofs.Yteopadjihklkmaa
end

section
namespace Go.Proofs.Yteopadjihklkmaa
open Go
set_option linter.unusedSimpArgs false
set_option linter.unusedVariables false
structure Shape0 (ops : Array Oper) (tail : List Nat) (E : Env) (n : Nat) : Prop where
  ord : ordered 0 ops.toList = true
  dst : ∀ (i : Nat) (o : Oper) (d : Nat), ops[i]? = some o → i ∉ tail → o.dst = some d → d < n ∧ d ∉ E.map (·.1) ∧ ∀ (j : Nat) (p : Oper), ops[j]? = some p → j ∉ tail → p.dst = some d → i = j
  last : ∀ t ∈ tail, t < ops.size ∧ ∀ i, i < ops.size → i ∉ tail → reach (befs ops.toList []) i t = true
def chk0 (ops : List Oper) (tail : List Nat) (keys : List Nat) (n : Nat) : Bool :=
  let ms := befs ops []
  ordered 0 ops && (List.range ops.length).all (fun i => has tail i || match (ops[i]?).bind (·.dst) with
    | none => true
    | some d => Nat.blt d n && !has keys d && (List.range ops.length).all fun j => Nat.beq i j || has tail j || !eqD ((ops[j]?).bind (·.dst)) d) &&
  tail.all (fun t => Nat.blt t ops.length && (List.range ops.length).all fun i => has tail i || reach ms i t)
section
variable {P : Program} {n : Nat} {w0 : World} {ops : Array Oper} {tail : List Nat} {E : Env} {A : Asn} {K : Act → World → Prop}
theorem Shape0.of_chk {l : List Oper} (h : chk0 l tail (E.map (·.1)) n = true) : Shape0 l.toArray tail E n := by
  simp only [chk0, Bool.and_eq_true] at h
  obtain ⟨⟨h1, h2⟩, h3⟩ := h
  refine ⟨by simpa using h1, ?_, ?_⟩
  · intro i o d ho ht hd
    have hi : i < l.length := by simpa using (Array.getElem?_eq_some_iff.1 ho).1
    have h := List.all_eq_true.1 h2 i (by simpa using hi)
    rw [Bool.or_eq_true] at h
    rcases h with h | h
    · exact absurd (has_iff.1 h) ht
    · have ho2 : l[i]? = some o := by simpa using ho
      rw [ho2, Option.bind_some, hd] at h
      simp only [Bool.and_eq_true, Bool.not_eq_true'] at h
      obtain ⟨⟨a1, a2⟩, a3⟩ := h
      refine ⟨Nat.le_of_ble_eq_true a1, fun hm => ?_, fun j p hp hj hpd => ?_⟩
      · rw [has_iff.2 hm] at a2
        cases a2
      · have hj2 : j < l.length := by simpa using (Array.getElem?_eq_some_iff.1 hp).1
        have h := List.all_eq_true.1 a3 j (by simpa using hj2)
        have hp2 : l[j]? = some p := by simpa using hp
        rw [hp2, Option.bind_some, hpd] at h
        simp only [Bool.or_eq_true, Bool.not_eq_true'] at h
        rcases h with (h | h) | h
        · exact Nat.eq_of_beq_eq_true h
        · exact absurd (has_iff.1 h) hj
        · simp [eqD] at h
  · intro t ht
    have h := List.all_eq_true.1 h3 t ht
    rw [Bool.and_eq_true] at h
    refine ⟨by have := Nat.le_of_ble_eq_true h.1; simp; omega, fun i hi hn => ?_⟩
    have h5 := List.all_eq_true.1 h.2 i (by simpa using hi)
    rw [Bool.or_eq_true] at h5
    rcases h5 with h5 | h5
    · exact absurd (has_iff.1 h5) hn
    · simpa using h5
/-- A writer without a result. -/
theorem COp.ofS {op : Op} {ty : TypeId} {ps : String} {af : Array Edge} {g : Option (Nat × Bool)} {E' : Env} {B : Asn} {R : Value → Asn → Asn → Prop}
    (h : ∀ K : Act → World → Prop, (∀ P' L', R undef P' L' → RunL P n w0 ops [] K E' (A * P' * L')) → RunL P n w0 ops [{ dst := none, op, type := ty, pos := ps, after := af, guard := none }] K E' B) :
    COp P n w0 A { dst := none, op, type := ty, pos := ps, after := af, guard := g } E' B R := by
  refine ⟨fun a w K Q he hs hk => ?_⟩
  have h1 := (h (fun a' w' => ∃ P' L', R undef P' L' ∧ Ev n a' E' ∧ Sat w0 w' (A * P' * L')) fun P' L' hR => .done fun a' w' he' hs' => ⟨P', L', hR, he', hs'⟩).out a w he hs
  unfold wpList at h1
  rw [if_pos (by simp [Region.wanted])] at h1
  rcases h1 with h1 | ⟨_, _, _, hq⟩
  · refine wp_put (o := { dst := none, op, type := ty, pos := ps, after := af, guard := none }) h1 (fun v w' hn => ?_) (fun a' w' hd' hn => ?_)
    · simp only [wpList, Qk] at hn
      obtain ⟨P', L', hR, he', hs'⟩ := hn
      exact hk undef P' L' w' hR hs'
    · simp only [wpList, Qk] at hn
      obtain ⟨P', L', hR, he', hs'⟩ := hn
      exact absurd he'.defers hd'
  · exact hq.elim
end
end Go.Proofs.Yteopadjihklkmaa
end

section
namespace Go.Proofs.Yteopadjihklkmaa
open Go Go.Proofs
set_option maxRecDepth 100000
set_option maxHeartbeats 4000000
set_option linter.unusedSimpArgs false
set_option linter.unusedVariables false
theorem take_face {bs : List UInt8} (h : bs.length = 30) : TakeF bs 0 0 [16, 16, 8] [by2 bs 0, by2 bs 2, by1 bs 4] 40 0 := by
  have := takeF_ok (xs := bs) (a := 0) (ws := [16, 16, 8]) (by decide) (by rw [h]; decide)
  rwa [show nums bs 0 [16, 16, 8] = [by2 bs 0, by2 bs 2, by1 bs 4] by simp only [nums]; rw [show (0 : Nat) = 8 * 0 from rfl, n16, show 8 * 0 + (16 : Int).toNat = 8 * 2 from rfl, n16, show 8 * 2 + (16 : Int).toNat = 8 * 4 from rfl, n8]] at this
/-- Is the first sector right: its number and issuer. -/
def cardB (bs : List UInt8) : Int := by2 (bs.take (32 - 2)) 2
def issB (bs : List UInt8) : Int := by1 (bs.take (32 - 2)) 4
def faceOk (bs : List UInt8) : Prop := namedP (cardB bs) (issB bs) ∧ sectB (faceB (cardB bs) (issB bs)) = bs
/-- The best directory of the first so many copies: its count, its copy, its entries. -/
abbrev Best := Int × Int × List En
def bestF (xs : List UInt8) : Nat → Best
  | 0 => (0, 0, [])
  | i + 1 => if okB (secOf xs (i + 1)) = true ∧ (bestF xs i).1 < by2 ((secOf xs (i + 1)).take 30) 0 then (by2 ((secOf xs (i + 1)).take 30) 0, ((i + 1 : Nat) : Int), entsD ((secOf xs (i + 1)).take 30)) else bestF xs i
section
variable {w0 : World} {A : Asn} {p : Nat} {xs : List UInt8} {w : Int}
theorem read_go (hx : xs.length = 512) (hs : sealed ((secOf xs 0).take (32 - 2)) = secOf xs 0) (hf : faceOk (secOf xs 0)) : Spec Try.prog w0 39 [.pointer (some ⟨p, 0, none⟩)] (A * pts p (.cells (B (xs) ++ [Value.int .i64 (w)]).toArray 177 (0, 0))) (fun v' A' => ∃ ad cap J, (v' = if (bestF xs 2).2.1 = 0 then .tuple #[.agg #[.int .i64 0, .int .i64 0, .int .i64 0, .int .i64 0, .slice none 0 0], .int .i64 21] else .tuple #[.agg #[.int .i64 (cardB (secOf xs 0)), .int .i64 (issB (secOf xs 0)), .int .i64 (bestF xs 2).1, .int .i64 (bestF xs 2).2.1, .slice ad (bestF xs 2).2.2.length cap], .int .i64 0]) ∧ A' = A * J * own 111 4 (.slice ad (bestF xs 2).2.2.length cap) (bestF xs 2).2.2.length (Fl encT111 (bestF xs 2).2.2) * pts p (.cells (B (xs) ++ [Value.int .i64 (w)]).toArray 177 (0, 0))) := by
  have hs : sealed ((secOf xs (Int.toNat 0)).take (32 - 2)) = secOf xs (Int.toNat 0) := hs
  have hsl : (secOf xs (Int.toNat 0)).length = 32 := secOf_length hx (by decide)
  have hdl : ((secOf xs (Int.toNat 0)).take (32 - 2)).length = 30 := by rw [List.length_take]; omega
  have hT := take_face hdl
  obtain ⟨hn, he⟩ := hf
  have hfl : (faceB (by2 ((secOf xs (Int.toNat 0)).take (32 - 2)) 2) (by1 ((secOf xs (Int.toNat 0)).take (32 - 2)) 4)).length ≤ 30 := by show 5 ≤ 30; decide
  have hn2 : namedP ([by2 ((secOf xs (Int.toNat 0)).take (32 - 2)) 0, by2 ((secOf xs (Int.toNat 0)).take (32 - 2)) 2, by1 ((secOf xs (Int.toNat 0)).take (32 - 2)) 4].getD (Int.toNat 1) 0) ([by2 ((secOf xs (Int.toNat 0)).take (32 - 2)) 0, by2 ((secOf xs (Int.toNat 0)).take (32 - 2)) 2, by1 ((secOf xs (Int.toNat 0)).take (32 - 2)) 4].getD (Int.toNat 2) 0) := hn
  refine Spec.of_run [(0, .pointer (some ⟨p, 0, none⟩))] Try.func39 rfl (Nat.le_of_ble_eq_true rfl) (by repeat (first | exact trivial | refine ⟨rfl, ?_⟩)) ?_
  refine Run.seq ?_
  refine Run.region ?_
  refine RunL.alloc ti86 rfl (fun bx1 => ?_)
  refine RunL.ok (OpOk.assign rfl) rfl ?_
  refine RunL.nil ?_
  refine Run.seq ?_
  refine Run.seq ?_
  refine Run.region ?_
  refine RunL.ok (OpOk.move rfl) rfl ?_
  refine RunL.ok (OpOk.eqlPN rfl rfl) rfl ?_
  refine RunL.nil ?_
  refine Run.condF rfl ?_
  refine Run.skip ?_
  refine Run.seq ?_
  refine Run.region ?_
  refine RunL.ok (OpOk.move rfl) rfl ?_
  refine RunL.mem (frc (frl rfl) rfl) ?_
  refine RunL.call cal82 rfl (s82b (by omega) (by omega) (by assumption)) rfl (fun vx3 Ax3 hx3 => ?_)
  obtain ⟨x4, ⟨rfl, rfl⟩⟩ := hx3
  refine RunL.ok (OpOk.move rfl) rfl ?_
  refine RunL.ok (OpOk.ext20 rfl) rfl ?_
  refine RunL.ok (OpOk.ext21 rfl) rfl ?_
  refine RunL.ok (OpOk.assign rfl) rfl ?_
  refine RunL.ok (OpOk.assign rfl) rfl ?_
  refine RunL.nil ?_
  refine Run.seq ?_
  refine Run.region ?_
  refine RunL.ok (OpOk.move rfl) rfl ?_
  refine RunL.know (fun w s => (s.conv rfl).ownRd0) (fun rdx5 => ?_)
  refine RunL.call cal83 rfl (s83b (Rd.right rdx5) (by omega) (by omega) (by assumption)) rfl (fun vx7 Ax7 hx7 => ?_)
  obtain ⟨x8, ⟨x9, ⟨rfl, rfl⟩⟩⟩ := hx7
  refine RunL.ok (OpOk.move rfl) rfl ?_
  refine RunL.ok (OpOk.ext20 rfl) rfl ?_
  refine RunL.ok (OpOk.ext21 rfl) rfl ?_
  refine RunL.ok (OpOk.assign rfl) rfl ?_
  refine RunL.ok (OpOk.assign rfl) rfl ?_
  refine RunL.nil ?_
  refine Run.seq ?_
  refine Run.seq ?_
  refine Run.region ?_
  refine RunL.ok (OpOk.move rfl) rfl ?_
  refine RunL.ok (OpOk.as (c := false) (OpOk.neq rfl rfl) (by rw [decide_eq_true (by omega)]; rfl)) rfl ?_
  refine RunL.nil ?_
  refine Run.condF rfl ?_
  refine Run.skip ?_
  refine Run.seq ?_
  refine Run.region ?_
  refine RunL.ok (OpOk.move rfl) rfl ?_
  refine RunL.know (fun w s => (s.conv rfl).ownRd0) (fun rdx10 => ?_)
  refine RunL.call cal84 rfl (s84 (Rd.right rdx10) (by omega)) rfl (fun vx11 Ax11 hx11 => ?_)
  obtain ⟨x12, ⟨x13, ⟨rfl, rfl⟩⟩⟩ := hx11
  refine RunL.litI (xs := [16, 16, 8]) rfl ti3 rfl rfl rfl (by decide) rfl (fun vx14 rdx14 => ?_)
  refine RunL.know (fun w s => (s.conv rfl).ownRd0) (fun rdx15 => ?_)
  refine RunL.mem (frc (frl rfl) (frc (frl rfl) rfl)) ?_
  refine RunL.call cal85 rfl (s85a (Rd.right rdx15) (by assumption) rfl (by omega) (by omega) (by omega)) rfl (fun vx16 Ax16 hx16 => ?_)
  obtain rfl := hx16
  refine RunL.ok (OpOk.assign rfl) rfl ?_
  refine RunL.nil ?_
  refine Run.seq ?_
  refine Run.seq ?_
  refine Run.know (fun w s => (s.conv (frl rfl)).ownRd0) (fun rdx17 => ?_)
  refine Run.know (fun w s => (s.conv rfl).ownRd0) (fun rdx18 => ?_)
  (apply Run.drawD [] (by rfl) (sep_emp _).symm; case hchk => kernel_rfl)
  refine Sd.quiet 0 _ _ rfl rfl rfl rfl rfl (QOp.ok (fun X => OpOk.move rfl)) ?_
  refine Sd.quiet 1 _ _ rfl rfl rfl rfl rfl (QOp.ok (fun X => OpOk.idx1 rfl ti3 rfl (Rd.right rdx18).left.left rfl (by omega) (by omega))) ?_
  refine Sd.quiet 2 _ _ rfl rfl rfl rfl rfl (QOp.ok (fun X => OpOk.load rfl rfl rfl (Rd.getI (Rd.right rdx18).left.left (by omega)))) ?_
  refine Sd.quiet 3 _ _ rfl rfl rfl rfl rfl (QOp.ok (fun X => OpOk.move rfl)) ?_
  refine Sd.quiet 4 _ _ rfl rfl rfl rfl rfl (QOp.ok (fun X => OpOk.idx1 rfl ti3 rfl (Rd.right rdx18).left.left rfl (by omega) (by omega))) ?_
  refine Sd.quiet 5 _ _ rfl rfl rfl rfl rfl (QOp.ok (fun X => OpOk.load rfl rfl rfl (Rd.getI (Rd.right rdx18).left.left (by omega)))) ?_
  refine Sd.quiet 6 _ _ rfl rfl rfl rfl rfl (QOp.call cal86 rfl (fun X => s86)) ?_
  refine Sd.quiet 7 _ _ rfl rfl rfl rfl rfl (QOp.ok (fun X => OpOk.not rfl)) ?_
  refine Sd.quiet 8 _ _ rfl rfl rfl rfl rfl (QOp.ok (fun X => OpOk.move rfl)) ?_
  refine Sd.splitBF (bnF (by first | omega | with_reducible rfl | assumption)) ?_
  refine Sd.quiet 9 _ _ rfl rfl rfl rfl rfl (QOp.ok (fun X => OpOk.move rfl)) ?_
  refine Sd.quiet 10 _ _ rfl rfl rfl rfl rfl (QOp.ok (fun X => OpOk.idx1 rfl ti3 rfl (Rd.right rdx18).left.left rfl (by omega) (by omega))) ?_
  refine Sd.quiet 11 _ _ rfl rfl rfl rfl rfl (QOp.ok (fun X => OpOk.load rfl rfl rfl (Rd.getI (Rd.right rdx18).left.left (by omega)))) ?_
  refine Sd.quiet 12 _ _ rfl rfl rfl rfl rfl (QOp.ok (fun X => OpOk.move rfl)) ?_
  refine Sd.quiet 13 _ _ rfl rfl rfl rfl rfl (QOp.ok (fun X => OpOk.idx1 rfl ti3 rfl (Rd.right rdx18).left.left rfl (by omega) (by omega))) ?_
  refine Sd.quiet 14 _ _ rfl rfl rfl rfl rfl (QOp.ok (fun X => OpOk.load rfl rfl rfl (Rd.getI (Rd.right rdx18).left.left (by omega)))) ?_
  refine Sd.quiet 17 _ _ rfl rfl rfl rfl rfl (QOp.ok (fun X => OpOk.move rfl)) ?_
  (refine Sd.exec 15 rfl rfl rfl rfl rfl ?hrest (by rfl) (fun Xx19 Kx19 hKx19 => ?_); case hrest => kernel_rfl)
  refine RunL.mem (fl2 (sep_emp _) (sep_emp _)) ?_
  refine RunL.call cal89 rfl (s89 (by assumption)) rfl (fun vx20 Ax20 hx20 => ?_)
  obtain ⟨x21, rfl⟩ := hx20
  refine RunL.know (fun w s => (s.conv rfl).ownRd0) (fun rdx22 => ?_)
  refine Sd.ret hKx19 (Eq.trans rfl (gp2 (sep_emp _).symm (asg rfl))) ⟨_, (emp_sep _).symm⟩ ?_
  (refine Sd.exec 16 rfl rfl rfl rfl rfl ?hrest (by rfl) (fun Xx23 Kx23 hKx23 => ?_); case hrest => kernel_rfl)
  refine RunL.mem (fl2 (flS rfl) (sep_emp _)) ?_
  refine RunL.call cal88 rfl (s88 (Rd.right rdx22) (by assumption)) rfl (fun vx24 Ax24 hx24 => ?_)
  obtain ⟨x25, rfl⟩ := hx24
  refine RunL.know (fun w s => (s.conv rfl).ownRd0) (fun rdx26 => ?_)
  refine Sd.ret hKx23 (Eq.trans rfl (gp2 (sep_emp _).symm (asg (asg (asg rfl))))) ⟨_, (asg rfl)⟩ ?_
  refine Sd.quiet 18 _ _ rfl rfl rfl rfl rfl (QOp.call cal87 rfl (fun X => s87 (Rd.right (Rd.right rdx26)).left (Rd.right rdx5).left.left.left.left.left.left.left.left)) ?_
  refine Sd.quiet 19 _ _ rfl rfl rfl rfl rfl (QOp.ok (fun X => OpOk.not rfl)) ?_
  refine Sd.quiet 20 _ _ rfl rfl rfl rfl rfl (QOp.ok (fun X => OpOk.pickF rfl rfl)) ?_
  (apply Sd.tail; case hall => kernel_rfl)
  refine RunL.mem (fl2 (flS (flS (flS rfl))) (sep_emp _)) ?_
  refine RunL.nil ?_
  refine Run.condNF rfl (by first | omega | with_reducible rfl | assumption) ?_
  refine Run.skip ?_
  refine Run.seq ?_
  refine Run.region ?_
  refine RunL.alloc ti86 rfl (fun bx27 => ?_)
  refine RunL.nil ?_
  refine Run.seq ?_
  refine Run.seq ?_
  refine Run.region ?_
  refine RunL.ok (OpOk.assign rfl) rfl ?_
  refine RunL.nil ?_
  refine Run.block ?_
  have hlC : ([by2 ((secOf xs (Int.toNat 0)).take (32 - 2)) 0, by2 ((secOf xs (Int.toNat 0)).take (32 - 2)) 2, by1 ((secOf xs (Int.toNat 0)).take (32 - 2)) 4] : List Int) = [by2 ((secOf xs (Int.toNat 0)).take (32 - 2)) 0, cardB (secOf xs 0), issB (secOf xs 0)] := rfl
  rw [hlC]
  generalize by2 ((secOf xs (Int.toNat 0)).take (32 - 2)) 0 = q0
  generalize cardB (secOf xs 0) = cn
  generalize issB (secOf xs 0) = ci
  clear hn2 hT hlC hs rdx14 rdx15 rdx17 rdx18 rdx22 rdx26 rdx5 rdx10
  refine Run.ent (Ent.ownNil' _ 111 4 (Fl encT111 ([] : List En)) rfl) ?_
  refine Run.jump ((Run.loopJ (X := Nat × Asn × Option Addr × Nat) (fun x => [(10, .int .i64 ((x.1 + 1 : Nat) : Int)), (9, .pointer (some ⟨bx27, 0, none⟩)), (8, vx16), (2, .pointer (some ⟨bx1, 0, none⟩)), (0, .pointer (some ⟨p, 0, none⟩))]) (fun x => A * x.2.1 * pts bx1 (.cells #[.int .i64 0, .int .i64 0, .int .i64 0, .int .i64 0, .slice none 0 0] 86 (0, 0)) * pts p (.cells (B (xs) ++ [Value.int .i64 (w)]).toArray 177 (0, 0)) * own 3 1 vx16 3 (I [q0, cn, ci]) * pts bx27 (.cells #[.int .i64 0, .int .i64 0, .int .i64 (bestF xs x.1).1, .int .i64 (bestF xs x.1).2.1, .slice x.2.2.1 (bestF xs x.1).2.2.length x.2.2.2] 86 (0, 0)) * own 111 4 (.slice x.2.2.1 (bestF xs x.1).2.2.length x.2.2.2) (bestF xs x.1).2.2.length (Fl encT111 (bestF xs x.1).2.2)) (fun x => x.1 ≤ 2) (fun x => 2 - x.1) (0, _, none, 0) (Nat.zero_le _) (fun x hx ih => ?_))) ⟨rfl, rfl, rfl, rfl, rfl, trivial⟩ (Grew.of (Eq.trans (frc rfl (frc rfl (frc (frl (frl (frl (frl rfl)))) (frc (frl (frl (frl (frl (frl (frl (frl (frl (frl (frl rfl)))))))))) (frc (frl (frl (frl (frl (frl (frl (frl (frl (frl (frl rfl)))))))))) rfl))))) (congrArg (· * _) (congrArg (· * _) (congrArg (· * _) (congrArg (· * _) (congrArg (· * _) (asg (asg (asg (asg (asg (asg (asg (asg (asg as1))))))))))))))) (Grew.refl _))
  obtain ⟨i, J, ad, cap⟩ := x
  simp only at hx ih ⊢
  rcases Nat.lt_or_ge i 2 with hlt | hge
  · have hnb : bestF xs (i + 1) = if okB (secOf xs (i + 1)) = true ∧ (bestF xs i).1 < by2 ((secOf xs (i + 1)).take 30) 0 then (by2 ((secOf xs (i + 1)).take 30) 0, ((i + 1 : Nat) : Int), entsD ((secOf xs (i + 1)).take 30)) else bestF xs i := rfl
    cases hok : okB (secOf xs (((i + 1 : Nat) : Int)).toNat) with
    | true =>
      rcases Int.lt_or_le (bestF xs i).1 (by2 ((secOf xs (((i + 1 : Nat) : Int)).toNat).take 30) 0) with hq | hq
      · rw [if_pos ⟨hok, hq⟩] at hnb
        refine Run.seq ?_
        refine Run.seq ?_
        refine Run.region ?_
        refine RunL.ok (OpOk.move rfl) rfl ?_
        refine RunL.ok (OpOk.asT (OpOk.leq rfl rfl) (by omega)) rfl ?_
        refine RunL.nil ?_
        refine Run.condT rfl ?_
        refine Run.skip ?_
        refine Run.seq ?_
        refine Run.block ?_
        refine Run.seq ?_
        refine Run.region ?_
        refine RunL.ok (OpOk.move rfl) rfl ?_
        refine RunL.ok (OpOk.move rfl) rfl ?_
        refine RunL.mem (frc (frl (frl (frl rfl))) rfl) ?_
        refine RunL.call cal82 rfl (s82b (by omega) (by omega) (by assumption)) rfl (fun vy2 Ay2 hy2 => ?_)
        obtain ⟨y3, ⟨rfl, rfl⟩⟩ := hy2
        refine RunL.ok (OpOk.move rfl) rfl ?_
        refine RunL.ok (OpOk.ext20 rfl) rfl ?_
        refine RunL.ok (OpOk.ext21 rfl) rfl ?_
        refine RunL.ok (OpOk.assign rfl) rfl ?_
        refine RunL.ok (OpOk.assign rfl) rfl ?_
        refine RunL.nil ?_
        refine Run.seq ?_
        refine Run.region ?_
        refine RunL.ok (OpOk.move rfl) rfl ?_
        refine RunL.know (fun w s => (s.conv rfl).ownRd0) (fun rdy4 => ?_)
        refine RunL.call cal90 rfl (s90a (Rd.right rdy4) rfl (by assumption)) rfl (fun vy5 Ay5 hy5 => ?_)
        obtain ⟨y6, ⟨y7, ⟨y8, ⟨rfl, rfl⟩⟩⟩⟩ := hy5
        refine RunL.ok (OpOk.move rfl) rfl ?_
        refine RunL.ok (OpOk.ext20 rfl) rfl ?_
        refine RunL.ok (OpOk.ext21 rfl) rfl ?_
        refine RunL.alloc ti86 rfl (fun by9 => ?_)
        refine RunL.storeAll ti86 rfl rfl rfl (ones rfl) rfl rfl ?_
        refine RunL.ok (OpOk.assign rfl) rfl ?_
        refine RunL.nil ?_
        refine Run.seq ?_
        refine Run.region ?_
        refine RunL.ok (OpOk.move rfl) rfl ?_
        refine RunL.ok (OpOk.move rfl) rfl ?_
        refine RunL.on rfl rfl ?_
        refine RunL.ok (OpOk.fieldAddr fld86_2 rfl) rfl ?_
        refine RunL.on rfl rfl ?_
        refine RunL.ok (OpOk.load rfl rfl rfl (Blk.out Blk.pts _ _ (by first | rfl | assumption))) rfl ?_
        refine RunL.on rfl rfl ?_
        refine RunL.ok (OpOk.fieldAddr fld86_2 rfl) rfl ?_
        refine RunL.on rfl rfl ?_
        refine RunL.ok (OpOk.load rfl rfl rfl (Blk.out Blk.pts.left.left.left.left.left.left _ _ (by first | rfl | assumption))) rfl ?_
        refine RunL.on rfl rfl ?_
        refine RunL.ok (OpOk.asT (OpOk.gtr rfl rfl) (by omega)) rfl ?_
        refine RunL.ok (OpOk.pickT rfl rfl) rfl ?_
        refine RunL.nil ?_
        refine Run.condT rfl ?_
        refine Run.region ?_
        refine RunL.ok (OpOk.loadS rfl rfl ti86 rfl Blk.pts rfl) rfl ?_
        refine RunL.ok (OpOk.move rfl) rfl ?_
        refine RunL.storeAll ti86 rfl rfl rfl (ones rfl) (frl (frl (frl (frl (frl (frl rfl)))))) rfl ?_
        refine RunL.ok (OpOk.fieldAddr fld86_3 rfl) rfl ?_
        refine RunL.store ti3 rfl rfl rfl rfl (by exact Nat.le_of_ble_eq_true rfl) (.inl rfl) ?_
        refine RunL.nil ?_
        refine Run.inBlock ?_
        refine Run.region ?_
        refine RunL.ok (OpOk.move rfl) rfl ?_
        refine RunL.ok (OpOk.addN _ 1 rfl rfl rfl rfl (by omega)) rfl ?_
        refine RunL.ok (OpOk.assign rfl) rfl ?_
        refine RunL.nil ?_
        simp only [Int.toNat_natCast]
        have ih2 := fun J a c => ih (i + 1, J, a, c) (by dsimp only; omega) (by dsimp only; omega)
        simp only [hnb] at ih2
        refine Run.jump ((ih2 _ y6 y7)) ⟨rfl, rfl, rfl, rfl, rfl, trivial⟩ (Grew.of (Eq.trans (frc (frl (frl rfl)) (frc rfl (frc (frl (frl (frl (frl (frl rfl))))) (frc (frl (frl (frl rfl))) (frc (frl (frl (frl (frl rfl)))) rfl))))) (congrArg (· * _) (congrArg (· * _) (congrArg (· * _) (congrArg (· * _) (congrArg (· * _) (asg (asg (asg (asg as1)))))))))) (Grew.refl _))
      · rw [if_neg (fun h => absurd h.2 (Int.not_lt.2 hq))] at hnb
        refine Run.seq ?_
        refine Run.seq ?_
        refine Run.region ?_
        refine RunL.ok (OpOk.move rfl) rfl ?_
        refine RunL.ok (OpOk.asT (OpOk.leq rfl rfl) (by omega)) rfl ?_
        refine RunL.nil ?_
        refine Run.condT rfl ?_
        refine Run.skip ?_
        refine Run.seq ?_
        refine Run.block ?_
        refine Run.seq ?_
        refine Run.region ?_
        refine RunL.ok (OpOk.move rfl) rfl ?_
        refine RunL.ok (OpOk.move rfl) rfl ?_
        refine RunL.mem (frc (frl (frl (frl rfl))) rfl) ?_
        refine RunL.call cal82 rfl (s82b (by omega) (by omega) (by assumption)) rfl (fun vy2 Ay2 hy2 => ?_)
        obtain ⟨y3, ⟨rfl, rfl⟩⟩ := hy2
        refine RunL.ok (OpOk.move rfl) rfl ?_
        refine RunL.ok (OpOk.ext20 rfl) rfl ?_
        refine RunL.ok (OpOk.ext21 rfl) rfl ?_
        refine RunL.ok (OpOk.assign rfl) rfl ?_
        refine RunL.ok (OpOk.assign rfl) rfl ?_
        refine RunL.nil ?_
        refine Run.seq ?_
        refine Run.region ?_
        refine RunL.ok (OpOk.move rfl) rfl ?_
        refine RunL.know (fun w s => (s.conv rfl).ownRd0) (fun rdy4 => ?_)
        refine RunL.call cal90 rfl (s90a (Rd.right rdy4) rfl (by assumption)) rfl (fun vy5 Ay5 hy5 => ?_)
        obtain ⟨y6, ⟨y7, ⟨y8, ⟨rfl, rfl⟩⟩⟩⟩ := hy5
        refine RunL.ok (OpOk.move rfl) rfl ?_
        refine RunL.ok (OpOk.ext20 rfl) rfl ?_
        refine RunL.ok (OpOk.ext21 rfl) rfl ?_
        refine RunL.alloc ti86 rfl (fun by9 => ?_)
        refine RunL.storeAll ti86 rfl rfl rfl (ones rfl) rfl rfl ?_
        refine RunL.ok (OpOk.assign rfl) rfl ?_
        refine RunL.nil ?_
        refine Run.seq ?_
        refine Run.region ?_
        refine RunL.ok (OpOk.move rfl) rfl ?_
        refine RunL.ok (OpOk.move rfl) rfl ?_
        refine RunL.on rfl rfl ?_
        refine RunL.ok (OpOk.fieldAddr fld86_2 rfl) rfl ?_
        refine RunL.on rfl rfl ?_
        refine RunL.ok (OpOk.load rfl rfl rfl (Blk.out Blk.pts _ _ (by first | rfl | assumption))) rfl ?_
        refine RunL.on rfl rfl ?_
        refine RunL.ok (OpOk.fieldAddr fld86_2 rfl) rfl ?_
        refine RunL.on rfl rfl ?_
        refine RunL.ok (OpOk.load rfl rfl rfl (Blk.out Blk.pts.left.left.left.left.left.left _ _ (by first | rfl | assumption))) rfl ?_
        refine RunL.on rfl rfl ?_
        refine RunL.ok (OpOk.asF (OpOk.gtr rfl rfl) (by omega)) rfl ?_
        refine RunL.ok (OpOk.pickT rfl rfl) rfl ?_
        refine RunL.nil ?_
        refine Run.condF rfl ?_
        refine Run.skip ?_
        refine Run.inBlock ?_
        refine Run.region ?_
        refine RunL.ok (OpOk.move rfl) rfl ?_
        refine RunL.ok (OpOk.addN _ 1 rfl rfl rfl rfl (by omega)) rfl ?_
        refine RunL.ok (OpOk.assign rfl) rfl ?_
        refine RunL.nil ?_
        have ih2 := fun J a c => ih (i + 1, J, a, c) (by dsimp only; omega) (by dsimp only; omega)
        simp only [hnb] at ih2
        refine Run.jump ((ih2 _ ad cap)) ⟨rfl, rfl, rfl, rfl, rfl, trivial⟩ (Grew.of (Eq.trans (frc (frl (frl (frl (frl (frl rfl))))) (frc (frl (frl (frl (frl (frl rfl))))) (frc (frl (frl (frl (frl (frl rfl))))) (frc (frl (frl (frl (frl rfl)))) (frc (frl (frl (frl (frl rfl)))) rfl))))) (congrArg (· * _) (congrArg (· * _) (congrArg (· * _) (congrArg (· * _) (congrArg (· * _) (asg (asg (asg (asg as1)))))))))) (Grew.refl _))
    | false =>
      rw [if_neg (fun h => by rw [show okB (secOf xs (i + 1)) = false from hok] at h; cases h.1)] at hnb
      refine Run.seq ?_
      refine Run.seq ?_
      refine Run.region ?_
      refine RunL.ok (OpOk.move rfl) rfl ?_
      refine RunL.ok (OpOk.asT (OpOk.leq rfl rfl) (by omega)) rfl ?_
      refine RunL.nil ?_
      refine Run.condT rfl ?_
      refine Run.skip ?_
      refine Run.seq ?_
      refine Run.block ?_
      refine Run.seq ?_
      refine Run.region ?_
      refine RunL.ok (OpOk.move rfl) rfl ?_
      refine RunL.ok (OpOk.move rfl) rfl ?_
      refine RunL.mem (frc (frl (frl (frl rfl))) rfl) ?_
      refine RunL.call cal82 rfl (s82b (by omega) (by omega) (by assumption)) rfl (fun vy2 Ay2 hy2 => ?_)
      obtain ⟨y3, ⟨rfl, rfl⟩⟩ := hy2
      refine RunL.ok (OpOk.move rfl) rfl ?_
      refine RunL.ok (OpOk.ext20 rfl) rfl ?_
      refine RunL.ok (OpOk.ext21 rfl) rfl ?_
      refine RunL.ok (OpOk.assign rfl) rfl ?_
      refine RunL.ok (OpOk.assign rfl) rfl ?_
      refine RunL.nil ?_
      refine Run.seq ?_
      refine Run.region ?_
      refine RunL.ok (OpOk.move rfl) rfl ?_
      refine RunL.know (fun w s => (s.conv rfl).ownRd0) (fun rdy4 => ?_)
      refine RunL.call cal90 rfl (s90b (Rd.right rdy4) rfl (by assumption)) rfl (fun vy6 Ay6 hy6 => ?_)
      obtain ⟨y7, ⟨y8, ⟨y9, ⟨y10, ⟨y11, ⟨rfl, rfl⟩⟩⟩⟩⟩⟩ := hy6
      refine RunL.ok (OpOk.move rfl) rfl ?_
      refine RunL.ok (OpOk.ext20 rfl) rfl ?_
      refine RunL.ok (OpOk.ext21 rfl) rfl ?_
      refine RunL.alloc ti86 rfl (fun by12 => ?_)
      refine RunL.storeAll ti86 rfl rfl rfl (ones rfl) rfl rfl ?_
      refine RunL.ok (OpOk.assign rfl) rfl ?_
      refine RunL.nil ?_
      refine Run.seq ?_
      refine Run.region ?_
      refine RunL.ok (OpOk.move rfl) rfl ?_
      refine RunL.ok (OpOk.move rfl) rfl ?_
      refine RunL.off rfl rfl rfl rfl ?_
      refine RunL.off rfl rfl rfl rfl ?_
      refine RunL.off rfl rfl rfl rfl ?_
      refine RunL.off rfl rfl rfl rfl ?_
      refine RunL.off rfl rfl rfl rfl ?_
      refine RunL.ok (OpOk.pickF rfl rfl) rfl ?_
      refine RunL.nil ?_
      refine Run.condF rfl ?_
      refine Run.skip ?_
      refine Run.inBlock ?_
      refine Run.region ?_
      refine RunL.ok (OpOk.move rfl) rfl ?_
      refine RunL.ok (OpOk.addN _ 1 rfl rfl rfl rfl (by omega)) rfl ?_
      refine RunL.ok (OpOk.assign rfl) rfl ?_
      refine RunL.nil ?_
      have ih2 := fun J a c => ih (i + 1, J, a, c) (by dsimp only; omega) (by dsimp only; omega)
      simp only [hnb] at ih2
      refine Run.jump ((ih2 _ ad cap)) ⟨rfl, rfl, rfl, rfl, rfl, trivial⟩ (Grew.of (Eq.trans (frc (frl (frl (frl (frl rfl)))) (frc (frl (frl (frl (frl rfl)))) (frc (frl (frl (frl (frl rfl)))) (frc (frl (frl (frl rfl))) (frc (frl (frl (frl rfl))) rfl))))) (congrArg (· * _) (congrArg (· * _) (congrArg (· * _) (congrArg (· * _) (congrArg (· * _) (asg (asg (asg as1))))))))) (Grew.refl _))
  · obtain rfl : i = 2 := by omega
    clear ih
    have drawStop : True := trivial
    refine Run.seq ?_
    refine Run.seq ?_
    refine Run.region ?_
    refine RunL.ok (OpOk.move rfl) rfl ?_
    refine RunL.ok (OpOk.asF (OpOk.leq rfl rfl) (by omega)) rfl ?_
    refine RunL.nil ?_
    refine Run.condF rfl ?_
    refine Run.exit rfl ?_
    refine Run.seq ?_
    refine Run.seq ?_
    refine Run.region ?_
    refine RunL.ok (OpOk.fieldAddr fld86_3 rfl) rfl ?_
    refine RunL.ok (OpOk.load rfl rfl rfl (Blk.out Blk.pts.left _ _ (by first | rfl | assumption))) rfl ?_
    refine RunL.ok (OpOk.eql rfl rfl) rfl ?_
    refine RunL.nil ?_
    refine Run.condD rfl (fun y1 => ?_) (fun y1 => ?_)
    · refine Run.seq ?_
      refine Run.region ?_
      refine RunL.ok (OpOk.build rfl (fun w => run_build w 86 _ _ (by rfl))) rfl ?_
      refine RunL.storeAll ti86 rfl rfl rfl (ones rfl) (frl (frl (frl (frl rfl)))) rfl ?_
      refine RunL.ok (OpOk.assign rfl) rfl ?_
      refine RunL.nil ?_
      refine Run.retC2 (A' := _) Try.func39 rfl rfl rfl ti86 rfl rfl Blk.pts rfl (Grew.refl _) ?_
      refine ⟨ad, cap, J * own 3 1 vx16 3 (I [q0, cn, ci]) * pts bx27 (.cells #[.int .i64 0, .int .i64 0, .int .i64 (bestF xs 2).1, .int .i64 (bestF xs 2).2.1, .slice ad (bestF xs 2).2.2.length cap] 86 (0, 0)) * pts bx1 (.cells #[.int .i64 0, .int .i64 0, .int .i64 0, .int .i64 0, .slice none 0 0] 86 (0, 0)), (if_pos (by assumption)).symm, ?_⟩
      show A * J * pts p (.cells (B (xs) ++ [Value.int .i64 (w)]).toArray 177 (0, 0)) * own 3 1 vx16 3 (I [q0, cn, ci]) * pts bx27 (.cells #[.int .i64 0, .int .i64 0, .int .i64 (bestF xs 2).1, .int .i64 (bestF xs 2).2.1, .slice ad (bestF xs 2).2.2.length cap] 86 (0, 0)) * own 111 4 (.slice ad (bestF xs 2).2.2.length cap) (bestF xs 2).2.2.length (Fl encT111 (bestF xs 2).2.2) * pts bx1 (.cells #[.int .i64 0, .int .i64 0, .int .i64 0, .int .i64 0, .slice none 0 0] 86 (0, 0)) = _
      simp only [← sep_assoc]
      exact (frc (frl (frl (frl (frl rfl)))) (frc (frl rfl) rfl))
    refine Run.skip ?_
    refine Run.seq ?_
    clear drawStop
    refine Run.mem (A' := A * J * pts p (.cells (B (xs) ++ [Value.int .i64 (w)]).toArray 177 (0, 0)) * pts bx1 (.cells #[.int .i64 0, .int .i64 0, .int .i64 0, .int .i64 0, .slice none 0 0] 86 (0, 0)) * own 111 4 (.slice ad (bestF xs 2).2.2.length cap) (bestF xs 2).2.2.length (Fl encT111 (bestF xs 2).2.2) * pts bx27 (.cells #[.int .i64 0, .int .i64 0, .int .i64 (bestF xs 2).1, .int .i64 (bestF xs 2).2.1, .slice ad (bestF xs 2).2.2.length cap] 86 (0, 0)) * own 3 1 vx16 3 (I [q0, cn, ci])) ?_ ?_
    · exact (frc (frl (frl rfl)) (frc (frl rfl) (frc rfl (frc (frl rfl) rfl))))
    refine Run.know (fun w s => s.ownRd0) (fun rd3 => ?_)
    refine Run.drawL [9] (by rfl) (A := A * J * pts p (.cells (B (xs) ++ [Value.int .i64 (w)]).toArray 177 (0, 0)) * pts bx1 (.cells #[.int .i64 0, .int .i64 0, .int .i64 0, .int .i64 0, .slice none 0 0] 86 (0, 0)) * own 3 1 vx16 3 (I [q0, cn, ci]) * own 111 4 (.slice ad (bestF xs 2).2.2.length cap) (bestF xs 2).2.2.length (Fl encT111 (bestF xs 2).2.2)) (L := pts bx27 (.cells #[.int .i64 0, .int .i64 0, .int .i64 (bestF xs 2).1, .int .i64 (bestF xs 2).2.1, .slice ad (bestF xs 2).2.2.length cap] 86 (0, 0))) ?_ (by kernel_rfl) ?_
    · exact (frc (frl rfl) (frc (frl rfl) rfl))
    refine St.quiet 0 _ _ rfl rfl rfl rfl (QOp.ok (fun X => OpOk.move rfl)) ?_
    refine St.quiet 1 _ _ rfl rfl rfl rfl (QOp.ok (fun X => OpOk.idx1 rfl ti3 rfl (Rd.right rd3).left.left.left rfl (by omega) (by omega))) ?_
    refine St.quiet 2 _ _ rfl rfl rfl rfl (QOp.ok (fun X => OpOk.load rfl rfl rfl (Rd.getI (Rd.right rd3).left.left.left (by omega)))) ?_
    refine St.quiet 3 _ _ rfl rfl rfl rfl (QOp.ok (fun X => OpOk.move rfl)) ?_
    refine St.quiet 4 _ _ rfl rfl rfl rfl (QOp.ok (fun X => OpOk.idx1 rfl ti3 rfl (Rd.right rd3).left.left.left rfl (by omega) (by omega))) ?_
    refine St.quiet 5 _ _ rfl rfl rfl rfl (QOp.ok (fun X => OpOk.load rfl rfl rfl (Rd.getI (Rd.right rd3).left.left.left (by omega)))) ?_
    refine St.quiet 6 _ _ rfl rfl rfl rfl (QOp.ok (fun X => OpOk.fieldAddr fld86_0 rfl)) ?_
    refine St.quiet 8 _ _ rfl rfl rfl rfl (QOp.ok (fun X => OpOk.fieldAddr fld86_1 rfl)) ?_
    refine St.chain 7 _ (fun _ P' L' => P' = emp ∧ L' = pts bx27 (.cells #[.int .i64 cn, .int .i64 0, .int .i64 (bestF xs 2).1, .int .i64 (bestF xs 2).2.1, .slice ad (bestF xs 2).2.2.length cap] 86 (0, 0))) rfl rfl rfl rfl (by kernel_rfl) ?_ ?_ (fun _ P' L' h => ⟨emp, by rw [h.1, sep_emp]⟩)
    · refine COp.ofS (ops := #[]) (fun K hk => RunL.store ti3 rfl rfl rfl rfl (by exact Nat.le_of_ble_eq_true rfl) (.inl rfl) (hk _ _ ⟨rfl, rfl⟩))
    · rintro _ P' L' ⟨rfl, rfl⟩
      refine St.tail (by kernel_rfl) ?_
      refine RunL.mem (by rw [sep_emp]) ?_
      refine RunL.store ti3 rfl rfl rfl rfl (by exact Nat.le_of_ble_eq_true rfl) (.inl rfl) ?_
      refine RunL.nil ?_
      refine Run.seq ?_
      refine Run.region ?_
      refine RunL.ok (OpOk.loadS rfl rfl ti86 rfl Blk.pts rfl) rfl ?_
      refine RunL.storeAll ti86 rfl rfl rfl (ones rfl) (frl (frl (frl rfl))) rfl ?_
      refine RunL.ok (OpOk.assign rfl) rfl ?_
      refine RunL.nil ?_
      refine Run.retC2 (A' := _) Try.func39 rfl rfl rfl ti86 rfl rfl Blk.pts rfl (Grew.refl _) ?_
      refine ⟨ad, cap, J * own 3 1 vx16 3 (I [q0, cn, ci]) * pts bx27 (.cells #[.int .i64 cn, .int .i64 ci, .int .i64 (bestF xs 2).1, .int .i64 (bestF xs 2).2.1, .slice ad (bestF xs 2).2.2.length cap] 86 (0, 0)) * pts bx1 (.cells #[.int .i64 cn, .int .i64 ci, .int .i64 (bestF xs 2).1, .int .i64 (bestF xs 2).2.1, .slice ad (bestF xs 2).2.2.length cap] 86 (0, 0)), (if_neg (by assumption)).symm, ?_⟩
      show A * J * pts p (.cells (B (xs) ++ [Value.int .i64 (w)]).toArray 177 (0, 0)) * own 3 1 vx16 3 (I [q0, cn, ci]) * own 111 4 (.slice ad (bestF xs 2).2.2.length cap) (bestF xs 2).2.2.length (Fl encT111 (bestF xs 2).2.2) * pts bx27 (.cells #[.int .i64 cn, .int .i64 ci, .int .i64 (bestF xs 2).1, .int .i64 (bestF xs 2).2.1, .slice ad (bestF xs 2).2.2.length cap] 86 (0, 0)) * pts bx1 (.cells #[.int .i64 cn, .int .i64 ci, .int .i64 (bestF xs 2).1, .int .i64 (bestF xs 2).2.1, .slice ad (bestF xs 2).2.2.length cap] 86 (0, 0)) = _
      simp only [← sep_assoc]
      exact (frc (frl (frl (frl (frl rfl)))) (frc (frl (frl rfl)) rfl))
theorem s39e (hx : xs.length = 512) (hs : sealed ((secOf xs 0).take (32 - 2)) = secOf xs 0) (hf : faceOk (secOf xs 0)) (hb : (bestF xs 2).2.1 ≠ 0) : Spec Try.prog w0 39 [.pointer (some ⟨p, 0, none⟩)] (A * pts p (.cells (B (xs) ++ [Value.int .i64 (w)]).toArray 177 (0, 0))) (fun v' A' => ∃ ad cap J, v' = .tuple #[.agg #[.int .i64 (cardB (secOf xs 0)), .int .i64 (issB (secOf xs 0)), .int .i64 (bestF xs 2).1, .int .i64 (bestF xs 2).2.1, .slice ad (bestF xs 2).2.2.length cap], .int .i64 0] ∧ A' = A * J * own 111 4 (.slice ad (bestF xs 2).2.2.length cap) (bestF xs 2).2.2.length (Fl encT111 (bestF xs 2).2.2) * pts p (.cells (B (xs) ++ [Value.int .i64 (w)]).toArray 177 (0, 0))) := by
  refine (read_go hx hs hf).mono ?_
  rintro v' A' ⟨ad, cap, J, h1, rfl⟩
  rw [if_neg hb] at h1
  exact ⟨ad, cap, J, h1, rfl⟩
end
end Go.Proofs.Yteopadjihklkmaa
end

section
namespace Go.Proofs.Yteopadjihklkmaa
open Go Go.Proofs
set_option maxRecDepth 100000
set_option maxHeartbeats 4000000
set_option linter.unusedSimpArgs false
set_option linter.unusedVariables false
/-- What is on the card behind some writes, what power is left, how it ends. -/
def wroteF : List UInt8 → Int → Nat → List (List UInt8) → List UInt8 × Int × Int
  | xs, w, _, [] => (xs, w, 0)
  | xs, w, a, b :: r => if w = 0 then (xs, w, 30) else wroteF (setSec xs a b) (if 0 < w then w - 1 else w) (a + 1) r
structure Wrote (xs : List UInt8) (w : Int) (a : Nat) (l : List (List UInt8)) (zs : List UInt8) (w2 e : Int) : Prop where
  out : wroteF xs w a l = (zs, w2, e)
theorem setSec_len {xs ys : List UInt8} {i : Nat} (h : xs.length = 512) (hi : i ≤ 15) (hy : ys.length = 32) : (setSec xs i ys).length = 512 := by
  rw [setSec, List.length_append, List.length_append, List.length_take, List.length_drop]
  omega
theorem snd_get {ls : List (Value × List UInt8)} {i : Nat} (h : i < ls.length) : (ls.map Prod.snd).getD i default = (ls.getD i default).2 := by
  rw [List.getD_eq_getElem?_getD, List.getD_eq_getElem?_getD, List.getElem?_map, List.getElem?_eq_getElem h]; rfl
section
variable {w0 : World} {A : Asn} {p : Nat} {xs : List UInt8} {w s : Int}
theorem s42b (hx : xs.length = 512) (h0 : 0 ≤ s) (hs : s < 6) : Spec Try.prog w0 42 [.pointer (some ⟨p, 0, none⟩), .int .i64 s] (A * pts p (.cells (B (xs) ++ [Value.int .i64 (w)]).toArray 177 (0, 0))) (fun v' A' => ∃ v J, v' = .tuple #[v, .int .i64 0] ∧ A' = A * J * own 5 1 v 64 (B (secOf xs (3 + 2 * s).toNat ++ secOf xs (3 + 2 * s + 1).toNat)) * pts p (.cells (B (xs) ++ [Value.int .i64 (w)]).toArray 177 (0, 0))) := by
  refine Spec.of_run [(0, .pointer (some ⟨p, 0, none⟩)), (1, .int .i64 s)] Try.func42 rfl (Nat.le_of_ble_eq_true rfl) (by repeat (first | exact trivial | refine ⟨rfl, ?_⟩)) ?_
  refine Run.seq ?_
  refine Run.region ?_
  refine RunL.ok (OpOk.assign rfl) rfl ?_
  refine RunL.ok (OpOk.assign rfl) rfl ?_
  refine RunL.nil ?_
  refine Run.seq ?_
  refine Run.seq ?_
  refine Run.region ?_
  refine RunL.ok (OpOk.move rfl) rfl ?_
  refine RunL.ok (OpOk.eqlPN rfl rfl) rfl ?_
  refine RunL.ok (OpOk.move rfl) rfl ?_
  refine RunL.on rfl rfl ?_
  refine RunL.ok (OpOk.move rfl) rfl ?_
  refine RunL.on rfl rfl ?_
  refine RunL.ok (OpOk.asF (OpOk.lss rfl rfl) (by omega)) rfl ?_
  refine RunL.ok (OpOk.pickF rfl rfl) rfl ?_
  refine RunL.ok (OpOk.move rfl) rfl ?_
  refine RunL.on rfl rfl ?_
  refine RunL.ok (OpOk.move rfl) rfl ?_
  refine RunL.on rfl rfl ?_
  refine RunL.ok (OpOk.asF (OpOk.geq rfl rfl) (by omega)) rfl ?_
  refine RunL.ok (OpOk.pickF rfl rfl) rfl ?_
  refine RunL.nil ?_
  refine Run.condF rfl ?_
  refine Run.skip ?_
  refine Run.seq ?_
  refine Run.region ?_
  refine RunL.ok (OpOk.move rfl) rfl ?_
  refine RunL.ok (OpOk.move rfl) rfl ?_
  refine RunL.ok (OpOk.mul rfl rfl (wrapI (by omega) (by omega))) rfl ?_
  refine RunL.ok (OpOk.add rfl rfl (wrapI (by omega) (by omega))) rfl ?_
  refine RunL.call cal82 rfl (s82b (by omega) (by omega) (by assumption)) rfl (fun vx2 Ax2 hx2 => ?_)
  obtain ⟨x3, ⟨rfl, rfl⟩⟩ := hx2
  refine RunL.ok (OpOk.move rfl) rfl ?_
  refine RunL.ok (OpOk.ext20 rfl) rfl ?_
  refine RunL.ok (OpOk.ext21 rfl) rfl ?_
  refine RunL.ok (OpOk.assign rfl) rfl ?_
  refine RunL.ok (OpOk.assign rfl) rfl ?_
  refine RunL.nil ?_
  refine Run.seq ?_
  refine Run.region ?_
  refine RunL.ok (OpOk.move rfl) rfl ?_
  refine RunL.ok (OpOk.move rfl) rfl ?_
  refine RunL.ok (OpOk.mul rfl rfl (wrapI (by omega) (by omega))) rfl ?_
  refine RunL.ok (OpOk.add rfl rfl (wrapI (by omega) (by omega))) rfl ?_
  refine RunL.ok (OpOk.add rfl rfl (wrapI (by omega) (by omega))) rfl ?_
  refine RunL.mem (frc (frl rfl) rfl) ?_
  refine RunL.call cal82 rfl (s82b (by omega) (by omega) (by assumption)) rfl (fun vx5 Ax5 hx5 => ?_)
  obtain ⟨x6, ⟨rfl, rfl⟩⟩ := hx5
  refine RunL.ok (OpOk.move rfl) rfl ?_
  refine RunL.ok (OpOk.ext20 rfl) rfl ?_
  refine RunL.ok (OpOk.ext21 rfl) rfl ?_
  refine RunL.ok (OpOk.assign rfl) rfl ?_
  refine RunL.ok (OpOk.assign rfl) rfl ?_
  refine RunL.nil ?_
  refine Run.seq ?_
  refine Run.region ?_
  refine RunL.ok (OpOk.move rfl) rfl ?_
  refine RunL.ok (OpOk.move rfl) rfl ?_
  refine RunL.know (fun w s => (s.conv rfl).ownRd0) (fun rdx8 => ?_)
  refine RunL.appendB rfl ti5 rfl rfl rfl (frl (frl rfl)) (Rd.right rdx8) (by omega) rfl (fun vx7 rdx7 => ?_)
  refine RunL.ok (OpOk.assign rfl) rfl ?_
  refine RunL.ok (OpOk.assign rfl) rfl ?_
  refine RunL.nil ?_
  refine Run.ret2 Try.func42 rfl rfl rfl ?_
  exact ⟨_, _, rfl, (Eq.trans (frc (frl (frl rfl)) rfl) (congrArg (· * _) (congrArg (· * _) as1)))⟩
theorem s98 {a : Nat} {zs : List UInt8} {w2 e : Int} {u : Value} {m : Nat} {ls : List (Value × List UInt8)} (rd : Rd w0 A u 1 m (Fl encV ls)) (al : Alls (GB w0) A ls) (hx : xs.length = 512) (hwf : Wrote xs w a (ls.map Prod.snd) zs w2 e) (h32 : ∀ r ∈ ls, r.2.length = 32) (ha : a + m ≤ 16) (hw2 : w ≤ 9223372036854775807) :
    Spec Try.prog w0 98 [.pointer (some ⟨p, 0, none⟩), .int .i64 (a : Int), u] (A * pts p (.cells (B (xs) ++ [Value.int .i64 (w)]).toArray 177 (0, 0))) (fun v' A' => v' = .int .i64 e ∧ A' = A * pts p (.cells (B (zs) ++ [Value.int .i64 (w2)]).toArray 177 (0, 0))) := by
  have hl0 := rd.lenFl (fun _ => rfl) (by decide)
  subst hl0
  obtain ⟨hwf⟩ := hwf
  refine Spec.of_run [(0, .pointer (some ⟨p, 0, none⟩)), (1, .int .i64 (a : Int)), (2, u)] Try.func98 rfl (Nat.le_of_ble_eq_true rfl) (by repeat (first | exact trivial | refine ⟨rfl, ?_⟩)) ?_
  refine Run.seq ?_
  refine Run.region ?_
  refine RunL.ok (OpOk.assign rfl) rfl ?_
  refine RunL.nil ?_
  refine Run.seq ?_
  refine Run.seq ?_
  refine Run.region ?_
  refine RunL.ok (OpOk.move rfl) rfl ?_
  refine RunL.ok (OpOk.lenR rfl rfl rd.left rfl) rfl ?_
  refine RunL.ok (OpOk.move rfl) rfl ?_
  refine RunL.nil ?_
  refine Run.block ?_
  refine Run.jump ((Run.loopJ (X := Nat × List UInt8 × Int) (fun x => [(12, .int .i64 (x.1 : Int)), (11, .int .i64 (ls.length : Int)), (10, u), (0, .pointer (some ⟨p, 0, none⟩)), (1, .int .i64 (a : Int))]) (fun x => A * pts p (.cells (B ((x.2.1)) ++ [Value.int .i64 ((x.2.2))]).toArray 177 (0, 0))) (fun x => x.1 ≤ ls.length ∧ x.2.1.length = 512 ∧ x.2.2 ≤ 9223372036854775807 ∧ (zs, w2, e) = wroteF x.2.1 x.2.2 (a + x.1) ((ls.map Prod.snd).drop x.1)) (fun x => ls.length - x.1) (0, xs, w) ⟨Nat.zero_le _, hx, hw2, hwf.symm⟩ (fun x hx ih => ?_))) ⟨rfl, rfl, rfl, rfl, rfl, trivial⟩ ((Grew.refl _))
  obtain ⟨i, ys, v⟩ := x
  simp only at hx ih ⊢
  obtain ⟨hi, hyl, hv, hwr⟩ := hx
  rcases Nat.lt_or_ge i ls.length with hlt | hge
  · have rdi : Rd w0 A (ls.getD i default).1 1 (ls.getD i default).2.length (B (ls.getD i default).2) := al.get hlt
    have hvi := Fl_V ls i hlt
    have hb32 := h32 _ (getD_mem hlt)
    rw [drop_next (by simpa using hlt), snd_get hlt, wroteF] at hwr
    have hsl : (setSec ys (a + i) (ls.getD i default).2).length = 512 := setSec_len hyl (by omega) hb32
    rcases Decidable.em (v = 0) with hv0 | hv0
    · subst hv0
      rw [if_pos rfl] at hwr
      simp only [Prod.mk.injEq] at hwr
      obtain ⟨rfl, rfl, rfl⟩ := hwr
      refine Run.seq ?_
      refine Run.region ?_
      refine RunL.ok (OpOk.asT (OpOk.lss rfl rfl) (by omega)) rfl ?_
      refine RunL.nil ?_
      refine Run.seq ?_
      refine Run.condT rfl ?_
      refine Run.skip ?_
      refine Run.seq ?_
      refine Run.block ?_
      refine Run.seq ?_
      refine Run.region ?_
      refine RunL.ok (OpOk.move rfl) rfl ?_
      refine RunL.ok (OpOk.idx1N rfl ti63 rfl rd.left rfl (by omega)) rfl ?_
      refine RunL.ok (OpOk.loadRow default rfl rfl rfl rd.left (fun _ => rfl) (by omega) rfl) rfl ?_
      refine RunL.ok (OpOk.assign rfl) rfl ?_
      refine RunL.ok (OpOk.assign rfl) rfl ?_
      refine RunL.nil ?_
      refine Run.seq ?_
      refine Run.region ?_
      refine RunL.ok (OpOk.move rfl) rfl ?_
      refine RunL.ok (OpOk.move rfl) rfl ?_
      refine RunL.ok (OpOk.move rfl) rfl ?_
      refine RunL.ok (OpOk.addN _ _ rfl rfl rfl rfl (by omega)) rfl ?_
      refine RunL.ok (OpOk.move rfl) rfl ?_
      refine RunL.call cal115 rfl (s115d rdi (by omega) (by omega) (by assumption) (by assumption) rfl) rfl (fun vy4 Ay4 hy4 => ?_)
      obtain ⟨rfl, rfl⟩ := hy4
      refine RunL.ok (OpOk.assign rfl) rfl ?_
      refine RunL.nil ?_
      refine Run.seq ?_
      refine Run.region ?_
      refine RunL.ok (OpOk.move rfl) rfl ?_
      refine RunL.ok (OpOk.as (c := true) (OpOk.neq rfl rfl) (by rw [decide_eq_false (by omega)]; rfl)) rfl ?_
      refine RunL.nil ?_
      refine Run.condT rfl ?_
      refine Run.seq ?_
      refine Run.region ?_
      refine RunL.ok (OpOk.move rfl) rfl ?_
      refine RunL.ok (OpOk.assign rfl) rfl ?_
      refine RunL.nil ?_
      refine Run.ret1 Try.func98 rfl rfl ?_
      exact ⟨rfl, rfl⟩
    · rw [if_neg hv0] at hwr
      rcases Int.lt_or_le v 0 with hv1 | hv1
      · rw [if_neg (by omega)] at hwr
        refine Run.seq ?_
        refine Run.region ?_
        refine RunL.ok (OpOk.asT (OpOk.lss rfl rfl) (by omega)) rfl ?_
        refine RunL.nil ?_
        refine Run.seq ?_
        refine Run.condT rfl ?_
        refine Run.skip ?_
        refine Run.seq ?_
        refine Run.block ?_
        refine Run.seq ?_
        refine Run.region ?_
        refine RunL.ok (OpOk.move rfl) rfl ?_
        refine RunL.ok (OpOk.idx1N rfl ti63 rfl rd.left rfl (by omega)) rfl ?_
        refine RunL.ok (OpOk.loadRow default rfl rfl rfl rd.left (fun _ => rfl) (by omega) rfl) rfl ?_
        refine RunL.ok (OpOk.assign rfl) rfl ?_
        refine RunL.ok (OpOk.assign rfl) rfl ?_
        refine RunL.nil ?_
        refine Run.seq ?_
        refine Run.region ?_
        refine RunL.ok (OpOk.move rfl) rfl ?_
        refine RunL.ok (OpOk.move rfl) rfl ?_
        refine RunL.ok (OpOk.move rfl) rfl ?_
        refine RunL.ok (OpOk.addN _ _ rfl rfl rfl rfl (by omega)) rfl ?_
        refine RunL.ok (OpOk.move rfl) rfl ?_
        refine RunL.call cal115 rfl (s115e rdi (by omega) (by omega) (by assumption) (by assumption) (by assumption)) rfl (fun vy5 Ay5 hy5 => ?_)
        obtain ⟨rfl, rfl⟩ := hy5
        refine RunL.ok (OpOk.assign rfl) rfl ?_
        refine RunL.nil ?_
        refine Run.seq ?_
        refine Run.region ?_
        refine RunL.ok (OpOk.move rfl) rfl ?_
        refine RunL.ok (OpOk.as (c := false) (OpOk.neq rfl rfl) (by rw [decide_eq_true (by omega)]; rfl)) rfl ?_
        refine RunL.nil ?_
        refine Run.condF rfl ?_
        refine Run.skip ?_
        refine Run.inBlock ?_
        refine Run.region ?_
        refine RunL.ok (OpOk.addN _ 1 rfl rfl rfl rfl (by omega)) rfl ?_
        refine RunL.ok (OpOk.move rfl) rfl ?_
        refine RunL.nil ?_
        simp only [Int.toNat_natCast]
        refine Run.jump ((ih (i + 1, setSec ys (a + i) (ls.getD i default).2, v) ⟨by dsimp only; omega, hsl, hv, hwr⟩ (by dsimp only; omega))) ⟨rfl, rfl, rfl, rfl, rfl, trivial⟩ ((Grew.refl _))
      · rw [if_pos (by omega)] at hwr
        refine Run.seq ?_
        refine Run.region ?_
        refine RunL.ok (OpOk.asT (OpOk.lss rfl rfl) (by omega)) rfl ?_
        refine RunL.nil ?_
        refine Run.seq ?_
        refine Run.condT rfl ?_
        refine Run.skip ?_
        refine Run.seq ?_
        refine Run.block ?_
        refine Run.seq ?_
        refine Run.region ?_
        refine RunL.ok (OpOk.move rfl) rfl ?_
        refine RunL.ok (OpOk.idx1N rfl ti63 rfl rd.left rfl (by omega)) rfl ?_
        refine RunL.ok (OpOk.loadRow default rfl rfl rfl rd.left (fun _ => rfl) (by omega) rfl) rfl ?_
        refine RunL.ok (OpOk.assign rfl) rfl ?_
        refine RunL.ok (OpOk.assign rfl) rfl ?_
        refine RunL.nil ?_
        refine Run.seq ?_
        refine Run.region ?_
        refine RunL.ok (OpOk.move rfl) rfl ?_
        refine RunL.ok (OpOk.move rfl) rfl ?_
        refine RunL.ok (OpOk.move rfl) rfl ?_
        refine RunL.ok (OpOk.addN _ _ rfl rfl rfl rfl (by omega)) rfl ?_
        refine RunL.ok (OpOk.move rfl) rfl ?_
        refine RunL.call cal115 rfl (s115f rdi (by omega) (by omega) (by assumption) (by assumption) (by omega) (by assumption)) rfl (fun vy6 Ay6 hy6 => ?_)
        obtain ⟨rfl, rfl⟩ := hy6
        refine RunL.ok (OpOk.assign rfl) rfl ?_
        refine RunL.nil ?_
        refine Run.seq ?_
        refine Run.region ?_
        refine RunL.ok (OpOk.move rfl) rfl ?_
        refine RunL.ok (OpOk.as (c := false) (OpOk.neq rfl rfl) (by rw [decide_eq_true (by omega)]; rfl)) rfl ?_
        refine RunL.nil ?_
        refine Run.condF rfl ?_
        refine Run.skip ?_
        refine Run.inBlock ?_
        refine Run.region ?_
        refine RunL.ok (OpOk.addN _ 1 rfl rfl rfl rfl (by omega)) rfl ?_
        refine RunL.ok (OpOk.move rfl) rfl ?_
        refine RunL.nil ?_
        simp only [Int.toNat_natCast]
        refine Run.jump ((ih (i + 1, setSec ys (a + i) (ls.getD i default).2, v - 1) ⟨by dsimp only; omega, hsl, by dsimp only; omega, hwr⟩ (by dsimp only; omega))) ⟨rfl, rfl, rfl, rfl, rfl, trivial⟩ ((Grew.refl _))
  · obtain rfl : i = ls.length := by omega
    clear ih
    rw [List.drop_of_length_le (by simp), wroteF] at hwr
    simp only [Prod.mk.injEq] at hwr
    obtain ⟨rfl, rfl, rfl⟩ := hwr
    refine Run.seq ?_
    refine Run.region ?_
    refine RunL.ok (OpOk.asF (OpOk.lss rfl rfl) (by omega)) rfl ?_
    refine RunL.nil ?_
    refine Run.seq ?_
    refine Run.condF rfl ?_
    refine Run.exit rfl ?_
    refine Run.seq ?_
    refine Run.region ?_
    refine RunL.ok (OpOk.assign rfl) rfl ?_
    refine RunL.nil ?_
    refine Run.ret1 Try.func98 rfl rfl ?_
    exact ⟨rfl, rfl⟩
end
end Go.Proofs.Yteopadjihklkmaa
end

section
namespace Go.Proofs.Yteopadjihklkmaa
open Go Go.Proofs
set_option maxRecDepth 100000
set_option maxHeartbeats 4000000
set_option linter.unusedSimpArgs false
set_option linter.unusedVariables false
section
variable {w0 : World} {A : Asn} {p : Nat} {xs : List UInt8} {w a b : Int}
theorem s51a (hn : ¬ namedP a b) : Spec Try.prog w0 51 [.pointer (some ⟨p, 0, none⟩), .int .i64 a, .int .i64 b] (A * pts p (.cells (B (xs) ++ [Value.int .i64 (w)]).toArray 177 (0, 0))) (fun v' A' => v' = .int .i64 2 ∧ A' = A * pts p (.cells (B (xs) ++ [Value.int .i64 (w)]).toArray 177 (0, 0))) := by
  refine Spec.of_run [(0, .pointer (some ⟨p, 0, none⟩)), (1, .int .i64 a), (2, .int .i64 b)] Try.func51 rfl (Nat.le_of_ble_eq_true rfl) (by repeat (first | exact trivial | refine ⟨rfl, ?_⟩)) ?_
  refine Run.seq ?_
  refine Run.region ?_
  refine RunL.ok (OpOk.assign rfl) rfl ?_
  refine RunL.nil ?_
  refine Run.seq ?_
  refine Run.seq ?_
  refine Run.region ?_
  refine RunL.ok (OpOk.move rfl) rfl ?_
  refine RunL.ok (OpOk.eqlPN rfl rfl) rfl ?_
  refine RunL.ok (OpOk.move rfl) rfl ?_
  refine RunL.on rfl rfl ?_
  refine RunL.ok (OpOk.move rfl) rfl ?_
  refine RunL.on rfl rfl ?_
  refine RunL.ok (OpOk.move rfl) rfl ?_
  refine RunL.on rfl rfl ?_
  refine RunL.call cal86 rfl (s86) rfl (fun vx1 Ax1 hx1 => ?_)
  obtain ⟨rfl, rfl⟩ := hx1
  refine RunL.on rfl rfl ?_
  refine RunL.ok (OpOk.not rfl) rfl ?_
  refine RunL.ok (OpOk.pickF rfl rfl) rfl ?_
  refine RunL.nil ?_
  refine Run.condNT rfl (by first | omega | assumption) ?_
  refine Run.seq ?_
  refine Run.region ?_
  refine RunL.ok (OpOk.assign rfl) rfl ?_
  refine RunL.nil ?_
  refine Run.ret1 Try.func51 rfl rfl ?_
  exact ⟨rfl, rfl⟩
theorem s51c (hn : namedP a b) (hx : xs.length = 512) {ys zs : List UInt8} {w2 w3 e e2 : Int} (hW : Wrote xs w 1 [sectB (listB 1 []), List.replicate 32 0] ys w2 e) (hW2 : Wrote ys w2 0 [sectB (faceB a b)] zs w3 e2) (hw : w ≤ 9223372036854775807) (hyl : ys.length = 512) (hw2 : w2 ≤ 9223372036854775807) (he : e = 0) :
    Spec Try.prog w0 51 [.pointer (some ⟨p, 0, none⟩), .int .i64 a, .int .i64 b] (A * pts p (.cells (B (xs) ++ [Value.int .i64 (w)]).toArray 177 (0, 0))) (fun v' A' => ∃ J, v' = .int .i64 e2 ∧ A' = A * J * pts p (.cells (B (zs) ++ [Value.int .i64 (w3)]).toArray 177 (0, 0))) := by
  subst he
  have hes : ∀ e ∈ ([] : List En), okE e := fun e h => by cases h
  have hsl : (sealed (listB 1 [] ++ List.replicate (30 - (listB 1 []).length) 0)).length = 32 := by decide +kernel
  have h32 : ∀ v v2 : Value, ∀ r ∈ [(v, sealed (listB 1 [] ++ List.replicate (30 - (listB 1 []).length) 0)), (v2, List.replicate 32 (0 : UInt8))], r.2.length = 32 := fun v v2 r hr => by
    simp only [List.mem_cons, List.not_mem_nil, or_false] at hr
    rcases hr with rfl | rfl
    · exact hsl
    · rfl
  have hfl : (sealed (faceB a b ++ List.replicate (30 - (faceB a b).length) 0)).length = 32 := by
    rw [sealed_length, List.length_append, List.length_replicate]
    rfl
  have rdn : Rd w0 A (.slice none 0 0) 4 0 (Fl encT111 ([] : List En)) := Rd.nil 4
  refine Spec.of_run [(0, .pointer (some ⟨p, 0, none⟩)), (1, .int .i64 a), (2, .int .i64 b)] Try.func51 rfl (Nat.le_of_ble_eq_true rfl) (by repeat (first | exact trivial | refine ⟨rfl, ?_⟩)) ?_
  refine Run.seq ?_
  refine Run.region ?_
  refine RunL.ok (OpOk.assign rfl) rfl ?_
  refine RunL.nil ?_
  refine Run.seq ?_
  refine Run.seq ?_
  refine Run.region ?_
  refine RunL.ok (OpOk.move rfl) rfl ?_
  refine RunL.ok (OpOk.eqlPN rfl rfl) rfl ?_
  refine RunL.ok (OpOk.move rfl) rfl ?_
  refine RunL.on rfl rfl ?_
  refine RunL.ok (OpOk.move rfl) rfl ?_
  refine RunL.on rfl rfl ?_
  refine RunL.ok (OpOk.move rfl) rfl ?_
  refine RunL.on rfl rfl ?_
  refine RunL.call cal86 rfl (s86) rfl (fun vx1 Ax1 hx1 => ?_)
  obtain ⟨rfl, rfl⟩ := hx1
  refine RunL.on rfl rfl ?_
  refine RunL.ok (OpOk.not rfl) rfl ?_
  refine RunL.ok (OpOk.pickF rfl rfl) rfl ?_
  refine RunL.nil ?_
  refine Run.condNF rfl (by first | omega | with_reducible rfl | assumption) ?_
  refine Run.skip ?_
  refine Run.seq ?_
  refine Run.seq ?_
  (apply Run.drawD [] (by rfl) (Eq.trans rfl rfl); case hchk => kernel_rfl)
  refine Sd.quiet 0 _ _ rfl rfl rfl rfl rfl (QOp.ok (fun X => OpOk.move rfl)) ?_
  apply Sd.make 3 (by rfl) (by rfl) (by rfl) (by rfl) (by rfl) (by rfl)
  case h =>
    intro Xx4 Kx4 hKx4
    refine RunL.mem (sep_emp _) ?_
    refine RunL.makeB (m := 32) rfl ti5 rfl rfl (by omega) rfl (fun vx5 rdx5 => ?_)
    exact RunL.mem (Eq.trans rfl (gp2 rfl (sep_emp _).symm)) (hKx4 _)
  (refine Sd.exec 1 rfl rfl rfl rfl rfl ?hrest (by rfl) (fun Xx7 Kx7 hKx7 => ?_); case hrest => kernel_rfl)
  refine RunL.mem (fl2 (sep_emp _) rfl) ?_
  refine RunL.call cal99 rfl (s99 rdn.left.left (by omega) (by omega) (by omega) (by assumption)) rfl (fun vx8 Ax8 hx8 => ?_)
  obtain ⟨x9, rfl⟩ := hx8
  refine RunL.know (fun w s => (s.conv rfl).ownRd0) (fun rdx10 => ?_)
  refine Sd.ret hKx7 (Eq.trans (frc (frl (frl rfl)) rfl) (gp2 rfl (asg rfl))) ⟨_, (emp_sep _).symm⟩ ?_
  (refine Sd.exec 2 rfl rfl rfl rfl rfl ?hrest (by rfl) (fun Xx12 Kx12 hKx12 => ?_); case hrest => kernel_rfl)
  refine RunL.mem (fl2 (flS rfl) rfl) ?_
  refine RunL.call cal88 rfl (s88 (Rd.right rdx10).left (by omega)) rfl (fun vx13 Ax13 hx13 => ?_)
  obtain ⟨x14, rfl⟩ := hx13
  refine RunL.know (fun w s => (s.conv rfl).ownRd0) (fun rdx15 => ?_)
  refine Sd.ret hKx12 (Eq.trans (frc (frl (frl rfl)) rfl) (gp2 rfl (asg (asg (asg rfl))))) ⟨_, (asg rfl)⟩ ?_
  (refine Sd.take 3 _ ?hrest (fun vx16 hvx16 => ?_); case hrest => kernel_rfl)
  have rdx16 := rdOf hvx16
  (refine Sd.exec 4 rfl rfl rfl rfl rfl ?hrest (by rfl) (fun Xx17 Kx17 hKx17 => ?_); case hrest => kernel_rfl)
  refine RunL.mem (fl2 (flS (flS (flS (flS rfl)))) rfl) ?_
  have alx18 : Alls (GB w0) _ [(vx13, sealed (listB 1 [] ++ List.replicate (30 - (listB 1 []).length) 0)), (vx16, List.replicate 32 0)] := (Alls.cons (GB.of rdx15.left) (Alls.cons (GB.of (Rd.right rdx16)) Alls.nil))
  refine RunL.litV (ls := [(vx13, sealed (listB 1 [] ++ List.replicate (30 - (listB 1 []).length) 0)), (vx16, List.replicate 32 0)]) (Alls.conv alx18.left.left.left.left.left.left ((frc rfl (frc (frl (frl rfl)) (frc (frl (frl rfl)) (frc (frl (frl rfl)) (frc (frl (frl rfl)) (frc (frl (sep_comm _ _)) rfl)))))) : _ = _).symm) rfl ti63 rfl rfl rfl (by decide) rfl (fun vx18 rdx18 => ?_)
  refine RunL.know (fun w s => (s.conv rfl).ownRd0) (fun rdx19 => ?_)
  refine Sd.ret hKx17 (Eq.trans (frc (frl rfl) rfl) (gp2 rfl (asg (asg (asg (asg (asg rfl))))))) ⟨_, rfl⟩ ?_
  (refine Sd.exec 5 rfl rfl rfl rfl rfl ?hrest (by rfl) (fun Xx20 Kx20 hKx20 => ?_); case hrest => kernel_rfl)
  refine RunL.mem (fl2 (flS (flS (flS (flS (flS rfl))))) rfl) ?_
  refine RunL.call cal98 rfl (s98 (Rd.right rdx19) (Alls.conv alx18.left.left.left.left.left.left ((frc rfl (frc (frl (frl rfl)) (frc (frl (frl rfl)) (frc (frl (frl rfl)) (frc (frl (frl rfl)) (frc (frl (sep_comm _ _)) rfl)))))) : _ = _).symm) (by assumption) (by assumption) (by simp; omega) (by decide) (by assumption)) rfl (fun vx21 Ax21 hx21 => ?_)
  obtain ⟨rfl, rfl⟩ := hx21
  refine Sd.ret hKx20 (Eq.trans rfl (gp2 (sep_emp _).symm (asg (asg (asg (asg (asg (asg rfl)))))))) ⟨_, rfl⟩ ?_
  refine Sd.quiet 6 _ _ rfl rfl rfl rfl rfl (QOp.ok (fun X => OpOk.assign rfl)) ?_
  (apply Sd.tail; case hall => kernel_rfl)
  refine RunL.mem (fl2 (flS (flS (flS (flS (flS (flS rfl)))))) (sep_emp _)) ?_
  refine RunL.nil ?_
  refine Run.seq ?_
  refine Run.region ?_
  refine RunL.ok (OpOk.move rfl) rfl ?_
  refine RunL.ok (OpOk.as (c := false) (OpOk.neq rfl rfl) (by rw [decide_eq_true (by omega)]; rfl)) rfl ?_
  refine RunL.nil ?_
  refine Run.condF rfl ?_
  refine Run.skip ?_
  refine Run.seq ?_
  refine Run.region ?_
  refine RunL.ok (OpOk.move rfl) rfl ?_
  refine RunL.ok (OpOk.move rfl) rfl ?_
  refine RunL.ok (OpOk.move rfl) rfl ?_
  refine RunL.call cal89 rfl (s89 (by assumption)) rfl (fun vx22 Ax22 hx22 => ?_)
  obtain ⟨x23, rfl⟩ := hx22
  refine RunL.know (fun w s => (s.conv rfl).ownRd0) (fun rdx24 => ?_)
  refine RunL.call cal88 rfl (s88 (Rd.right rdx24) (by omega)) rfl (fun vx25 Ax25 hx25 => ?_)
  obtain ⟨x26, rfl⟩ := hx25
  refine RunL.know (fun w s => (s.conv rfl).ownRd0) (fun rdx28 => ?_)
  have alx27 : Alls (GB w0) _ [(vx25, sealed (faceB a b ++ List.replicate (30 - (faceB a b).length) 0))] := (Alls.cons (GB.of rdx28) Alls.nil)
  refine RunL.litV (ls := [(vx25, sealed (faceB a b ++ List.replicate (30 - (faceB a b).length) 0))]) (Alls.right alx27) rfl ti63 rfl rfl rfl (by decide) rfl (fun vx27 rdx27 => ?_)
  refine RunL.know (fun w s => (s.conv rfl).ownRd0) (fun rdx29 => ?_)
  refine RunL.mem (frc (frl (frl (frl (frl (frl rfl))))) rfl) ?_
  refine RunL.call cal98 rfl (s98 (Rd.right rdx29) (Alls.right alx27).left (by assumption) (by assumption) (by simp; omega) (by decide) (by assumption)) rfl (fun vx30 Ax30 hx30 => ?_)
  obtain ⟨rfl, rfl⟩ := hx30
  refine RunL.ok (OpOk.assign rfl) rfl ?_
  refine RunL.nil ?_
  refine Run.ret1 Try.func51 rfl rfl ?_
  exact ⟨_, rfl, (congrArg (· * _) (asg (asg (asg (asg (asg (asg (asg (asg (asg (asg as1)))))))))))⟩
theorem s51b (hn : namedP a b) (hx : xs.length = 512) {ys : List UInt8} {w2 e : Int} (hW : Wrote xs w 1 [sectB (listB 1 []), List.replicate 32 0] ys w2 e) (hw : w ≤ 9223372036854775807) (he : e = 30) :
    Spec Try.prog w0 51 [.pointer (some ⟨p, 0, none⟩), .int .i64 a, .int .i64 b] (A * pts p (.cells (B (xs) ++ [Value.int .i64 (w)]).toArray 177 (0, 0))) (fun v' A' => ∃ J, v' = .int .i64 30 ∧ A' = A * J * pts p (.cells (B (ys) ++ [Value.int .i64 (w2)]).toArray 177 (0, 0))) := by
  subst he
  have hes : ∀ e ∈ ([] : List En), okE e := fun e h => by cases h
  have hsl : (sealed (listB 1 [] ++ List.replicate (30 - (listB 1 []).length) 0)).length = 32 := by decide +kernel
  have h32 : ∀ v v2 : Value, ∀ r ∈ [(v, sealed (listB 1 [] ++ List.replicate (30 - (listB 1 []).length) 0)), (v2, List.replicate 32 (0 : UInt8))], r.2.length = 32 := fun v v2 r hr => by
    simp only [List.mem_cons, List.not_mem_nil, or_false] at hr
    rcases hr with rfl | rfl
    · exact hsl
    · rfl
  have rdn : Rd w0 A (.slice none 0 0) 4 0 (Fl encT111 ([] : List En)) := Rd.nil 4
  refine Spec.of_run [(0, .pointer (some ⟨p, 0, none⟩)), (1, .int .i64 a), (2, .int .i64 b)] Try.func51 rfl (Nat.le_of_ble_eq_true rfl) (by repeat (first | exact trivial | refine ⟨rfl, ?_⟩)) ?_
  refine Run.seq ?_
  refine Run.region ?_
  refine RunL.ok (OpOk.assign rfl) rfl ?_
  refine RunL.nil ?_
  refine Run.seq ?_
  refine Run.seq ?_
  refine Run.region ?_
  refine RunL.ok (OpOk.move rfl) rfl ?_
  refine RunL.ok (OpOk.eqlPN rfl rfl) rfl ?_
  refine RunL.ok (OpOk.move rfl) rfl ?_
  refine RunL.on rfl rfl ?_
  refine RunL.ok (OpOk.move rfl) rfl ?_
  refine RunL.on rfl rfl ?_
  refine RunL.ok (OpOk.move rfl) rfl ?_
  refine RunL.on rfl rfl ?_
  refine RunL.call cal86 rfl (s86) rfl (fun vx1 Ax1 hx1 => ?_)
  obtain ⟨rfl, rfl⟩ := hx1
  refine RunL.on rfl rfl ?_
  refine RunL.ok (OpOk.not rfl) rfl ?_
  refine RunL.ok (OpOk.pickF rfl rfl) rfl ?_
  refine RunL.nil ?_
  refine Run.condNF rfl (by first | omega | with_reducible rfl | assumption) ?_
  refine Run.skip ?_
  refine Run.seq ?_
  refine Run.seq ?_
  (apply Run.drawD [] (by rfl) (Eq.trans rfl rfl); case hchk => kernel_rfl)
  refine Sd.quiet 0 _ _ rfl rfl rfl rfl rfl (QOp.ok (fun X => OpOk.move rfl)) ?_
  apply Sd.make 3 (by rfl) (by rfl) (by rfl) (by rfl) (by rfl) (by rfl)
  case h =>
    intro Xx4 Kx4 hKx4
    refine RunL.mem (sep_emp _) ?_
    refine RunL.makeB (m := 32) rfl ti5 rfl rfl (by omega) rfl (fun vx5 rdx5 => ?_)
    exact RunL.mem (Eq.trans rfl (gp2 rfl (sep_emp _).symm)) (hKx4 _)
  (refine Sd.exec 1 rfl rfl rfl rfl rfl ?hrest (by rfl) (fun Xx7 Kx7 hKx7 => ?_); case hrest => kernel_rfl)
  refine RunL.mem (fl2 (sep_emp _) rfl) ?_
  refine RunL.call cal99 rfl (s99 rdn.left.left (by omega) (by omega) (by omega) (by assumption)) rfl (fun vx8 Ax8 hx8 => ?_)
  obtain ⟨x9, rfl⟩ := hx8
  refine RunL.know (fun w s => (s.conv rfl).ownRd0) (fun rdx10 => ?_)
  refine Sd.ret hKx7 (Eq.trans (frc (frl (frl rfl)) rfl) (gp2 rfl (asg rfl))) ⟨_, (emp_sep _).symm⟩ ?_
  (refine Sd.exec 2 rfl rfl rfl rfl rfl ?hrest (by rfl) (fun Xx12 Kx12 hKx12 => ?_); case hrest => kernel_rfl)
  refine RunL.mem (fl2 (flS rfl) rfl) ?_
  refine RunL.call cal88 rfl (s88 (Rd.right rdx10).left (by omega)) rfl (fun vx13 Ax13 hx13 => ?_)
  obtain ⟨x14, rfl⟩ := hx13
  refine RunL.know (fun w s => (s.conv rfl).ownRd0) (fun rdx15 => ?_)
  refine Sd.ret hKx12 (Eq.trans (frc (frl (frl rfl)) rfl) (gp2 rfl (asg (asg (asg rfl))))) ⟨_, (asg rfl)⟩ ?_
  (refine Sd.take 3 _ ?hrest (fun vx16 hvx16 => ?_); case hrest => kernel_rfl)
  have rdx16 := rdOf hvx16
  (refine Sd.exec 4 rfl rfl rfl rfl rfl ?hrest (by rfl) (fun Xx17 Kx17 hKx17 => ?_); case hrest => kernel_rfl)
  refine RunL.mem (fl2 (flS (flS (flS (flS rfl)))) rfl) ?_
  have alx18 : Alls (GB w0) _ [(vx13, sealed (listB 1 [] ++ List.replicate (30 - (listB 1 []).length) 0)), (vx16, List.replicate 32 0)] := (Alls.cons (GB.of rdx15.left) (Alls.cons (GB.of (Rd.right rdx16)) Alls.nil))
  refine RunL.litV (ls := [(vx13, sealed (listB 1 [] ++ List.replicate (30 - (listB 1 []).length) 0)), (vx16, List.replicate 32 0)]) (Alls.conv alx18.left.left.left.left.left.left ((frc rfl (frc (frl (frl rfl)) (frc (frl (frl rfl)) (frc (frl (frl rfl)) (frc (frl (frl rfl)) (frc (frl (sep_comm _ _)) rfl)))))) : _ = _).symm) rfl ti63 rfl rfl rfl (by decide) rfl (fun vx18 rdx18 => ?_)
  refine RunL.know (fun w s => (s.conv rfl).ownRd0) (fun rdx19 => ?_)
  refine Sd.ret hKx17 (Eq.trans (frc (frl rfl) rfl) (gp2 rfl (asg (asg (asg (asg (asg rfl))))))) ⟨_, rfl⟩ ?_
  (refine Sd.exec 5 rfl rfl rfl rfl rfl ?hrest (by rfl) (fun Xx20 Kx20 hKx20 => ?_); case hrest => kernel_rfl)
  refine RunL.mem (fl2 (flS (flS (flS (flS (flS rfl))))) rfl) ?_
  refine RunL.call cal98 rfl (s98 (Rd.right rdx19) (Alls.conv alx18.left.left.left.left.left.left ((frc rfl (frc (frl (frl rfl)) (frc (frl (frl rfl)) (frc (frl (frl rfl)) (frc (frl (frl rfl)) (frc (frl (sep_comm _ _)) rfl)))))) : _ = _).symm) (by assumption) (by assumption) (by simp; omega) (by decide) (by assumption)) rfl (fun vx21 Ax21 hx21 => ?_)
  obtain ⟨rfl, rfl⟩ := hx21
  refine Sd.ret hKx20 (Eq.trans rfl (gp2 (sep_emp _).symm (asg (asg (asg (asg (asg (asg rfl)))))))) ⟨_, rfl⟩ ?_
  refine Sd.quiet 6 _ _ rfl rfl rfl rfl rfl (QOp.ok (fun X => OpOk.assign rfl)) ?_
  (apply Sd.tail; case hall => kernel_rfl)
  refine RunL.mem (fl2 (flS (flS (flS (flS (flS (flS rfl)))))) (sep_emp _)) ?_
  refine RunL.nil ?_
  refine Run.seq ?_
  refine Run.region ?_
  refine RunL.ok (OpOk.move rfl) rfl ?_
  refine RunL.ok (OpOk.as (c := true) (OpOk.neq rfl rfl) (by rw [decide_eq_false (by omega)]; rfl)) rfl ?_
  refine RunL.nil ?_
  refine Run.condT rfl ?_
  refine Run.seq ?_
  refine Run.region ?_
  refine RunL.ok (OpOk.move rfl) rfl ?_
  refine RunL.ok (OpOk.assign rfl) rfl ?_
  refine RunL.nil ?_
  refine Run.ret1 Try.func51 rfl rfl ?_
  exact ⟨_, rfl, (congrArg (· * _) (asg (asg (asg (asg (asg as1))))))⟩
end
end Go.Proofs.Yteopadjihklkmaa
end

section
namespace Go.Proofs.Yteopadjihklkmaa
open Go Go.Proofs
set_option maxRecDepth 100000
set_option maxHeartbeats 4000000
set_option linter.unusedSimpArgs false
set_option linter.unusedVariables false
section
variable {w0 : World} {A : Asn} {p : Nat} {xs : List UInt8} {w : Int}
theorem s100a {a b q c : Int} {t m m0 cap cap0 : Nat} {ad ad0 : Option Addr} {es : List En} (rd : Rd w0 A (.slice ad m cap) 4 m (Fl encT111 es)) (hx : xs.length = 512) (hc : 3 - c = (t : Int)) (ht : t ≤ 2) (hq0 : 0 ≤ q) (hq : q + 1 ≤ 65535) (hm : m ≤ 5) (hes : ∀ e ∈ es, okE e) (hw : w ≤ 9223372036854775807) {ys : List UInt8} {w2 e : Int} (hW : Wrote xs w t [sectB (listB (q + 1) es)] ys w2 e) (he : e = 0) :
    Spec Try.prog w0 100 [.agg #[.int .i64 a, .int .i64 b, .int .i64 q, .int .i64 c, .slice ad0 m0 cap0], .pointer (some ⟨p, 0, none⟩), .slice ad m cap] (A * pts p (.cells (B (xs) ++ [Value.int .i64 (w)]).toArray 177 (0, 0))) (fun v' A' => ∃ J, v' = .tuple #[.agg #[.int .i64 a, .int .i64 b, .int .i64 (q + 1), .int .i64 (t : Int), .slice ad m cap], .int .i64 0] ∧ A' = A * J * pts p (.cells (B (ys) ++ [Value.int .i64 (w2)]).toArray 177 (0, 0))) := by
  subst he
  have hl0 := rd.lenFl (fun _ => rfl) (by decide)
  have rw_c := hc
  have hll : (listB (q + 1) es).length ≤ 30 := by
    rw [listB, listP, List.length_append, ents_len]
    show 3 + 5 * es.length ≤ 30
    omega
  have hsl : (sealed (listB (q + 1) es ++ List.replicate (30 - (listB (q + 1) es).length) 0)).length = 32 := by
    have := pad_len hll
    rw [pad] at this
    rw [sealed_length, this]
  have h32 : ∀ v : Value, ∀ r ∈ [(v, sealed (listB (q + 1) es ++ List.replicate (30 - (listB (q + 1) es).length) 0))], r.2.length = 32 := fun v r hr => by
    rw [List.mem_singleton] at hr
    rw [hr]
    exact hsl
  refine Spec.of_run [(0, .agg #[.int .i64 a, .int .i64 b, .int .i64 q, .int .i64 c, .slice ad0 m0 cap0]), (1, .pointer (some ⟨p, 0, none⟩)), (2, .slice ad m cap)] Try.func100 rfl (Nat.le_of_ble_eq_true rfl) (by repeat (first | exact trivial | refine ⟨rfl, ?_⟩)) ?_
  refine Run.seq ?_
  refine Run.region ?_
  refine RunL.box rfl rfl (fun bx1 => ?_)
  refine RunL.alloc ti86 rfl (fun bx2 => ?_)
  refine RunL.ok (OpOk.assign rfl) rfl ?_
  refine RunL.nil ?_
  refine Run.seq ?_
  refine Run.region ?_
  refine RunL.ok (OpOk.fieldAddr fld86_2 rfl) rfl ?_
  refine RunL.ok (OpOk.load rfl rfl rfl (Blk.out Blk.pts.left _ _ (by first | rfl | assumption))) rfl ?_
  refine RunL.ok (OpOk.add rfl rfl (wrapI (by omega) (by omega))) rfl ?_
  refine RunL.ok (OpOk.fieldAddr fld86_3 rfl) rfl ?_
  refine RunL.ok (OpOk.load rfl rfl rfl (Blk.out Blk.pts.left _ _ (by first | rfl | assumption))) rfl ?_
  refine RunL.ok (OpOk.sub rfl rfl (wrapI (by omega) (by omega))) rfl ?_
  refine RunL.ok (OpOk.move rfl) rfl ?_
  refine RunL.ok (OpOk.fieldAddr fld86_2 rfl) rfl ?_
  refine RunL.store ti3 rfl rfl rfl (frl rfl) (by exact Nat.le_of_ble_eq_true rfl) (.inl rfl) ?_
  refine RunL.ok (OpOk.fieldAddr fld86_3 rfl) rfl ?_
  refine RunL.store ti3 rfl rfl rfl rfl (by exact Nat.le_of_ble_eq_true rfl) (.inl rfl) ?_
  refine RunL.ok (OpOk.fieldAddr fld86_4 rfl) rfl ?_
  refine RunL.store ti84 rfl rfl rfl rfl (by exact Nat.le_of_ble_eq_true rfl) (.inl rfl) ?_
  refine RunL.nil ?_
  refine Run.seq ?_
  refine Run.seq ?_
  rw [rw_c]
  (apply Run.drawD [] (by rfl) (Eq.trans (frc (frl (frl rfl)) rfl) rfl); case hchk => kernel_rfl)
  refine Sd.quiet 0 _ _ rfl rfl rfl rfl rfl (QOp.ok (fun X => OpOk.move rfl)) ?_
  refine Sd.quiet 1 _ _ rfl rfl rfl rfl rfl (QOp.ok (fun X => OpOk.fieldAddr fld86_3 rfl)) ?_
  refine Sd.quiet 2 _ _ rfl rfl rfl rfl rfl (QOp.ok (fun X => OpOk.load rfl rfl rfl (Blk.out Blk.pts.left.left _ _ (by first | rfl | assumption)))) ?_
  refine Sd.quiet 3 _ _ rfl rfl rfl rfl rfl (QOp.ok (fun X => OpOk.fieldAddr fld86_2 rfl)) ?_
  refine Sd.quiet 4 _ _ rfl rfl rfl rfl rfl (QOp.ok (fun X => OpOk.load rfl rfl rfl (Blk.out Blk.pts.left.left _ _ (by first | rfl | assumption)))) ?_
  refine Sd.quiet 5 _ _ rfl rfl rfl rfl rfl (QOp.ok (fun X => OpOk.move rfl)) ?_
  (refine Sd.exec 6 rfl rfl rfl rfl rfl ?hrest (by rfl) (fun Xx3 Kx3 hKx3 => ?_); case hrest => kernel_rfl)
  refine RunL.mem (fl2 (sep_emp _) rfl) ?_
  refine RunL.call cal99 rfl (s99 rd.left.left.left.left (by omega) (by assumption) (by omega) (by assumption)) rfl (fun vx4 Ax4 hx4 => ?_)
  obtain ⟨x5, rfl⟩ := hx4
  refine RunL.know (fun w s => (s.conv rfl).ownRd0) (fun rdx6 => ?_)
  refine Sd.ret hKx3 (Eq.trans (frc (frl (frl rfl)) rfl) (gp2 rfl (asg rfl))) ⟨_, (emp_sep _).symm⟩ ?_
  (refine Sd.exec 7 rfl rfl rfl rfl rfl ?hrest (by rfl) (fun Xx7 Kx7 hKx7 => ?_); case hrest => kernel_rfl)
  refine RunL.mem (fl2 (flS rfl) rfl) ?_
  refine RunL.call cal88 rfl (s88 (Rd.right rdx6).left (by omega)) rfl (fun vx8 Ax8 hx8 => ?_)
  obtain ⟨x9, rfl⟩ := hx8
  refine RunL.know (fun w s => (s.conv rfl).ownRd0) (fun rdx10 => ?_)
  refine Sd.ret hKx7 (Eq.trans (frc (frl (frl rfl)) rfl) (gp2 rfl (asg (asg (asg rfl))))) ⟨_, (asg rfl)⟩ ?_
  (refine Sd.exec 8 rfl rfl rfl rfl rfl ?hrest (by rfl) (fun Xx11 Kx11 hKx11 => ?_); case hrest => kernel_rfl)
  refine RunL.mem (fl2 (flS (flS (flS rfl))) rfl) ?_
  have alx12 : Alls (GB w0) _ [(vx8, sealed (listB (q + 1) es ++ List.replicate (30 - (listB (q + 1) es).length) 0))] := (Alls.cons (GB.of rdx10) Alls.nil)
  refine RunL.litV (ls := [(vx8, sealed (listB (q + 1) es ++ List.replicate (30 - (listB (q + 1) es).length) 0))]) (Alls.right alx12).left rfl ti63 rfl rfl rfl (by decide) rfl (fun vx12 rdx12 => ?_)
  refine RunL.know (fun w s => (s.conv rfl).ownRd0) (fun rdx13 => ?_)
  refine Sd.ret hKx11 (Eq.trans (frc (frl rfl) rfl) (gp2 rfl (asg (asg (asg (asg rfl)))))) ⟨_, rfl⟩ ?_
  (refine Sd.exec 9 rfl rfl rfl rfl rfl ?hrest (by rfl) (fun Xx14 Kx14 hKx14 => ?_); case hrest => kernel_rfl)
  refine RunL.mem (fl2 (flS (flS (flS (flS rfl)))) rfl) ?_
  refine RunL.call cal98 rfl (s98 (Rd.right rdx13) (Alls.right alx12).left (by assumption) (by assumption) (by simp; omega) (by omega) (by assumption)) rfl (fun vx15 Ax15 hx15 => ?_)
  obtain ⟨rfl, rfl⟩ := hx15
  refine Sd.ret hKx14 (Eq.trans rfl (gp2 (sep_emp _).symm (asg (asg (asg (asg (asg rfl))))))) ⟨_, rfl⟩ ?_
  refine Sd.quiet 10 _ _ rfl rfl rfl rfl rfl (QOp.ok (fun X => OpOk.assign rfl)) ?_
  (apply Sd.tail; case hall => kernel_rfl)
  refine RunL.mem (fl2 (flS (flS (flS (flS (flS rfl))))) (sep_emp _)) ?_
  refine RunL.nil ?_
  refine Run.seq ?_
  refine Run.region ?_
  refine RunL.ok (OpOk.move rfl) rfl ?_
  refine RunL.ok (OpOk.as (c := false) (OpOk.neq rfl rfl) (by rw [decide_eq_true (by omega)]; rfl)) rfl ?_
  refine RunL.nil ?_
  refine Run.condF rfl ?_
  refine Run.skip ?_
  refine Run.seq ?_
  refine Run.region ?_
  refine RunL.ok (OpOk.loadS rfl rfl ti86 rfl Blk.pts.left.left.left.left.left.left rfl) rfl ?_
  refine RunL.storeAll ti86 rfl rfl rfl (ones rfl) (frl (frl (frl (frl (frl (frl (frl rfl))))))) rfl ?_
  refine RunL.ok (OpOk.assign rfl) rfl ?_
  refine RunL.nil ?_
  refine Run.retC2 (A' := _) Try.func100 rfl rfl rfl ti86 rfl rfl Blk.pts rfl (Grew.refl _) ?_
  exact ⟨_, rfl, (Eq.trans (frc (frl rfl) rfl) (congrArg (· * _) (asg (asg (asg (asg (asg (asg as1))))))))⟩
theorem s100b {a b q c : Int} {t m m0 cap cap0 : Nat} {ad ad0 : Option Addr} {es : List En} (rd : Rd w0 A (.slice ad m cap) 4 m (Fl encT111 es)) (hx : xs.length = 512) (hc : 3 - c = (t : Int)) (ht : t ≤ 2) (hq0 : 0 ≤ q) (hq : q + 1 ≤ 65535) (hm : m ≤ 5) (hes : ∀ e ∈ es, okE e) (hw : w ≤ 9223372036854775807) {ys : List UInt8} {w2 e : Int} (hW : Wrote xs w t [sectB (listB (q + 1) es)] ys w2 e) (he : e = 30) :
    Spec Try.prog w0 100 [.agg #[.int .i64 a, .int .i64 b, .int .i64 q, .int .i64 c, .slice ad0 m0 cap0], .pointer (some ⟨p, 0, none⟩), .slice ad m cap] (A * pts p (.cells (B (xs) ++ [Value.int .i64 (w)]).toArray 177 (0, 0))) (fun v' A' => ∃ J, v' = .tuple #[.agg #[.int .i64 0, .int .i64 0, .int .i64 0, .int .i64 0, .slice none 0 0], .int .i64 30] ∧ A' = A * J * pts p (.cells (B (ys) ++ [Value.int .i64 (w2)]).toArray 177 (0, 0))) := by
  subst he
  have hl0 := rd.lenFl (fun _ => rfl) (by decide)
  have rw_c := hc
  have hll : (listB (q + 1) es).length ≤ 30 := by
    rw [listB, listP, List.length_append, ents_len]
    show 3 + 5 * es.length ≤ 30
    omega
  have hsl : (sealed (listB (q + 1) es ++ List.replicate (30 - (listB (q + 1) es).length) 0)).length = 32 := by
    have := pad_len hll
    rw [pad] at this
    rw [sealed_length, this]
  have h32 : ∀ v : Value, ∀ r ∈ [(v, sealed (listB (q + 1) es ++ List.replicate (30 - (listB (q + 1) es).length) 0))], r.2.length = 32 := fun v r hr => by
    rw [List.mem_singleton] at hr
    rw [hr]
    exact hsl
  refine Spec.of_run [(0, .agg #[.int .i64 a, .int .i64 b, .int .i64 q, .int .i64 c, .slice ad0 m0 cap0]), (1, .pointer (some ⟨p, 0, none⟩)), (2, .slice ad m cap)] Try.func100 rfl (Nat.le_of_ble_eq_true rfl) (by repeat (first | exact trivial | refine ⟨rfl, ?_⟩)) ?_
  refine Run.seq ?_
  refine Run.region ?_
  refine RunL.box rfl rfl (fun bx1 => ?_)
  refine RunL.alloc ti86 rfl (fun bx2 => ?_)
  refine RunL.ok (OpOk.assign rfl) rfl ?_
  refine RunL.nil ?_
  refine Run.seq ?_
  refine Run.region ?_
  refine RunL.ok (OpOk.fieldAddr fld86_2 rfl) rfl ?_
  refine RunL.ok (OpOk.load rfl rfl rfl (Blk.out Blk.pts.left _ _ (by first | rfl | assumption))) rfl ?_
  refine RunL.ok (OpOk.add rfl rfl (wrapI (by omega) (by omega))) rfl ?_
  refine RunL.ok (OpOk.fieldAddr fld86_3 rfl) rfl ?_
  refine RunL.ok (OpOk.load rfl rfl rfl (Blk.out Blk.pts.left _ _ (by first | rfl | assumption))) rfl ?_
  refine RunL.ok (OpOk.sub rfl rfl (wrapI (by omega) (by omega))) rfl ?_
  refine RunL.ok (OpOk.move rfl) rfl ?_
  refine RunL.ok (OpOk.fieldAddr fld86_2 rfl) rfl ?_
  refine RunL.store ti3 rfl rfl rfl (frl rfl) (by exact Nat.le_of_ble_eq_true rfl) (.inl rfl) ?_
  refine RunL.ok (OpOk.fieldAddr fld86_3 rfl) rfl ?_
  refine RunL.store ti3 rfl rfl rfl rfl (by exact Nat.le_of_ble_eq_true rfl) (.inl rfl) ?_
  refine RunL.ok (OpOk.fieldAddr fld86_4 rfl) rfl ?_
  refine RunL.store ti84 rfl rfl rfl rfl (by exact Nat.le_of_ble_eq_true rfl) (.inl rfl) ?_
  refine RunL.nil ?_
  refine Run.seq ?_
  refine Run.seq ?_
  rw [rw_c]
  (apply Run.drawD [] (by rfl) (Eq.trans (frc (frl (frl rfl)) rfl) rfl); case hchk => kernel_rfl)
  refine Sd.quiet 0 _ _ rfl rfl rfl rfl rfl (QOp.ok (fun X => OpOk.move rfl)) ?_
  refine Sd.quiet 1 _ _ rfl rfl rfl rfl rfl (QOp.ok (fun X => OpOk.fieldAddr fld86_3 rfl)) ?_
  refine Sd.quiet 2 _ _ rfl rfl rfl rfl rfl (QOp.ok (fun X => OpOk.load rfl rfl rfl (Blk.out Blk.pts.left.left _ _ (by first | rfl | assumption)))) ?_
  refine Sd.quiet 3 _ _ rfl rfl rfl rfl rfl (QOp.ok (fun X => OpOk.fieldAddr fld86_2 rfl)) ?_
  refine Sd.quiet 4 _ _ rfl rfl rfl rfl rfl (QOp.ok (fun X => OpOk.load rfl rfl rfl (Blk.out Blk.pts.left.left _ _ (by first | rfl | assumption)))) ?_
  refine Sd.quiet 5 _ _ rfl rfl rfl rfl rfl (QOp.ok (fun X => OpOk.move rfl)) ?_
  (refine Sd.exec 6 rfl rfl rfl rfl rfl ?hrest (by rfl) (fun Xx3 Kx3 hKx3 => ?_); case hrest => kernel_rfl)
  refine RunL.mem (fl2 (sep_emp _) rfl) ?_
  refine RunL.call cal99 rfl (s99 rd.left.left.left.left (by omega) (by assumption) (by omega) (by assumption)) rfl (fun vx4 Ax4 hx4 => ?_)
  obtain ⟨x5, rfl⟩ := hx4
  refine RunL.know (fun w s => (s.conv rfl).ownRd0) (fun rdx6 => ?_)
  refine Sd.ret hKx3 (Eq.trans (frc (frl (frl rfl)) rfl) (gp2 rfl (asg rfl))) ⟨_, (emp_sep _).symm⟩ ?_
  (refine Sd.exec 7 rfl rfl rfl rfl rfl ?hrest (by rfl) (fun Xx7 Kx7 hKx7 => ?_); case hrest => kernel_rfl)
  refine RunL.mem (fl2 (flS rfl) rfl) ?_
  refine RunL.call cal88 rfl (s88 (Rd.right rdx6).left (by omega)) rfl (fun vx8 Ax8 hx8 => ?_)
  obtain ⟨x9, rfl⟩ := hx8
  refine RunL.know (fun w s => (s.conv rfl).ownRd0) (fun rdx10 => ?_)
  refine Sd.ret hKx7 (Eq.trans (frc (frl (frl rfl)) rfl) (gp2 rfl (asg (asg (asg rfl))))) ⟨_, (asg rfl)⟩ ?_
  (refine Sd.exec 8 rfl rfl rfl rfl rfl ?hrest (by rfl) (fun Xx11 Kx11 hKx11 => ?_); case hrest => kernel_rfl)
  refine RunL.mem (fl2 (flS (flS (flS rfl))) rfl) ?_
  have alx12 : Alls (GB w0) _ [(vx8, sealed (listB (q + 1) es ++ List.replicate (30 - (listB (q + 1) es).length) 0))] := (Alls.cons (GB.of rdx10) Alls.nil)
  refine RunL.litV (ls := [(vx8, sealed (listB (q + 1) es ++ List.replicate (30 - (listB (q + 1) es).length) 0))]) (Alls.right alx12).left rfl ti63 rfl rfl rfl (by decide) rfl (fun vx12 rdx12 => ?_)
  refine RunL.know (fun w s => (s.conv rfl).ownRd0) (fun rdx13 => ?_)
  refine Sd.ret hKx11 (Eq.trans (frc (frl rfl) rfl) (gp2 rfl (asg (asg (asg (asg rfl)))))) ⟨_, rfl⟩ ?_
  (refine Sd.exec 9 rfl rfl rfl rfl rfl ?hrest (by rfl) (fun Xx14 Kx14 hKx14 => ?_); case hrest => kernel_rfl)
  refine RunL.mem (fl2 (flS (flS (flS (flS rfl)))) rfl) ?_
  refine RunL.call cal98 rfl (s98 (Rd.right rdx13) (Alls.right alx12).left (by assumption) (by assumption) (by simp; omega) (by omega) (by assumption)) rfl (fun vx15 Ax15 hx15 => ?_)
  obtain ⟨rfl, rfl⟩ := hx15
  refine Sd.ret hKx14 (Eq.trans rfl (gp2 (sep_emp _).symm (asg (asg (asg (asg (asg rfl))))))) ⟨_, rfl⟩ ?_
  refine Sd.quiet 10 _ _ rfl rfl rfl rfl rfl (QOp.ok (fun X => OpOk.assign rfl)) ?_
  (apply Sd.tail; case hall => kernel_rfl)
  refine RunL.mem (fl2 (flS (flS (flS (flS (flS rfl))))) (sep_emp _)) ?_
  refine RunL.nil ?_
  refine Run.seq ?_
  refine Run.region ?_
  refine RunL.ok (OpOk.move rfl) rfl ?_
  refine RunL.ok (OpOk.as (c := true) (OpOk.neq rfl rfl) (by rw [decide_eq_false (by omega)]; rfl)) rfl ?_
  refine RunL.nil ?_
  refine Run.condT rfl ?_
  refine Run.seq ?_
  refine Run.region ?_
  refine RunL.ok (OpOk.build rfl (fun w => run_build w 86 _ _ (by rfl))) rfl ?_
  refine RunL.ok (OpOk.move rfl) rfl ?_
  refine RunL.storeAll ti86 rfl rfl rfl (ones rfl) (frl (frl (frl (frl (frl (frl (frl rfl))))))) rfl ?_
  refine RunL.ok (OpOk.assign rfl) rfl ?_
  refine RunL.nil ?_
  refine Run.retC2 (A' := _) Try.func100 rfl rfl rfl ti86 rfl rfl Blk.pts rfl (Grew.refl _) ?_
  exact ⟨_, rfl, (Eq.trans (frc (frl rfl) rfl) (congrArg (· * _) (asg (asg (asg (asg (asg (asg as1))))))))⟩
end
end Go.Proofs.Yteopadjihklkmaa
end

section
namespace Go.Proofs.Yteopadjihklkmaa
open Go Go.Proofs
set_option maxRecDepth 100000
set_option maxHeartbeats 4000000
set_option linter.unusedSimpArgs false
set_option linter.unusedVariables false
theorem s102 {w0 : World} {A : Asn} {v : Value} {m : Nat} {l : List En} (rd : Rd w0 A v 4 m (Fl encT111 l)) (hm : m ≤ 1048576) :
    Spec Try.prog w0 102 [v] A (fun v' A' => A' = A * own 111 4 v' m (Fl encT111 l)) := by
  obtain ⟨ad, cap, rfl, hcap, ha⟩ := rd.form
  refine Spec.of_run [(0, .slice ad m cap)] Try.func102 rfl (Nat.le_of_ble_eq_true rfl) (by repeat (first | exact trivial | refine ⟨rfl, ?_⟩)) ?_
  cases ad with
  | none =>
    have hm0 : m = 0 := by
      rcases Nat.eq_zero_or_pos m with e | e
      · exact e
      · cases ha e
    subst hm0
    have hb : l = [] := List.eq_nil_of_length_eq_zero (rd.lenFl (fun _ => rfl) (by decide))
    subst hb
    refine Run.seq ?_
    refine Run.region ?_
    refine RunL.ok (OpOk.assign rfl) rfl ?_
    refine RunL.nil ?_
    refine Run.seq ?_
    refine Run.seq ?_
    refine Run.region ?_
    refine RunL.ok (OpOk.move rfl) rfl ?_
    refine RunL.ok (OpOk.eqlNil rfl rfl) rfl ?_
    refine RunL.nil ?_
    refine Run.condT rfl ?_
    refine Run.seq ?_
    refine Run.region ?_
    refine RunL.ok (OpOk.assign rfl) rfl ?_
    refine RunL.nil ?_
    refine Run.ent (Ent.ownNil' _ 111 4 (Fl encT111 []) rfl) ?_
    refine Run.ret1 Try.func102 rfl rfl ?_
    exact rfl
  | some a =>
    refine Run.seq ?_
    refine Run.region ?_
    refine RunL.ok (OpOk.assign rfl) rfl ?_
    refine RunL.nil ?_
    refine Run.seq ?_
    refine Run.seq ?_
    refine Run.region ?_
    refine RunL.ok (OpOk.move rfl) rfl ?_
    refine RunL.ok (OpOk.eqlNil rfl rfl) rfl ?_
    refine RunL.nil ?_
    refine Run.condF rfl ?_
    refine Run.skip ?_
    refine Run.seq ?_
    refine Run.region ?_
    refine RunL.lit0 rfl ti111 rfl (fun vy1 rdy1 => ?_)
    refine RunL.ok (OpOk.move rfl) rfl ?_
    refine RunL.appendF0 rfl ti111 rfl rfl rfl rfl rd.left rfl (by decide) (by omega) (by simp only [maxLen]; omega) rfl (fun vy2 rdy2 => ?_)
    refine RunL.ok (OpOk.assign rfl) rfl ?_
    refine RunL.nil ?_
    refine Run.ret1 Try.func102 rfl rfl ?_
    exact rfl
end Go.Proofs.Yteopadjihklkmaa
end
