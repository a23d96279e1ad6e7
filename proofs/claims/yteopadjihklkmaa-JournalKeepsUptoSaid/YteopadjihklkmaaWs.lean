/- Texts: their length, joining, comparing, indexing and cutting. -/
import Derived.Test.YteopadjihklkmaaWk
import Derived.Laws.Strings2
import Derived.Laws.Strings3
import Derived.Laws.Pointers
namespace Go.Proofs.Yteopadjihklkmaa
open Go Go.Proofs
theorem ba_size (xs : List UInt8) : (ByteArray.mk xs.toArray).size = xs.length := rfl
theorem ba_append (xs ys : List UInt8) : (ByteArray.mk xs.toArray) ++ (ByteArray.mk ys.toArray) = ByteArray.mk (xs ++ ys).toArray := by
  apply ByteArray.ext
  simp [ByteArray.data_append]
theorem ba_eq (xs ys : List UInt8) : (ByteArray.mk xs.toArray = ByteArray.mk ys.toArray) ↔ xs = ys := by
  constructor
  · intro h
    have := congrArg (fun b => b.data.toList) h
    simpa using this
  · rintro rfl; rfl
theorem S_inj {xs ys : List UInt8} (h : S xs = S ys) : xs = ys := by
  simp only [S, Value.string.injEq] at h
  exact (ba_eq _ _).1 h
section
variable {P : Program} {n : Nat} {w0 : World} {ops : Array Oper} {l : List Oper} {K : Act → World → Prop} {E : Env} {A : Asn} {ty : TypeId}
variable {t u : TypeId} {x y : Operand} {xs ys : List UInt8}
theorem OpOk.lenSS {c : Array TypeId} (hu : P.underlying t = some .string) (hx : ev E x = some (S xs)) (hc : c = #[t]) : OpOk P n w0 (.call { callee := .builtin .len, args := #[x], argTypes := c }) ty E A (.int .i64 (xs.length : Int)) :=
  OpOk.lenS hu hx hc
theorem OpOk.addSS (hx : ev E x = some (S xs)) (hy : ev E y = some (S ys)) (h : xs.length + ys.length ≤ 9223372036854775807) : OpOk P n w0 (.binOp .add t x y u) ty E A (S (xs ++ ys)) := by
  have := OpOk.addS (P := P) (n := n) (w0 := w0) (A := A) (ty := ty) (t := t) (u := u) hx hy h
  rwa [ba_append] at this
theorem OpOk.eqlSS (hx : ev E x = some (S xs)) (hy : ev E y = some (S ys)) : OpOk P n w0 (.binOp .eql t x y u) ty E A (.bool (decide (xs = ys))) := by
  have := OpOk.eqlS (P := P) (n := n) (w0 := w0) (A := A) (ty := ty) (t := t) (u := u) hx hy
  rwa [show decide (ByteArray.mk xs.toArray = ByteArray.mk ys.toArray) = decide (xs = ys) from decide_eq_decide.2 (ba_eq xs ys)] at this
theorem OpOk.neqSS (hx : ev E x = some (S xs)) (hy : ev E y = some (S ys)) : OpOk P n w0 (.binOp .neq t x y u) ty E A (.bool (!decide (xs = ys))) := by
  have := OpOk.neqS (P := P) (n := n) (w0 := w0) (A := A) (ty := ty) (t := t) (u := u) hx hy
  rwa [show decide (ByteArray.mk xs.toArray = ByteArray.mk ys.toArray) = decide (xs = ys) from decide_eq_decide.2 (ba_eq xs ys)] at this
theorem OpOk.lssSS (hx : ev E x = some (S xs)) (hy : ev E y = some (S ys)) : OpOk P n w0 (.binOp .lss t x y u) ty E A (.bool (Op.bytesLess xs ys)) := by
  have := OpOk.lssS (P := P) (n := n) (w0 := w0) (A := A) (ty := ty) (t := t) (u := u) hx hy
  simpa using this
theorem OpOk.idxSS {q : IntKind} {i : Nat} (hu : P.underlying t = some .string) (hx : ev E x = some (S xs)) (hy : ev E y = some (.int q ((i : Nat) : Int))) (h : i < xs.length) : OpOk P n w0 (.index t x y) ty E A (.int .u8 ((xs.getD i 0).toNat : Int)) :=
  .pure fun a w _ _ _ _ he => by
    have h1 := run_index_string (P := P) w t ⟨xs.toArray⟩ q (i : Int) hu
    have hc : 0 ≤ (i : Int) ∧ (i : Int) < (ByteArray.mk xs.toArray).size := ⟨Int.natCast_nonneg i, by rw [ba_size]; omega⟩
    rw [dif_pos hc] at h1
    simp only [execOp, he.eval hx, he.eval hy, S, Sem.run_bind, h1, Result.andThen_ok]
    simp only [Sem.run_pure]
    congr 3
    rw [List.getD_eq_getElem?_getD, List.getElem?_eq_getElem h]
    rfl
theorem OpOk.cutSS {lo hi : Option Operand} {i j : Nat} (hu : P.underlying t = some .string) (hx : ev E x = some (S xs)) (hlo : match lo with | none => i = 0 | some o => ∃ q, ev E o = some (.int q ((i : Nat) : Int)))
    (hhi : match hi with | none => j = xs.length | some o => ∃ q, ev E o = some (.int q ((j : Nat) : Int))) (h1 : i ≤ j) (h2 : j ≤ xs.length) : OpOk P n w0 (.slice t x lo hi none) ty E A (S ((xs.drop i).take (j - i))) := by
  have hs : (j : Int) ≤ (ByteArray.mk xs.toArray).size := by rw [ba_size]; omega
  have key : (Go.ByteArray.extract_mk xs i j).symm.symm = (Go.ByteArray.extract_mk xs i j) := rfl
  refine .pure fun a w _ _ _ _ he => ?_
  have hx' : a.eval x = .string ⟨xs.toArray⟩ := he.eval hx
  cases lo with
  | none =>
    obtain rfl : i = 0 := hlo
    cases hi with
    | none =>
      obtain rfl : j = xs.length := hhi
      have := run_slice_string_all (P := P) w t ⟨xs.toArray⟩ hu
      rw [ba_size, Go.ByteArray.extract_mk] at this
      simp only [execOp, Instr.sliceAt, hx', S, Sem.run_bind, run_underlying hu, Result.andThen_ok, Option.map_none, this, Sem.run_pure]
    | some o =>
      obtain ⟨q, ho⟩ := hhi
      have := run_slice_string_to_if (P := P) w t ⟨xs.toArray⟩ q (j : Int) hu
      rw [if_pos ⟨Int.natCast_nonneg j, hs⟩, Int.toNat_natCast, Go.ByteArray.extract_mk] at this
      simp only [execOp, Instr.sliceAt, hx', he.eval ho, Option.map_some, S, Sem.run_bind, run_underlying hu, Result.andThen_ok, Option.map_none, this, Sem.run_pure]
  | some p =>
    obtain ⟨q', hp⟩ := hlo
    cases hi with
    | none =>
      obtain rfl : j = xs.length := hhi
      have := run_slice_string_from_if (P := P) w t ⟨xs.toArray⟩ q' (i : Int) hu
      rw [if_pos ⟨Int.natCast_nonneg i, by rw [ba_size]; omega⟩, Int.toNat_natCast, ba_size, Go.ByteArray.extract_mk] at this
      simp only [execOp, Instr.sliceAt, hx', he.eval hp, Option.map_some, S, Sem.run_bind, run_underlying hu, Result.andThen_ok, Option.map_none, this, Sem.run_pure]
    | some o =>
      obtain ⟨q, ho⟩ := hhi
      have := run_slice_string (P := P) w t ⟨xs.toArray⟩ q' q (i : Int) (j : Int) hu (Int.natCast_nonneg i) (by omega) hs
      rw [Int.toNat_natCast, Int.toNat_natCast, Go.ByteArray.extract_mk] at this
      simp only [execOp, Instr.sliceAt, hx', he.eval ho, he.eval hp, Option.map_some, S, Sem.run_bind, run_underlying hu, Result.andThen_ok, Option.map_none, this, Sem.run_pure]
end
end Go.Proofs.Yteopadjihklkmaa
namespace Go.Proofs.Yteopadjihklkmaa
open Go Go.Proofs
section
variable {P : Program} {n : Nat} {w0 : World} {ops : Array Oper} {l : List Oper} {K : Act → World → Prop} {E : Env} {A : Asn} {ty : TypeId}
variable {t u : TypeId} {x y : Operand} {i j : Int}
theorem OpOk.quoU (a b : Nat) (hx : ev E x = some (.int .u8 i)) (hi : i = (a : Int)) (hy : ev E y = some (.int .u8 j)) (hj : j = (b : Int)) (h : 0 < b) (h2 : a < 256) : OpOk P n w0 (.binOp .quo t x y u) ty E A (.int .u8 ((a / b : Nat) : Int)) := by
  subst hi hj
  refine OpOk.quo hx hy (by omega) ?_
  have e : (a : Int) / (b : Int) = ((a / b : Nat) : Int) := by simp
  have := Nat.div_le_self a b
  rw [tdivI (Int.natCast_nonneg a), e]
  generalize a / b = q at *
  exact wrapU8 (by omega) (by omega)
theorem OpOk.remU (a b : Nat) (hx : ev E x = some (.int .u8 i)) (hi : i = (a : Int)) (hy : ev E y = some (.int .u8 j)) (hj : j = (b : Int)) (h : 0 < b) : OpOk P n w0 (.binOp .rem t x y u) ty E A (.int .u8 ((a % b : Nat) : Int)) := by
  subst hi hj
  exact OpOk.rem hx hy (by omega) (by rw [tmodI (Int.natCast_nonneg a)]; simp)
theorem OpOk.shrU {q : IntKind} (a s : Nat) (hx : ev E x = some (.int .u8 i)) (hi : i = (a : Int)) (hy : ev E y = some (.int q j)) (hj : j = (s : Int)) (h : s ≤ 8) : OpOk P n w0 (.binOp .shr t x y u) ty E A (.int .u8 ((a / 2 ^ s : Nat) : Int)) := by
  subst hi hj
  refine OpOk.shr hx hy (Int.natCast_nonneg s) ?_
  rw [Int.toNat_natCast, show min s IntKind.u8.bits = s from Nat.min_eq_left (by simpa [IntKind.bits] using h)]
  simp
theorem and15 (x : UInt8) : IntKind.u8.wrap ((BitVec.ofInt IntKind.u8.bits (x.toNat : Int) &&& BitVec.ofInt IntKind.u8.bits 15).toNat : Int) = ((x.toNat % 16 : Nat) : Int) := by
  have key : ∀ c : Fin 256, IntKind.u8.wrap ((BitVec.ofInt IntKind.u8.bits ((UInt8.ofNat c.val).toNat : Int) &&& BitVec.ofInt IntKind.u8.bits 15).toNat : Int) = (((UInt8.ofNat c.val).toNat % 16 : Nat) : Int) := by decide +kernel
  have h := key ⟨x.toNat, x.toNat_lt⟩
  simpa using h
end
end Go.Proofs.Yteopadjihklkmaa
namespace Go.Proofs.Yteopadjihklkmaa
open Go Go.Proofs
section
variable {P : Program} {n : Nat} {w0 : World} {E : Env} {A : Asn} {ty : TypeId} {t u : TypeId} {x : Operand} {p : Option Addr}
theorem OpOk.eqlPN (hu : P.underlying t = some (.pointer (P.pointee t))) (hx : ev E x = some (.pointer p)) : OpOk P n w0 (.binOp .eql t x (.const (.pointer none)) u) ty E A (.bool p.isNone) :=
  .pure fun a w _ _ _ _ he => by
    have e : a.eval (.const (.pointer none)) = .pointer none := rfl
    have h := run_equal_pointer_nil (P := P) w t p hu
    simp [execOp, he.eval hx, e, eqGuard, binOp, h]
theorem OpOk.neqPN (hu : P.underlying t = some (.pointer (P.pointee t))) (hx : ev E x = some (.pointer p)) : OpOk P n w0 (.binOp .neq t x (.const (.pointer none)) u) ty E A (.bool (!p.isNone)) :=
  .pure fun a w _ _ _ _ he => by
    have e : a.eval (.const (.pointer none)) = .pointer none := rfl
    have h := run_equal_pointer_nil (P := P) w t p hu
    simp [execOp, he.eval hx, e, eqGuard, binOp, h]
end
end Go.Proofs.Yteopadjihklkmaa
namespace Go.Proofs.Yteopadjihklkmaa
open Go Go.Proofs
section
variable {P : Program} {n : Nat} {w0 : World} {ops : Array Oper} {tail : List Nat} {E : Env} {A : Asn} {K : Act → World → Prop} {known : List (Nat × Value)} {Pk L : Asn} {j : Nat}
theorem St.splitB {b : Bool} (h1 : b = true → St P n w0 ops tail E A K ((j, .bool true) :: known) Pk L) (h2 : b = false → St P n w0 ops tail E A K ((j, .bool false) :: known) Pk L) : St P n w0 ops tail E A K ((j, .bool b) :: known) Pk L := by
  cases b with
  | true => exact h1 rfl
  | false => exact h2 rfl
theorem St.splitBT {b : Bool} (e : b = true) (h1 : St P n w0 ops tail E A K ((j, .bool true) :: known) Pk L) : St P n w0 ops tail E A K ((j, .bool b) :: known) Pk L := e ▸ h1
theorem St.splitBF {b : Bool} (e : b = false) (h1 : St P n w0 ops tail E A K ((j, .bool false) :: known) Pk L) : St P n w0 ops tail E A K ((j, .bool b) :: known) Pk L := e ▸ h1
theorem St.splitD {p : Prop} [Decidable p] (h1 : p → St P n w0 ops tail E A K ((j, .bool true) :: known) Pk L) (h2 : ¬ p → St P n w0 ops tail E A K ((j, .bool false) :: known) Pk L) : St P n w0 ops tail E A K ((j, .bool (decide p)) :: known) Pk L :=
  St.splitB (fun e => h1 (of_decide_eq_true e)) (fun e => h2 (of_decide_eq_false e))
theorem St.splitN {p : Prop} [Decidable p] (h1 : ¬ p → St P n w0 ops tail E A K ((j, .bool true) :: known) Pk L) (h2 : p → St P n w0 ops tail E A K ((j, .bool false) :: known) Pk L) : St P n w0 ops tail E A K ((j, .bool (!decide p)) :: known) Pk L :=
  St.splitB (fun e => h1 (by simpa using e)) (fun e => h2 (by simpa using e))
theorem flS {B P F X : Asn} (h : B * P = F) : B * (P * X) = F * X := by rw [← sep_assoc, h]
theorem fl2 {A P L F G : Asn} (h1 : A * P = F) (h2 : F * L = G) : A * P * L = G := by rw [h1, h2]
theorem gp2 {X B L A P : Asn} (h2 : X = B * L) (h1 : B = A * P) : X = A * P * L := by rw [h2, h1]
/-- One operation that all the others wait for, walked like any other. -/
theorem St.exec (c : Nat) {d : Nat} {op : Op} {ty : TypeId} {ps : String} {af : Array Edge} {g : Option (Nat × Bool)}
    (hi : ops[c]? = some { dst := some d, op, type := ty, pos := ps, after := af, guard := g }) (hn : vof known c = none) (hm : met ops known { dst := some d, op, type := ty, pos := ps, after := af, guard := g } = some true) (ht : has tail c = false)
    (hrest : (List.range ops.size).all (fun i => (vof known i).isSome || has [c] i || [c].any fun c => reach (befs ops.toList []) c i) = true) (hd : Nat.blt d n = true)
    (h : ∀ K' : Act → World → Prop, (∀ v P' L', St P n w0 ops tail E A K ((c, v) :: known) P' L' → (∃ N, P' = Pk * N) → RunL P n w0 #[] [] K' ((d, v) :: (depE ops known { dst := some d, op, type := ty, pos := ps, after := af, guard := g } ++ E)) (A * P' * L')) →
      RunL P n w0 #[] [{ dst := some d, op, type := ty, pos := ps, after := af, guard := none }] K' (depE ops known { dst := some d, op, type := ty, pos := ps, after := af, guard := g } ++ E) (A * Pk * L)) : St P n w0 ops tail E A K known Pk L :=
  St.chain c _ (fun v P' L' => St P n w0 ops tail E A K ((c, v) :: known) P' L' ∧ ∃ N, P' = Pk * N) hi hn hm ht hrest (COp.of (ops := #[]) hd fun K' hK => h K' fun v P' L' st hN => hK v P' L' ⟨st, hN⟩) (fun _ _ _ hR => hR.1) (fun _ _ _ hR => hR.2)
theorem St.ret {K' : Act → World → Prop} {E' : Env} {c d : Nat} (hK : ∀ v P' L', St P n w0 ops tail E A K ((c, v) :: known) P' L' → (∃ N, P' = Pk * N) → RunL P n w0 #[] [] K' ((d, v) :: E') (A * P' * L'))
    {v : Value} {A1 P' L' : Asn} (hA : A1 = A * P' * L') (hP : ∃ N, P' = Pk * N) (st : St P n w0 ops tail E A K ((c, v) :: known) P' L') : RunL P n w0 #[] [] K' ((d, v) :: E') A1 := by
  subst hA
  exact hK v P' L' st hP
end
/-- Records of cells that are one cell wide each. -/
class OneC {α : Type} (enc : α → List Value) : Prop where
  one : ∀ a, ∀ u ∈ enc a, u.oneCell' = true
theorem Fl_one {α : Type} {enc : α → List Value} [h : OneC enc] (xs : List α) : ∀ u ∈ Fl enc xs, u.oneCell' = true := by
  intro u hu
  obtain ⟨a, _, ha⟩ := List.mem_flatMap.1 hu
  exact h.one a u ha
theorem RunL.appendF {P : Program} {n : Nat} {w0 : World} {ops : Array Oper} {l : List Oper} {K : Act → World → Prop} {E : Env} {A : Asn} {ty : TypeId} {ps : String} {af : Array Edge} {α : Type} {enc : α → List Value} [OneC enc] {d : Nat} {t e : TypeId} {x y : Operand} {v u : Value} {m c size bytes : Nat} {xs ys : List α} {z : Value} {A1 : Asn} {ats : Array TypeId} (hu : P.underlying t = some (.slice e))
    (hi : TyI P e z size bytes) (hats : ats = #[t, t]) (hx : ev E x = some v) (hy : ev E y = some u) (hA : A = A1 * own e size v m (Fl enc xs)) (rd : Rd w0 A u size c (Fl enc ys))
    (hzs : z.cells.size = size) (hsz : 0 < size) (hlim : (m + c) * bytes ≤ 140737488355328) (hlim2 : m + c ≤ maxLen) (hd : Nat.blt d n = true)
    (r : ∀ v', Rd w0 (A1 * own e size v' (m + c) (Fl enc (xs ++ ys))) v' size (m + c) (Fl enc (xs ++ ys)) → RunL P n w0 ops l K ((d, v') :: E) (A1 * own e size v' (m + c) (Fl enc (xs ++ ys)))) :
    RunL P n w0 ops ({ dst := some d, op := .call { callee := .builtin .append, args := #[x, y], argTypes := ats }, type := ty, pos := ps, after := af, guard := none } :: l) K E A := by
  refine RunL.append hu hi hats hx hy hA rd (Fl_one _) hzs hsz hlim hlim2 hd ?_
  rw [← Fl_append]
  exact r
theorem RunL.appendF0 {P : Program} {n : Nat} {w0 : World} {ops : Array Oper} {l : List Oper} {K : Act → World → Prop} {E : Env} {A : Asn} {ty : TypeId} {ps : String} {af : Array Edge} {α : Type} {enc : α → List Value} [OneC enc] {d : Nat} {t e : TypeId} {x y : Operand} {v u : Value} {c size bytes : Nat} {ys : List α} {z : Value} {A1 : Asn} {ats : Array TypeId} (hu : P.underlying t = some (.slice e))
    (hi : TyI P e z size bytes) (hats : ats = #[t, t]) (hx : ev E x = some v) (hy : ev E y = some u) (hA : A = A1 * own e size v 0 []) (rd : Rd w0 A u size c (Fl enc ys))
    (hzs : z.cells.size = size) (hsz : 0 < size) (hlim : c * bytes ≤ 140737488355328) (hlim2 : c ≤ maxLen) (hd : Nat.blt d n = true)
    (r : ∀ v', Rd w0 (A1 * own e size v' c (Fl enc ys)) v' size c (Fl enc ys) → RunL P n w0 ops l K ((d, v') :: E) (A1 * own e size v' c (Fl enc ys))) :
    RunL P n w0 ops ({ dst := some d, op := .call { callee := .builtin .append, args := #[x, y], argTypes := ats }, type := ty, pos := ps, after := af, guard := none } :: l) K E A := by
  refine RunL.appendF (m := 0) (xs := []) hu hi hats hx hy hA rd hzs hsz (by rwa [Nat.zero_add]) (by rwa [Nat.zero_add]) hd ?_
  rw [Nat.zero_add, List.nil_append]
  exact r
/-- A drawn region that changes a part of the memory. -/
theorem Run.drawL {P : Program} {n : Nat} {w0 : World} {E : Env} {fid : Fid} {R : Ending → World → Prop} {k : List Item} {id : Nat} {l : List Oper} {A1 A L : Asn} (tail : List Nat) (hmix : P.follows .mixedOrders = true) (hA : A1 = A * L) (hchk : chk l tail (E.map (·.1)) n = true)
    (h : St P n w0 l.toArray tail E A (Runs P fid R k) [] emp L) (hd : (fid.ro.isNone || noDefer l.toArray) = true := by rfl) : Run P fid n R w0 (.code (.region id l.toArray true) :: k) E A1 := by
  subst hA
  refine ⟨fun a w he hs => Runs.regionD hd fun t => ?_⟩
  have hw : wpOps P l.toArray (Qk (Runs P fid R k)) (Region.schedule (P.follows .mixedOrders) l.toArray t) a { w with drawn := w.drawn + 1 } := by
    rw [hmix]
    unfold Region.schedule
    simp only [Bool.true_or, if_true]
    obtain ⟨ol, hl, hok⟩ := lin_ok l.toArray l.toArray.size t (Array.replicate l.toArray.size false) [] (by simp)
    unfold Region.linearise
    rw [hl]
    simp only [List.reverse_nil, List.nil_append]
    have hnl : ∀ i, ¬ lis (Array.replicate l.toArray.size false) i := by
      intro i hi
      unfold lis at hi
      have := Array.getElem?_eq_some_iff.1 hi
      simp at this
    refine draw_sound (Shape.of_chk hchk) _ _ _ hok (by simp) [] emp L a _ ⟨by simp, he, ?_, ?_, ?_, ?_⟩ h
    · have := hs.drawnN (w.drawn + 1)
      exact this.conv (by rw [sep_emp])
    · intro i v hv; simp [vof] at hv
    · intro i hi; exact absurd hi (hnl i)
    · intro i o hi; exact absurd hi (hnl i)
  exact hw
end Go.Proofs.Yteopadjihklkmaa
