/- Operations that read, write and make memory, and calls. Words of our own for the proofs of this seat. -/
import Derived.Test.YteopadjihklkmaaOp
namespace Go.Proofs.Yteopadjihklkmaa
open Go
/-- Where a slice begins. -/
def adr : Value → Addr
  | .slice (some a) _ _ => a
  | .pointer (some a) => a
  | _ => ⟨0, 0, none⟩
/-- Bytes as cells. -/
def B (xs : List UInt8) : List Value := xs.map fun c => .int .u8 (c.toNat : Int)
theorem B_length (xs : List UInt8) : (B xs).length = xs.length := by simp [B]
theorem B_append (xs ys : List UInt8) : B (xs ++ ys) = B xs ++ B ys := by simp [B]
theorem B_get {xs : List UInt8} {j : Nat} (h : j < xs.length) : (B xs)[j]? = some (.int .u8 ((xs.getD j 0).toNat : Int)) := by
  simp [B, List.getElem?_eq_getElem h, List.getD_eq_getElem?_getD]
theorem B_one (xs : List UInt8) : ∀ u ∈ B xs, u.oneCell' = true := by
  intro u hu
  simp only [B, List.mem_map] at hu
  obtain ⟨_, _, rfl⟩ := hu
  rfl
theorem B_cells (xs : List UInt8) : ∀ v ∈ B xs, v.cells.size = 1 := by
  intro u hu
  simp only [B, List.mem_map] at hu
  obtain ⟨_, _, rfl⟩ := hu
  rfl
theorem B_flat (xs : List UInt8) : ((B xs).flatMap fun v => v.cells.toList) = B xs := by
  induction xs with
  | nil => rfl
  | cons x r ih => simp only [B, List.map_cons, List.flatMap_cons] at *; rw [ih]; rfl
def S (xs : List UInt8) : Value := .string ⟨xs.toArray⟩
/-- Whole numbers as cells. -/
def I (xs : List Int) : List Value := xs.map fun c => .int .i64 c
theorem I_length (xs : List Int) : (I xs).length = xs.length := by simp [I]
theorem I_append (xs ys : List Int) : I (xs ++ ys) = I xs ++ I ys := by simp [I]
theorem I_get {xs : List Int} {j : Nat} (h : j < xs.length) : (I xs)[j]? = some (.int .i64 (xs.getD j 0)) := by
  simp [I, List.getElem?_eq_getElem h, List.getD_eq_getElem?_getD]
theorem I_one (xs : List Int) : ∀ u ∈ I xs, u.oneCell' = true := by
  intro u hu
  simp only [I, List.mem_map] at hu
  obtain ⟨_, _, rfl⟩ := hu
  rfl

theorem Rd.cell {w0 : World} {A : Asn} {v : Value} {size n : Nat} {xs : List Value} (h : Rd w0 A v size n xs) {j : Nat} {u : Value} (hj : xs[j]? = some u) : Cell w0 A ((adr v).add j) u := by
  obtain ⟨hl, _, ad, cap, rfl, _, hc⟩ := h
  have h0 : 0 < n := by
    rcases Nat.eq_zero_or_pos n with e | e
    · subst e
      have := (List.getElem?_eq_some_iff.1 hj).1
      omega
    · exact e
  obtain ⟨a, rfl, hc'⟩ := hc h0
  exact hc' j u hj
theorem Rd.form {w0 : World} {A : Asn} {v : Value} {size n : Nat} {xs : List Value} (h : Rd w0 A v size n xs) : ∃ ad cap, v = .slice ad n cap ∧ n ≤ cap ∧ (0 < n → ad = some (adr v)) := by
  obtain ⟨hl, _, ad, cap, rfl, hcap, hc⟩ := h
  refine ⟨ad, cap, rfl, hcap, fun h0 => ?_⟩
  obtain ⟨a, rfl, _⟩ := hc h0
  rfl
theorem Rd.max {w0 : World} {A : Asn} {v : Value} {size n : Nat} {xs : List Value} (h : Rd w0 A v size n xs) : n ≤ 9223372036854775807 := by
  have := h.max0
  simpa [maxLen] using this
theorem Rd.nil {w0 : World} {A : Asn} (size : Nat) : Rd w0 A (.slice none 0 0) size 0 [] := ⟨by simp, by simp [maxLen], none, 0, rfl, Nat.le_refl _, fun h => absurd h (Nat.lt_irrefl _)⟩

/-- Slices of bytes in a row: each can be read. -/
structure RdL (w0 : World) (A : Asn) (vs : List Value) (bss : List (List UInt8)) : Prop where
  len : vs.length = bss.length
  at_ : ∀ i, i < bss.length → Rd w0 A (vs.getD i (.bool false)) 1 (bss.getD i []).length (B (bss.getD i []))
theorem RdL.left {w0 : World} {A C : Asn} {vs : List Value} {bss : List (List UInt8)} (h : RdL w0 A vs bss) : RdL w0 (A * C) vs bss := ⟨h.len, fun i hi => (h.at_ i hi).left⟩
theorem RdL.conv {w0 : World} {A C : Asn} {vs : List Value} {bss : List (List UInt8)} (h : RdL w0 A vs bss) (e : A = C) : RdL w0 C vs bss := e ▸ h
theorem RdL.nil {w0 : World} {A : Asn} : RdL w0 A [] [] := ⟨rfl, fun i hi => by simp at hi⟩
theorem RdL.cons {w0 : World} {A : Asn} {v : Value} {vs : List Value} {bs : List UInt8} {bss : List (List UInt8)} (h : Rd w0 A v 1 bs.length (B bs)) (k : RdL w0 A vs bss) : RdL w0 A (v :: vs) (bs :: bss) :=
  ⟨by simp [k.len], fun i hi => by cases i with | zero => exact h | succ i => exact k.at_ i (by simpa using hi)⟩
theorem getD_at {α : Type} {xs : List α} {i : Nat} {d : α} (h : i < xs.length) : xs[i]? = some (xs.getD i d) := by
  rw [List.getD_eq_getElem?_getD, List.getElem?_eq_getElem h]
  rfl
section
variable {P : Program} {n : Nat} {w0 : World} {ops : Array Oper} {l : List Oper} {K : Act → World → Prop} {E : Env} {A : Asn} {ty : TypeId}

/-! ### Reading -/
theorem run_equal_sliceNil {t e : TypeId} (w : World) (hu : P.underlying t = some (.slice e)) (ad : Option Addr) (m c : Nat) : (Op.equal t (.slice ad m c) (.slice none 0 0)).run P w = .ok ad.isNone w := by
  show (Op.equalIn (9999 + 1) t (.slice ad m c) (.slice none 0 0)).run P w = _
  rw [Op.equalIn]
  cases ad <;> simp [underlying, hu]
theorem OpOk.eqlNil {t e u : TypeId} {x : Operand} {ad : Option Addr} {m c : Nat} (hu : P.underlying t = some (.slice e)) (hx : ev E x = some (.slice ad m c)) : OpOk P n w0 (.binOp .eql t x (.const (.slice none 0 0)) u) ty E A (.bool ad.isNone) :=
  .pure fun a w _ _ _ _ he => by
    have e : a.eval (.const (.slice none 0 0)) = .slice none 0 0 := rfl
    simp [execOp, he.eval hx, e, eqGuard, binOp, run_equal_sliceNil w hu]
theorem OpOk.neqNil {t e u : TypeId} {x : Operand} {ad : Option Addr} {m c : Nat} (hu : P.underlying t = some (.slice e)) (hx : ev E x = some (.slice ad m c)) : OpOk P n w0 (.binOp .neq t x (.const (.slice none 0 0)) u) ty E A (.bool (!ad.isNone)) :=
  .pure fun a w _ _ _ _ he => by
    have e : a.eval (.const (.slice none 0 0)) = .slice none 0 0 := rfl
    simp [execOp, he.eval hx, e, eqGuard, binOp, run_equal_sliceNil w hu]
theorem OpOk.lenR {t e : TypeId} {c : Array TypeId} {x : Operand} {v : Value} {size m : Nat} {xs : List Value} (hu : P.underlying t = some (.slice e)) (hx : ev E x = some v) (rd : Rd w0 A v size m xs) (hc : c = #[t]) :
    OpOk P n w0 (.call { callee := .builtin .len, args := #[x], argTypes := c }) ty E A (.int .i64 m) := by
  obtain ⟨ad, cap, rfl, _⟩ := rd.form
  exact OpOk.lenV hu hx hc
theorem OpOk.idx {t e : TypeId} {x y : Operand} {v : Value} {size m : Nat} {xs : List Value} {q : IntKind} {i : Int} (hu : P.underlying t = some (.slice e)) {zz : Value} {bb : Nat} (hz : TyI P e zz size bb) (hx : ev E x = some v) (rd : Rd w0 A v size m xs)
    (hy : ev E y = some (.int q i)) (h0 : 0 ≤ i) (h1 : i < m) : OpOk P n w0 (.indexAddr t x y) ty E A (.pointer (some ((adr v).add (i.toNat * size)))) := by
  obtain ⟨ad, cap, hv, _, ha⟩ := rd.form
  have ha := ha (by omega)
  obtain ⟨f, hf, hs⟩ := Option.map_eq_some_iff.1 hz.size
  refine .pure fun a w _ _ _ _ he => ?_
  have hx' := he.eval hx
  rw [hv] at hx'
  rw [ha] at hx'
  have h0' : ¬ i < 0 := by omega
  simp [execOp, hx', he.eval hy, Instr.indexAt, asIntOf, underlying, hu, h0, h1, sizeOf, typeInfo, hf, hs]
theorem OpOk.idx1 {t e : TypeId} {x y : Operand} {v : Value} {m : Nat} {xs : List Value} {q : IntKind} {i : Int} (hu : P.underlying t = some (.slice e)) {zz : Value} {bb : Nat} (hz : TyI P e zz 1 bb) (hx : ev E x = some v) (rd : Rd w0 A v 1 m xs)
    (hy : ev E y = some (.int q i)) (h0 : 0 ≤ i) (h1 : i < m) : OpOk P n w0 (.indexAddr t x y) ty E A (.pointer (some ((adr v).add i.toNat))) := by
  have := OpOk.idx (ty := ty) (n := n) hu hz hx rd hy h0 h1
  rwa [Nat.mul_one] at this
def aggD : TypeDesc → Bool
  | .struct _ => true
  | .array _ _ => true
  | _ => false
theorem run_isAgg {t : TypeId} {d : TypeDesc} (w : World) (hu : P.underlying t = some d) : (isAgg t).run P w = .ok (aggD d) w := by
  simp only [isAgg, Sem.run_bind, underlying, hu, run_program, Sem.run_pure, Result.andThen_ok]
  cases d <;> rfl
theorem run_load_cell {w : World} {a : Addr} {v : Value} (h : w.cell? a = some v) : (load a).run P w = .ok v w := by simp [h]
theorem OpOk.load {t : TypeId} {d : TypeDesc} {x : Operand} {a : Addr} {u : Value} (hu : P.underlying t = some d) (hd : aggD d = false) (hx : ev E x = some (.pointer (some a))) (hc : Cell w0 A a u) : OpOk P n w0 (.load t x) ty E A u :=
  .read fun b w _ _ _ _ he hs => by
    simp only [execOp, he.eval hx, Instr.loadAt, Instr.sureAddr, loadVar, Sem.run_bind, Sem.run_pure, Result.andThen_ok, run_isAgg w hu, hd, Bool.false_eq_true, if_false, run_load_cell (hc.out w hs)]
theorem OpOk.loadG {t : TypeId} {d : TypeDesc} {x : Operand} {a : Addr} {cs : List Value} {m : Nat} (hu : P.underlying t = some d) (hd : aggD d = true) {zz : Value} {bb : Nat} (hz : TyI P t zz m bb) (hx : ev E x = some (.pointer (some a)))
    (hl : cs.length = m) (hc : ∀ j u, cs[j]? = some u → Cell w0 A (a.add j) u) : OpOk P n w0 (.load t x) ty E A (.agg cs.toArray) :=
  .read fun b w _ _ _ _ he hs => by
    obtain ⟨f, hf, hsz⟩ := Option.map_eq_some_iff.1 hz.size
    have h := run_loadCells_list (P := P) w a cs (fun j v hj => (hc j v hj).out w hs)
    simp only [execOp, he.eval hx, Instr.loadAt, Instr.sureAddr, loadVar, Sem.run_bind, Sem.run_pure, Result.andThen_ok, run_isAgg w hu, hd, if_true, sizeOf, typeInfo, hf, run_program, hsz, ← hl, h]
theorem OpOk.fieldAddr {s : TypeId} {x : Operand} {j b off o ft : Nat} (hf : FieldAt P s j o ft) (hx : ev E x = some (.pointer (some ⟨b, off, none⟩))) :
    OpOk P n w0 (.fieldAddr s x j) ty E A (.pointer (some ⟨b, off + o, none⟩)) :=
  .pure fun a w _ _ _ _ he => by
    obtain ⟨fs, fd, m, hu, hj, rfl, rfl, hz⟩ := hf.out
    obtain ⟨f, hg, hsz⟩ := Option.map_eq_some_iff.1 hz
    have e : (⟨b, off, none⟩ : Addr).add fd.offset = ⟨b, off + fd.offset, none⟩ := by unfold Addr.add; split <;> simp_all
    simp [execOp, he.eval hx, Instr.fieldAt, underlying, hu, hj, Instr.sureAddr, fieldPlace, sizeOf, typeInfo, hg, hsz, e]
theorem OpOk.fieldAddrA {s : TypeId} {x : Operand} {j o ft : Nat} {ad : Addr} {i : Nat} (hf : FieldAt P s j o ft) (hx : ev E x = some (.pointer (some (ad.add i)))) :
    OpOk P n w0 (.fieldAddr s x j) ty E A (.pointer (some (ad.add (i + o)))) :=
  .pure fun a w _ _ _ _ he => by
    obtain ⟨fs, fd, m, hu, hj, rfl, rfl, hz⟩ := hf.out
    obtain ⟨f, hg, hsz⟩ := Option.map_eq_some_iff.1 hz
    have e : (ad.add i).add fd.offset = ad.add (i + fd.offset) := by
      unfold Addr.add
      by_cases e1 : i = 0
      · simp [e1]
      · by_cases e2 : fd.offset = 0
        · simp [e1, e2]
        · simp [e1, e2, Nat.add_assoc]
    simp [execOp, he.eval hx, Instr.fieldAt, underlying, hu, hj, Instr.sureAddr, fieldPlace, sizeOf, typeInfo, hg, hsz, e]
theorem OpOk.nilOk {x : Operand} {a : Addr} (hx : ev E x = some (.pointer (some a))) : OpOk P n w0 (.nilCheck x) ty E A (.pointer (some a)) := .pure fun b w _ _ _ _ he => by simp [execOp, he.eval hx]
theorem OpOk.ext20 {x : Operand} {a1 a2 : Value} (hx : ev E x = some (.tuple #[a1, a2])) : OpOk P n w0 (.extract x 0) ty E A a1 :=
  .pure fun b w _ _ _ _ he => by simp [execOp, he.eval hx, Instr.extract]
theorem OpOk.ext21 {x : Operand} {a1 a2 : Value} (hx : ev E x = some (.tuple #[a1, a2])) : OpOk P n w0 (.extract x 1) ty E A a2 :=
  .pure fun b w _ _ _ _ he => by simp [execOp, he.eval hx, Instr.extract]
theorem OpOk.ext30 {x : Operand} {a1 a2 a3 : Value} (hx : ev E x = some (.tuple #[a1, a2, a3])) : OpOk P n w0 (.extract x 0) ty E A a1 :=
  .pure fun b w _ _ _ _ he => by simp [execOp, he.eval hx, Instr.extract]
theorem OpOk.ext31 {x : Operand} {a1 a2 a3 : Value} (hx : ev E x = some (.tuple #[a1, a2, a3])) : OpOk P n w0 (.extract x 1) ty E A a2 :=
  .pure fun b w _ _ _ _ he => by simp [execOp, he.eval hx, Instr.extract]
theorem OpOk.ext32 {x : Operand} {a1 a2 a3 : Value} (hx : ev E x = some (.tuple #[a1, a2, a3])) : OpOk P n w0 (.extract x 2) ty E A a3 :=
  .pure fun b w _ _ _ _ he => by simp [execOp, he.eval hx, Instr.extract]
theorem OpOk.ext40 {x : Operand} {a1 a2 a3 a4 : Value} (hx : ev E x = some (.tuple #[a1, a2, a3, a4])) : OpOk P n w0 (.extract x 0) ty E A a1 :=
  .pure fun b w _ _ _ _ he => by simp [execOp, he.eval hx, Instr.extract]
theorem OpOk.ext41 {x : Operand} {a1 a2 a3 a4 : Value} (hx : ev E x = some (.tuple #[a1, a2, a3, a4])) : OpOk P n w0 (.extract x 1) ty E A a2 :=
  .pure fun b w _ _ _ _ he => by simp [execOp, he.eval hx, Instr.extract]
theorem OpOk.ext42 {x : Operand} {a1 a2 a3 a4 : Value} (hx : ev E x = some (.tuple #[a1, a2, a3, a4])) : OpOk P n w0 (.extract x 2) ty E A a3 :=
  .pure fun b w _ _ _ _ he => by simp [execOp, he.eval hx, Instr.extract]
theorem OpOk.ext43 {x : Operand} {a1 a2 a3 a4 : Value} (hx : ev E x = some (.tuple #[a1, a2, a3, a4])) : OpOk P n w0 (.extract x 3) ty E A a4 :=
  .pure fun b w _ _ _ _ he => by simp [execOp, he.eval hx, Instr.extract]
theorem OpOk.extract {x : Operand} {j : Nat} {vs : Array Value} {v : Value} (hx : ev E x = some (.tuple vs)) (hv : vs[j]? = some v) : OpOk P n w0 (.extract x j) ty E A v :=
  .pure fun b w _ _ _ _ he => by simp [execOp, he.eval hx, Instr.extract, hv]
theorem OpOk.field {t : TypeId} {x : Operand} {j o ft : Nat} {cs : Array Value} {v : Value} {d : TypeDesc} (hf : FieldAt P t j o ft) (hd : P.underlying ft = some d) (ha : aggD d = false)
    (hx : ev E x = some (.agg cs)) (hv : cs[o]? = some v) : OpOk P n w0 (.field t x j) ty E A v :=
  .pure fun b w _ _ _ _ he => by
    obtain ⟨fs, fd, m, hu, hj, rfl, rfl, hz⟩ := hf.out
    simp only [execOp, he.eval hx, Instr.field, part, asAgg, Sem.run_bind, Sem.run_pure, Result.andThen_ok, underlying, hu, run_program, hj, run_isAgg w hd, ha, Bool.false_eq_true, if_false, hv]
/-- A piece of what can be read. -/
theorem Rd.cut {v : Value} {size m : Nat} {xs : List Value} (rd : Rd w0 A v size m xs) {i j cap : Nat} {ad : Option Addr} (hv : v = .slice ad m cap) (h1 : i ≤ j) (h2 : j ≤ m) :
    Rd w0 A (.slice (if cap = i then ad else ad.map (·.add (i * size))) (j - i) (cap - i)) size (j - i) ((xs.drop (i * size)).take ((j - i) * size)) := by
  obtain ⟨hl, hm, ad', cap', hv', hcap, hc⟩ := rd
  rw [hv] at hv'
  simp only [Value.slice.injEq, true_and] at hv'
  obtain ⟨rfl, rfl⟩ := hv'
  refine ⟨?_, by simp only [maxLen] at *; omega, _, _, rfl, by omega, fun h0 => ?_⟩
  · rw [List.length_take, List.length_drop, hl]
    have e1 : (j - i) * size = j * size - i * size := Nat.sub_mul ..
    have e2 : j * size ≤ m * size := Nat.mul_le_mul_right _ h2
    omega
  · obtain ⟨a, rfl, hc'⟩ := hc (by omega)
    rw [if_neg (by omega)]
    refine ⟨_, rfl, fun q u hq => ?_⟩
    have hq2 : xs[i * size + q]? = some u := by
      rw [List.getElem?_take] at hq
      split at hq
      · rwa [List.getElem?_drop] at hq
      · cases hq
    have := hc' _ _ hq2
    have e : (a.add (i * size)).add q = a.add (i * size + q) := by
      unfold Addr.add
      by_cases e1 : i * size = 0
      · simp [e1]
      · by_cases e2 : q = 0
        · simp [e1, e2]
        · simp [e1, e2, Nat.add_assoc]
    rw [e]
    exact this
/-- The piece from i to j. -/
def cutV (v : Value) (i j size : Nat) : Value :=
  match v with
  | .slice ad _ cap => .slice (if cap = i then ad else ad.map (·.add (i * size))) (j - i) (cap - i)
  | v => v
theorem Rd.cutV {v : Value} {size m : Nat} {xs : List Value} (rd : Rd w0 A v size m xs) {i j : Nat} (h1 : i ≤ j) (h2 : j ≤ m) :
    Rd w0 A (cutV v i j size) size (j - i) ((xs.drop (i * size)).take ((j - i) * size)) := by
  obtain ⟨ad, cap, rfl, hcap, _⟩ := rd.form
  exact rd.cut rfl h1 h2
theorem Rd.cutB {v : Value} {m : Nat} {bs : List UInt8} (rd : Rd w0 A v 1 m (B bs)) {i j : Nat} (h1 : i ≤ j) (h2 : j ≤ m) :
    Rd w0 A (Go.Proofs.Yteopadjihklkmaa.cutV v i j 1) 1 (j - i) (B ((bs.drop i).take (j - i))) := by
  have := rd.cutV h1 h2
  simp only [Nat.mul_one] at this
  rw [show B ((bs.drop i).take (j - i)) = ((B bs).drop i).take (j - i) by simp [B]]
  exact this
theorem Rd.cutB0 {v : Value} {m : Nat} {bs : List UInt8} (rd : Rd w0 A v 1 m (B bs)) {j : Nat} (h2 : j ≤ m) :
    Rd w0 A (Go.Proofs.Yteopadjihklkmaa.cutV v 0 j 1) 1 j (B (bs.take j)) := rd.cutB (Nat.zero_le _) h2
theorem OpOk.cut {t e : TypeId} {x : Operand} {lo hi : Option Operand} {v : Value} {size m i j : Nat} {xs : List Value} (hu : P.underlying t = some (.slice e)) {zz : Value} {bb : Nat} (hz : TyI P e zz size bb)
    (hx : ev E x = some v) (rd : Rd w0 A v size m xs) (hlo : match lo with | none => i = 0 | some o => ∃ q, ev E o = some (.int q i)) (hhi : match hi with | none => j = m | some o => ∃ q, ev E o = some (.int q j)) (h1 : i ≤ j) (h2 : j ≤ m) :
    OpOk P n w0 (.slice t x lo hi none) ty E A (cutV v i j size) := by
  obtain ⟨ad, cap, hv, hcap, _⟩ := rd.form
  obtain ⟨f, hf, hs⟩ := Option.map_eq_some_iff.1 hz.size
  subst hv
  refine .pure fun a w _ _ _ _ he => ?_
  have h3 : j ≤ cap := by omega
  cases lo with
  | none =>
    obtain rfl : i = 0 := hlo
    cases hi with
    | none =>
      obtain rfl : j = m := hhi
      simp [execOp, he.eval hx, Instr.sliceAt, Instr.slice, Instr.sliceBounds, underlying, hu, sizeOf, typeInfo, hf, Go.Proofs.Yteopadjihklkmaa.cutV]
    | some o =>
      obtain ⟨q, ho⟩ := hhi
      simp [execOp, he.eval hx, he.eval ho, Instr.sliceAt, Instr.slice, Instr.sliceBounds, Instr.sliceBound, asIntOf, underlying, hu, h3, sizeOf, typeInfo, hf, Go.Proofs.Yteopadjihklkmaa.cutV]
  | some p =>
    obtain ⟨q', hp⟩ := hlo
    cases hi with
    | none =>
      obtain rfl : j = m := hhi
      simp [execOp, he.eval hx, he.eval hp, Instr.sliceAt, Instr.slice, Instr.sliceBounds, Instr.sliceBound, asIntOf, underlying, hu, h1, sizeOf, typeInfo, hf, hs, Go.Proofs.Yteopadjihklkmaa.cutV]
    | some o =>
      obtain ⟨q, ho⟩ := hhi
      simp [execOp, he.eval hx, he.eval ho, he.eval hp, Instr.sliceAt, Instr.slice, Instr.sliceBounds, Instr.sliceBound, asIntOf, underlying, hu, h3, h1, sizeOf, typeInfo, hf, hs, Go.Proofs.Yteopadjihklkmaa.cutV]
theorem RunL.cut {d : Nat} {t e : TypeId} {ps : String} {af : Array Edge} {x : Operand} {lo hi : Option Operand} {v : Value} {size m i j : Nat} {xs : List Value} (hu : P.underlying t = some (.slice e)) {zz : Value} {bb : Nat} (hz : TyI P e zz size bb) (hd : Nat.blt d n = true)
    (hx : ev E x = some v) (rd : Rd w0 A v size m xs) (hlo : match lo with | none => i = 0 | some o => ∃ q, ev E o = some (.int q i)) (hhi : match hi with | none => j = m | some o => ∃ q, ev E o = some (.int q j)) (h1 : i ≤ j) (h2 : j ≤ m)
    (r : ∀ v', Rd w0 A v' size (j - i) ((xs.drop (i * size)).take ((j - i) * size)) → RunL P n w0 ops l K ((d, v') :: E) A) :
    RunL P n w0 ops ({ dst := some d, op := .slice t x lo hi none, type := ty, pos := ps, after := af, guard := none } :: l) K E A :=
  RunL.ok (OpOk.cut hu hz hx rd hlo hhi h1 h2) hd (r _ (rd.cutV h1 h2))
/-- string(b) -/
theorem OpOk.strOf {t s e : TypeId} {x : Operand} {v : Value} {m : Nat} {bs : List UInt8} (hu : P.underlying t = some (.slice e)) (he8 : P.underlying e = some (.int .u8)) (hs : P.underlying s = some .string) (hx : ev E x = some v) (rd : Rd w0 A v 1 m (B bs)) :
    OpOk P n w0 (.convert t s x) ty E A (S bs) :=
  .read fun a w _ _ _ _ he hsat => by
    obtain ⟨ad, cap, hv, hcap, ha⟩ := rd.form
    have hm : bs.length = m := by have := rd.len; rw [B_length] at this; omega
    rcases Nat.eq_zero_or_pos m with h0 | h0
    · have hb : bs = [] := List.eq_nil_of_length_eq_zero (by omega)
      subst hb h0
      cases ad with
      | none =>
        have := run_convert_bytes_nil (P := P) w t e hu he8 0 cap s hs
        simp only [execOp, he.eval hx, hv, Sem.run_bind, this]
        rfl
      | some a' =>
        rw [hv] at hx
        have h1 := run_convert_bytes_string (P := P) w t s e (some a') 0 cap hu he8 hs
        have h2 := run_bytesToString (P := P) w a' 0 cap [] (by simp [loadCells, loadCellsFrom])
        simp only [execOp, he.eval hx, Sem.run_bind, h1, h2]
        rfl
    · have ha := ha h0
      rw [hv, ha] at hx
      have hl : (loadCells (adr v) m).run P w = .ok ((bs.map fun c => (c.toNat : Int)).map (Value.int .u8)).toArray w := by
        have := run_loadCells_list (P := P) w (adr v) (B bs) (fun j u hj => (rd.cell hj).out w hsat)
        rw [B_length, hm] at this
        rw [this]
        simp [B, Function.comp_def]
      have h1 := run_convert_bytes_string (P := P) w t s e (some (adr v)) m cap hu he8 hs
      have h2 := run_bytesToString (P := P) w (adr v) m cap _ hl
      simp only [execOp, he.eval hx, Sem.run_bind, h1, h2, foldl_push_bytes]
      simp only [Result.andThen_ok, Sem.run_pure, S, ByteArray.empty, ByteArray.emptyWithCapacity]
      simp [Function.comp_def]
      rfl
end
end Go.Proofs.Yteopadjihklkmaa
