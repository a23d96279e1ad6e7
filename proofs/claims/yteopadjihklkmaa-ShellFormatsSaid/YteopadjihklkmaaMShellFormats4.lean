/- Part 4 of the proof of ShellFormats. -/
import Derived.Test.YteopadjihklkmaaMShellFormats3
import Derived.Test.YteopadjihklkmaaProg
section
namespace Go.Proofs.Yteopadjihklkmaa
open Go Go.Proofs
set_option maxRecDepth 100000
theorem ti3 : TyI Try.prog 3 (.int .i64 0) 1 8 := ⟨by rfl⟩
theorem ti5 : TyI Try.prog 5 (.int .u8 0) 1 1 := ⟨by rfl⟩
theorem ti36 : TyI Try.prog 36 (.int .i64 0) 1 8 := ⟨by rfl⟩
theorem ti63 : TyI Try.prog 63 (.slice none 0 0) 1 24 := ⟨by rfl⟩
theorem ti84 : TyI Try.prog 84 (.slice none 0 0) 1 24 := ⟨by rfl⟩
theorem ti86 : TyI Try.prog 86 (.agg #[.int .i64 0, .int .i64 0, .int .i64 0, .int .i64 0, .slice none 0 0]) 5 56 := ⟨by rfl⟩
theorem fld86_0 : FieldAt Try.prog 86 0 0 3 := ⟨_, _, _, by rfl, by rfl, by rfl, by rfl, by rfl⟩
theorem fld86_1 : FieldAt Try.prog 86 1 1 3 := ⟨_, _, _, by rfl, by rfl, by rfl, by rfl, by rfl⟩
theorem fld86_2 : FieldAt Try.prog 86 2 2 3 := ⟨_, _, _, by rfl, by rfl, by rfl, by rfl, by rfl⟩
theorem fld86_3 : FieldAt Try.prog 86 3 3 3 := ⟨_, _, _, by rfl, by rfl, by rfl, by rfl, by rfl⟩
theorem fld86_4 : FieldAt Try.prog 86 4 4 84 := ⟨_, _, _, by rfl, by rfl, by rfl, by rfl, by rfl⟩
theorem fld100_0 : FieldAt Try.prog 100 0 0 63 := ⟨_, _, _, by rfl, by rfl, by rfl, by rfl, by rfl⟩
theorem fld100_1 : FieldAt Try.prog 100 1 1 3 := ⟨_, _, _, by rfl, by rfl, by rfl, by rfl, by rfl⟩
theorem fld100_2 : FieldAt Try.prog 100 2 2 3 := ⟨_, _, _, by rfl, by rfl, by rfl, by rfl, by rfl⟩
theorem fld100_3 : FieldAt Try.prog 100 3 3 3 := ⟨_, _, _, by rfl, by rfl, by rfl, by rfl, by rfl⟩
theorem ti104 : TyI Try.prog 104 (.agg #[.int .i64 0, .slice none 0 0]) 2 32 := ⟨by rfl⟩
theorem fld104_0 : FieldAt Try.prog 104 0 0 3 := ⟨_, _, _, by rfl, by rfl, by rfl, by rfl, by rfl⟩
theorem fld104_1 : FieldAt Try.prog 104 1 1 63 := ⟨_, _, _, by rfl, by rfl, by rfl, by rfl, by rfl⟩
theorem ti111 : TyI Try.prog 111 (.agg #[.int .i64 0, .int .i64 0, .int .i64 0, .int .i64 0]) 4 32 := ⟨by rfl⟩
theorem fld111_0 : FieldAt Try.prog 111 0 0 45 := ⟨_, _, _, by rfl, by rfl, by rfl, by rfl, by rfl⟩
theorem fld111_1 : FieldAt Try.prog 111 1 1 3 := ⟨_, _, _, by rfl, by rfl, by rfl, by rfl, by rfl⟩
theorem fld111_2 : FieldAt Try.prog 111 2 2 3 := ⟨_, _, _, by rfl, by rfl, by rfl, by rfl, by rfl⟩
theorem fld111_3 : FieldAt Try.prog 111 3 3 3 := ⟨_, _, _, by rfl, by rfl, by rfl, by rfl, by rfl⟩
theorem fld177_0 : FieldAt Try.prog 177 0 0 175 := ⟨_, _, _, by rfl, by rfl, by rfl, by rfl, by rfl⟩
theorem fld177_1 : FieldAt Try.prog 177 1 512 3 := ⟨_, _, _, by rfl, by rfl, by rfl, by rfl, by rfl⟩
theorem fld203_0 : FieldAt Try.prog 203 0 0 63 := ⟨_, _, _, by rfl, by rfl, by rfl, by rfl, by rfl⟩
theorem fld203_1 : FieldAt Try.prog 203 1 1 3 := ⟨_, _, _, by rfl, by rfl, by rfl, by rfl, by rfl⟩
theorem fld203_2 : FieldAt Try.prog 203 2 2 36 := ⟨_, _, _, by rfl, by rfl, by rfl, by rfl, by rfl⟩
theorem ti205 : TyI Try.prog 205 (.agg #[.slice none 0 0, .int .i64 0]) 2 32 := ⟨by rfl⟩
theorem fld205_0 : FieldAt Try.prog 205 0 0 63 := ⟨_, _, _, by rfl, by rfl, by rfl, by rfl, by rfl⟩
theorem fld205_1 : FieldAt Try.prog 205 1 1 3 := ⟨_, _, _, by rfl, by rfl, by rfl, by rfl, by rfl⟩
theorem ti208 : TyI Try.prog 208 (.agg #[.int .i64 0, .int .i64 0]) 2 16 := ⟨by rfl⟩
theorem fld208_0 : FieldAt Try.prog 208 0 0 3 := ⟨_, _, _, by rfl, by rfl, by rfl, by rfl, by rfl⟩
theorem fld208_1 : FieldAt Try.prog 208 1 1 3 := ⟨_, _, _, by rfl, by rfl, by rfl, by rfl, by rfl⟩
theorem cal37 : Callee Try.prog 37 := ⟨_, Try.func37, by rfl, rfl⟩
theorem cal38 : Callee Try.prog 38 := ⟨_, Try.func38, by rfl, rfl⟩
theorem cal39 : Callee Try.prog 39 := ⟨_, Try.func39, by rfl, rfl⟩
theorem cal41 : Callee Try.prog 41 := ⟨_, Try.func41, by rfl, rfl⟩
theorem cal42 : Callee Try.prog 42 := ⟨_, Try.func42, by rfl, rfl⟩
theorem cal45 : Callee Try.prog 45 := ⟨_, Try.func45, by rfl, rfl⟩
theorem cal47 : Callee Try.prog 47 := ⟨_, Try.func47, by rfl, rfl⟩
theorem cal49 : Callee Try.prog 49 := ⟨_, Try.func49, by rfl, rfl⟩
theorem cal50 : Callee Try.prog 50 := ⟨_, Try.func50, by rfl, rfl⟩
theorem cal51 : Callee Try.prog 51 := ⟨_, Try.func51, by rfl, rfl⟩
theorem cal52 : Callee Try.prog 52 := ⟨_, Try.func52, by rfl, rfl⟩
theorem cal53 : Callee Try.prog 53 := ⟨_, Try.func53, by rfl, rfl⟩
theorem cal54 : Callee Try.prog 54 := ⟨_, Try.func54, by rfl, rfl⟩
theorem cal55 : Callee Try.prog 55 := ⟨_, Try.func55, by rfl, rfl⟩
theorem cal57 : Callee Try.prog 57 := ⟨_, Try.func57, by rfl, rfl⟩
theorem cal77 : Callee Try.prog 77 := ⟨_, Try.func77, by rfl, rfl⟩
theorem cal78 : Callee Try.prog 78 := ⟨_, Try.func78, by rfl, rfl⟩
theorem cal79 : Callee Try.prog 79 := ⟨_, Try.func79, by rfl, rfl⟩
theorem cal81 : Callee Try.prog 81 := ⟨_, Try.func81, by rfl, rfl⟩
theorem cal82 : Callee Try.prog 82 := ⟨_, Try.func82, by rfl, rfl⟩
theorem cal83 : Callee Try.prog 83 := ⟨_, Try.func83, by rfl, rfl⟩
theorem cal84 : Callee Try.prog 84 := ⟨_, Try.func84, by rfl, rfl⟩
theorem cal85 : Callee Try.prog 85 := ⟨_, Try.func85, by rfl, rfl⟩
theorem cal86 : Callee Try.prog 86 := ⟨_, Try.func86, by rfl, rfl⟩
theorem cal87 : Callee Try.prog 87 := ⟨_, Try.func87, by rfl, rfl⟩
theorem cal88 : Callee Try.prog 88 := ⟨_, Try.func88, by rfl, rfl⟩
theorem cal89 : Callee Try.prog 89 := ⟨_, Try.func89, by rfl, rfl⟩
theorem cal90 : Callee Try.prog 90 := ⟨_, Try.func90, by rfl, rfl⟩
theorem cal94 : Callee Try.prog 94 := ⟨_, Try.func94, by rfl, rfl⟩
theorem cal95 : Callee Try.prog 95 := ⟨_, Try.func95, by rfl, rfl⟩
theorem cal96 : Callee Try.prog 96 := ⟨_, Try.func96, by rfl, rfl⟩
theorem cal97 : Callee Try.prog 97 := ⟨_, Try.func97, by rfl, rfl⟩
theorem cal98 : Callee Try.prog 98 := ⟨_, Try.func98, by rfl, rfl⟩
theorem cal99 : Callee Try.prog 99 := ⟨_, Try.func99, by rfl, rfl⟩
theorem cal100 : Callee Try.prog 100 := ⟨_, Try.func100, by rfl, rfl⟩
theorem cal102 : Callee Try.prog 102 := ⟨_, Try.func102, by rfl, rfl⟩
theorem cal103 : Callee Try.prog 103 := ⟨_, Try.func103, by rfl, rfl⟩
theorem cal107 : Callee Try.prog 107 := ⟨_, Try.func107, by rfl, rfl⟩
theorem cal108 : Callee Try.prog 108 := ⟨_, Try.func108, by rfl, rfl⟩
theorem cal109 : Callee Try.prog 109 := ⟨_, Try.func109, by rfl, rfl⟩
theorem cal110 : Callee Try.prog 110 := ⟨_, Try.func110, by rfl, rfl⟩
theorem cal111 : Callee Try.prog 111 := ⟨_, Try.func111, by rfl, rfl⟩
theorem cal112 : Callee Try.prog 112 := ⟨_, Try.func112, by rfl, rfl⟩
theorem cal113 : Callee Try.prog 113 := ⟨_, Try.func113, by rfl, rfl⟩
theorem cal114 : Callee Try.prog 114 := ⟨_, Try.func114, by rfl, rfl⟩
theorem cal115 : Callee Try.prog 115 := ⟨_, Try.func115, by rfl, rfl⟩
theorem cal116 : Callee Try.prog 116 := ⟨_, Try.func116, by rfl, rfl⟩
theorem cal117 : Callee Try.prog 117 := ⟨_, Try.func117, by rfl, rfl⟩
end Go.Proofs.Yteopadjihklkmaa
end

section
namespace Go.Proofs.Yteopadjihklkmaa
open Go Go.Proofs
theorem frl {A R F X : Asn} (h : A = R * F) : A * X = R * X * F := by rw [h]; exact sep_last _ _ _
theorem frc {A R F T : Asn} (h : A = R * F) (k : R = T) : A = T * F := by rw [h, k]
theorem asg {Y A J X : Asn} (h : Y = A * J) : Y * X = A * (J * X) := by rw [h, sep_assoc]
theorem as0 {A : Asn} : A = A * emp := (sep_emp A).symm
theorem as1 {A X : Asn} : A * X = A * X := rfl
theorem Grew.of {A T T' : Asn} (h : A = T') (g : Grew T T') : Grew T A := h ▸ g
theorem lkI {E : Env} {t : Nat} {k : IntKind} {i j : Int} (h : lk E t = some (.int k i)) (e : i = j) : lk E t = some (.int k j) := e ▸ h
theorem Blk.right {w0 : World} {A C : Asn} {b : Nat} {cs : List Value} (h : Blk w0 C b cs) : Blk w0 (A * C) b cs := ⟨fun j u hj => (h.out j u hj).right⟩
theorem Blk.conv {w0 : World} {A C : Asn} {b : Nat} {cs : List Value} (h : Blk w0 A b cs) (e : A = C) : Blk w0 C b cs := e ▸ h
theorem Ent.ownNil' (A : Asn) (e : TypeId) (size : Nat) (xs : List Value) (h : [] = xs) : Ent A (A * own e size (.slice none 0 0) 0 xs) := h ▸ Ent.ownNil A e size
theorem ones {l : List Value} (h : l.all (·.oneCell') = true) : ∀ u ∈ l, u.oneCell' = true := List.all_eq_true.1 h
/-- Slots let go. -/
def dropE (ts : List Nat) : Env → Env
  | [] => []
  | (i, v) :: r => bif has ts i then dropE ts r else (i, v) :: dropE ts r
theorem dropE_not {ts : List Nat} {t : Nat} (h : has ts t = true) : ∀ E : Env, lk (dropE ts E) t = none
  | [] => rfl
  | (i, v) :: r => by
    simp only [dropE]
    cases hi : has ts i with
    | true => exact dropE_not h r
    | false =>
      simp only [cond_false, lk]
      cases hq : Nat.beq i t with
      | false => exact dropE_not h r
      | true => rw [Nat.eq_of_beq_eq_true hq, h] at hi; cases hi
theorem dropE_lk {ts : List Nat} {t : Nat} (h : has ts t = false) : ∀ E : Env, lk (dropE ts E) t = lk E t
  | [] => rfl
  | (i, v) :: r => by
    simp only [dropE]
    cases hi : has ts i with
    | true =>
      simp only [cond_true, lk]
      cases hq : Nat.beq i t with
      | false => exact dropE_lk h r
      | true => rw [Nat.eq_of_beq_eq_true hq, h] at hi; cases hi
    | false =>
      simp only [cond_false, lk]
      rw [dropE_lk h r]
theorem Run.drop {P : Program} {fid : Fid} {n : Nat} {R : Ending → World → Prop} {w0 : World} {k : List Item} {E : Env} {A : Asn} (ts : List Nat) (h : Run P fid n R w0 k (dropE ts E) A) : Run P fid n R w0 k E A :=
  ⟨fun a w he hs => h.out a w ⟨he.defers, he.size, fun t v hl => he.look t v (by
    cases ht : has ts t with
    | true => rw [dropE_not ht] at hl; cases hl
    | false => rwa [dropE_lk ht] at hl)⟩ hs⟩
section control
variable {P : Program} {fid : Fid} {n : Nat} {R : Ending → World → Prop} {w0 : World} {k : List Item} {E : Env} {A : Asn}
theorem Run.condNT {c : Operand} {x y : Code} {p : Prop} [Decidable p] (hc : ev E c = some (.bool (!decide p))) (hp : ¬ p) (ht : Run P fid n R w0 (.code x :: k) E A) : Run P fid n R w0 (.code (.cond c x y) :: k) E A :=
  Run.condN hc (fun _ => ht) (fun h => absurd h hp)
theorem Run.condNF {c : Operand} {x y : Code} {p : Prop} [Decidable p] (hc : ev E c = some (.bool (!decide p))) (hp : p) (ht : Run P fid n R w0 (.code y :: k) E A) : Run P fid n R w0 (.code (.cond c x y) :: k) E A :=
  Run.condN hc (fun h => absurd hp h) (fun _ => ht)
/-- To a place that is proved already: fewer slots, less memory. -/
theorem Run.jump {E' : Env} {A' : Asn} (h : Run P fid n R w0 k E' A') (s : Sub E' E) (g : Grew A' A) : Run P fid n R w0 k E A := Run.keep A' g (Run.env E' s h)
end control
section opers
variable {P : Program} {n : Nat} {w0 : World} {ops : Array Oper} {l : List Oper} {K : Act → World → Prop} {E : Env} {A : Asn} {ty : TypeId} {ps : String} {af : Array Edge}
theorem Ev.same {a : Act} {t : Nat} {v u : Value} (h : Ev n a E) (hb : lk E t = some v) (e : v = u) : Ev n a ((t, u) :: E) := by
  subst e
  refine ⟨h.defers, h.size, fun i w hi => ?_⟩
  simp only [lk] at hi
  cases hq : Nat.beq t i with
  | false => rw [hq] at hi; exact h.look i w hi
  | true =>
    rw [hq] at hi
    have := Nat.eq_of_beq_eq_true hq
    subst this
    simp at hi
    subst hi
    exact h.look t v hb
theorem RunL.splitB {t : Nat} {b : Bool} (hb : lk E t = some (.bool b)) (h1 : b = true → RunL P n w0 ops l K ((t, .bool true) :: E) A) (h2 : b = false → RunL P n w0 ops l K ((t, .bool false) :: E) A) : RunL P n w0 ops l K E A := by
  refine ⟨fun a w he hs => ?_⟩
  cases b with
  | true => exact (h1 rfl).out a w (he.same hb rfl) hs
  | false => exact (h2 rfl).out a w (he.same hb rfl) hs
theorem RunL.splitBF {t : Nat} {b : Bool} (hb : lk E t = some (.bool b)) (e : b = false) (h1 : RunL P n w0 ops l K ((t, .bool false) :: E) A) : RunL P n w0 ops l K E A := RunL.splitB hb (fun h => by rw [e] at h; cases h) (fun _ => h1)
theorem RunL.splitD {t : Nat} {p : Prop} [Decidable p] (hb : lk E t = some (.bool (decide p))) (h1 : p → RunL P n w0 ops l K ((t, .bool true) :: E) A) (h2 : ¬ p → RunL P n w0 ops l K ((t, .bool false) :: E) A) : RunL P n w0 ops l K E A :=
  RunL.splitB hb (fun e => h1 (of_decide_eq_true e)) (fun e => h2 (of_decide_eq_false e))
theorem RunL.splitN {t : Nat} {p : Prop} [Decidable p] (hb : lk E t = some (.bool (!decide p))) (h1 : ¬ p → RunL P n w0 ops l K ((t, .bool true) :: E) A) (h2 : p → RunL P n w0 ops l K ((t, .bool false) :: E) A) : RunL P n w0 ops l K E A :=
  RunL.splitB hb (fun e => h1 (by simpa using e)) (fun e => h2 (by simpa using e))
theorem RunL.splitNF {t : Nat} {p : Prop} [Decidable p] (hb : lk E t = some (.bool (!decide p))) (hp : p) (h1 : RunL P n w0 ops l K ((t, .bool false) :: E) A) : RunL P n w0 ops l K E A := RunL.splitN hb (fun h => absurd hp h) (fun _ => h1)
theorem I_cells (xs : List Int) : ∀ v ∈ I xs, v.cells = #[v] := by
  intro v hv
  simp only [I, List.mem_map] at hv
  obtain ⟨_, _, rfl⟩ := hv
  rfl
theorem B_cells1 (xs : List UInt8) : ∀ v ∈ B xs, v.cells = #[v] := by
  intro v hv
  simp only [B, List.mem_map] at hv
  obtain ⟨_, _, rfl⟩ := hv
  rfl
theorem RunL.litI {d : Nat} {t e : TypeId} {z : Value} {m : Nat} {parts : List (Nat × Operand)} {xs : List Int} (hu : P.underlying t = some (.slice e)) {bytes : Nat} (hi : TyI P e z 1 bytes) (hv : evParts E parts = some (I xs))
    (hp : places 0 parts = true) (hm : parts.length = m) (hlim : m ≤ 1048576) (hd : Nat.blt d n = true)
    (r : ∀ v, Rd w0 (A * own e 1 v m (I xs)) v 1 m (I xs) → RunL P n w0 ops l K ((d, v) :: E) (A * own e 1 v m (I xs))) :
    RunL P n w0 ops ({ dst := some d, op := .buildSlice t m parts.toArray, type := ty, pos := ps, after := af, guard := none } :: l) K E A := RunL.lits hu hi hv hp hm (I_cells xs) hlim hd r
theorem RunL.litB {d : Nat} {t e : TypeId} {z : Value} {m : Nat} {parts : List (Nat × Operand)} {xs : List UInt8} (hu : P.underlying t = some (.slice e)) {bytes : Nat} (hi : TyI P e z 1 bytes) (hv : evParts E parts = some (B xs))
    (hp : places 0 parts = true) (hm : parts.length = m) (hlim : m ≤ 1048576) (hd : Nat.blt d n = true)
    (r : ∀ v, Rd w0 (A * own e 1 v m (B xs)) v 1 m (B xs) → RunL P n w0 ops l K ((d, v) :: E) (A * own e 1 v m (B xs))) :
    RunL P n w0 ops ({ dst := some d, op := .buildSlice t m parts.toArray, type := ty, pos := ps, after := af, guard := none } :: l) K E A := RunL.lits hu hi hv hp hm (B_cells1 xs) hlim hd r
theorem RunL.appendI {d : Nat} {t e : TypeId} {x y : Operand} {v u : Value} {m c : Nat} {xs ys : List Int} {A1 : Asn} {ats : Array TypeId} {zz : Value} (hu : P.underlying t = some (.slice e))
    (hi : TyI P e zz 1 8) (hats : ats = #[t, t]) (hx : ev E x = some v) (hy : ev E y = some u) (hA : A = A1 * own e 1 v m (I xs)) (rd : Rd w0 A u 1 c (I ys)) (hlim : m + c ≤ 17592186044416) (hzs : zz.cells.size = 1) (hd : Nat.blt d n = true)
    (r : ∀ v', Rd w0 (A1 * own e 1 v' (m + c) (I (xs ++ ys))) v' 1 (m + c) (I (xs ++ ys)) → RunL P n w0 ops l K ((d, v') :: E) (A1 * own e 1 v' (m + c) (I (xs ++ ys)))) :
    RunL P n w0 ops ({ dst := some d, op := .call { callee := .builtin .append, args := #[x, y], argTypes := ats }, type := ty, pos := ps, after := af, guard := none } :: l) K E A := by
  refine RunL.append hu hi hats hx hy hA rd (I_one _) hzs (by decide) (by omega) (by simp only [maxLen]; omega) hd ?_
  rw [← I_append]
  exact r
/-- append to what is empty yet. -/
theorem RunL.appendB0 {d : Nat} {t e : TypeId} {x y : Operand} {v u : Value} {c : Nat} {ys : List UInt8} {A1 : Asn} {ats : Array TypeId} (hu : P.underlying t = some (.slice e))
    (hi : TyI P e (.int .u8 0) 1 1) (hats : ats = #[t, t]) (hx : ev E x = some v) (hy : ev E y = some u) (hA : A = A1 * own e 1 v 0 (B [])) (rd : Rd w0 A u 1 c (B ys)) (hlim : c ≤ 140737488355328) (hd : Nat.blt d n = true)
    (r : ∀ v', Rd w0 (A1 * own e 1 v' c (B ys)) v' 1 c (B ys) → RunL P n w0 ops l K ((d, v') :: E) (A1 * own e 1 v' c (B ys))) :
    RunL P n w0 ops ({ dst := some d, op := .call { callee := .builtin .append, args := #[x, y], argTypes := ats }, type := ty, pos := ps, after := af, guard := none } :: l) K E A := by
  refine RunL.appendB (m := 0) (xs := []) hu hi hats hx hy hA rd (by omega) hd ?_
  rw [Nat.zero_add, List.nil_append]
  exact r
theorem made_one (z : Value) (hz : z.cells = #[z]) (k : Nat) : (madeCells z.cells (k * 1)).toList = List.replicate k z := by
  apply List.ext_getElem?
  intro j
  rw [hz]
  rcases Nat.lt_or_ge j k with h | h
  · simp [madeCells, h, Nat.mod_one]
  · rw [List.getElem?_eq_none (by simp [size_madeCells]; exact h), List.getElem?_eq_none (by simp; exact h)]
theorem RunL.makeB {d : Nat} {t e : TypeId} {x y : Operand} {m : Nat} {q q' : IntKind} (hu : P.underlying t = some (.slice e)) (hi : TyI P e (.int .u8 0) 1 1)
    (hx : ev E x = some (.int q m)) (hy : ev E y = some (.int q' m)) (hlim : m ≤ 281474976710656) (hd : Nat.blt d n = true)
    (r : ∀ v', Rd w0 (A * own e 1 v' m (B (List.replicate m 0))) v' 1 m (B (List.replicate m 0)) → RunL P n w0 ops l K ((d, v') :: E) (A * own e 1 v' m (B (List.replicate m 0)))) :
    RunL P n w0 ops ({ dst := some d, op := .makeSlice t x y, type := ty, pos := ps, after := af, guard := none } :: l) K E A := by
  refine RunL.make hu hi hx hy (by omega) (by simp only [maxLen]; omega) hd ?_
  rw [made_one _ rfl, show List.replicate m (Value.int .u8 0) = B (List.replicate m 0) by simp [B]]
  exact r
/-- Things of more cells in a row. -/
def Fl {α : Type} (enc : α → List Value) (xs : List α) : List Value := xs.flatMap enc
theorem Fl_length {α : Type} {enc : α → List Value} {s : Nat} (h : ∀ x, (enc x).length = s) (xs : List α) : (Fl enc xs).length = xs.length * s := by
  induction xs with
  | nil => simp [Fl]
  | cons x r ih => simp only [Fl, List.flatMap_cons, List.length_append, List.length_cons] at *; rw [ih, h, Nat.succ_mul]; omega
theorem Fl_append {α : Type} {enc : α → List Value} (xs ys : List α) : Fl enc (xs ++ ys) = Fl enc xs ++ Fl enc ys := by simp [Fl]
theorem Fl_get {α : Type} {enc : α → List Value} {s : Nat} (h : ∀ x, (enc x).length = s) (d : α) : ∀ {xs : List α} {i : Nat}, i < xs.length → ∀ j u, (enc (xs.getD i d))[j]? = some u → (Fl enc xs)[i * s + j]? = some u
  | [], i, hi, _, _, _ => by simp at hi
  | x :: r, 0, _, j, u, hj => by
    have hl := (List.getElem?_eq_some_iff.1 hj).1
    simp only [Fl, List.flatMap_cons, Nat.zero_mul, Nat.zero_add]
    rw [List.getElem?_append_left (by simpa using hl)]
    simpa using hj
  | x :: r, i + 1, hi, j, u, hj => by
    have := Fl_get h d (xs := r) (i := i) (by simpa using hi) j u (by simpa using hj)
    simp only [Fl, List.flatMap_cons] at this ⊢
    rw [List.getElem?_append_right (by rw [h, Nat.succ_mul]; omega), h, show (i + 1) * s + j - s = i * s + j by rw [Nat.succ_mul]; omega]
    exact this
theorem OpOk.idxN {t e : TypeId} {x y : Operand} {v : Value} {size m : Nat} {xs : List Value} {q : IntKind} {i : Nat} (hu : P.underlying t = some (.slice e)) {zz : Value} {bb : Nat} (hz : TyI P e zz size bb) (hx : ev E x = some v) (rd : Rd w0 A v size m xs)
    (hy : ev E y = some (.int q ((i : Nat) : Int))) (h1 : i < m) : OpOk P n w0 (.indexAddr t x y) ty E A (.pointer (some ((adr v).add (i * size)))) :=
  OpOk.idx hu hz hx rd hy (Int.natCast_nonneg i) (by omega)
theorem OpOk.idx1N {t e : TypeId} {x y : Operand} {v : Value} {m : Nat} {xs : List Value} {q : IntKind} {i : Nat} (hu : P.underlying t = some (.slice e)) {zz : Value} {bb : Nat} (hz : TyI P e zz 1 bb) (hx : ev E x = some v) (rd : Rd w0 A v 1 m xs)
    (hy : ev E y = some (.int q ((i : Nat) : Int))) (h1 : i < m) : OpOk P n w0 (.indexAddr t x y) ty E A (.pointer (some ((adr v).add i))) :=
  OpOk.idx1 hu hz hx rd hy (Int.natCast_nonneg i) (by omega)
theorem Rd.getB {w0 : World} {A : Asn} {v : Value} {m : Nat} {xs : List UInt8} (rd : Rd w0 A v 1 m (B xs)) {j : Nat} (h : j < m) : Cell w0 A ((adr v).add j) (.int .u8 ((xs.getD j 0).toNat : Int)) :=
  rd.cell (B_get (by have := rd.len; rw [B_length] at this; omega))
theorem Rd.getI {w0 : World} {A : Asn} {v : Value} {m : Nat} {xs : List Int} (rd : Rd w0 A v 1 m (I xs)) {j : Nat} (h : j < m) : Cell w0 A ((adr v).add j) (.int .i64 (xs.getD j 0)) :=
  rd.cell (I_get (by have := rd.len; rw [I_length] at this; omega))
theorem Rd.getIE {w0 : World} {A : Asn} {v : Value} {m : Nat} {xs : List Int} {c : Int} {j : Nat} (he : xs.getD j 0 = c) (rd : Rd w0 A v 1 m (I xs)) (h : j < m) : Cell w0 A ((adr v).add j) (.int .i64 c) := he ▸ rd.getI h
theorem Rd.lenFl {α : Type} {enc : α → List Value} {w0 : World} {A : Asn} {v : Value} {size m : Nat} {ys : List α} (rd : Rd w0 A v size m (Fl enc ys)) (hs : ∀ y, (enc y).length = size) (h0 : 0 < size) : ys.length = m := by
  have := rd.len
  rw [Fl_length hs] at this
  exact Nat.eq_of_mul_eq_mul_right h0 this
section nat
variable {t u : TypeId} {x y : Operand} {i j : Int}
theorem OpOk.addN (a b : Nat) (hx : ev E x = some (.int .i64 i)) (hi : i = (a : Int)) (hy : ev E y = some (.int .i64 j)) (hj : j = (b : Int)) (h : a + b ≤ 9223372036854775807) : OpOk P n w0 (.binOp .add t x y u) ty E A (.int .i64 ((a + b : Nat) : Int)) := by
  subst hi hj; exact OpOk.add hx hy (by rw [wrapI (by omega) (by omega)]; omega)
theorem OpOk.subN (a b : Nat) (hx : ev E x = some (.int .i64 i)) (hi : i = (a : Int)) (hy : ev E y = some (.int .i64 j)) (hj : j = (b : Int)) (h : b ≤ a) (h2 : a ≤ 9223372036854775807) : OpOk P n w0 (.binOp .sub t x y u) ty E A (.int .i64 ((a - b : Nat) : Int)) := by
  subst hi hj; exact OpOk.sub hx hy (by rw [wrapI (by omega) (by omega)]; omega)
theorem OpOk.mulN (a b : Nat) (hx : ev E x = some (.int .i64 i)) (hi : i = (a : Int)) (hy : ev E y = some (.int .i64 j)) (hj : j = (b : Int)) (h : a * b ≤ 9223372036854775807) : OpOk P n w0 (.binOp .mul t x y u) ty E A (.int .i64 ((a * b : Nat) : Int)) := by
  subst hi hj; exact OpOk.mul hx hy (by rw [← Int.natCast_mul, wrapI (by omega) (by omega)])
theorem OpOk.quoN (a b : Nat) (hx : ev E x = some (.int .i64 i)) (hi : i = (a : Int)) (hy : ev E y = some (.int .i64 j)) (hj : j = (b : Int)) (h : 0 < b) (h2 : a ≤ 9223372036854775807) : OpOk P n w0 (.binOp .quo t x y u) ty E A (.int .i64 ((a / b : Nat) : Int)) := by
  subst hi hj
  refine OpOk.quo hx hy (by omega) ?_
  have e : (a : Int) / (b : Int) = ((a / b : Nat) : Int) := by simp
  have := Nat.div_le_self a b
  rw [tdivI (Int.natCast_nonneg a), e]
  generalize a / b = q at *
  exact wrapI (by omega) (by omega)
theorem OpOk.remN (a b : Nat) (hx : ev E x = some (.int .i64 i)) (hi : i = (a : Int)) (hy : ev E y = some (.int .i64 j)) (hj : j = (b : Int)) (h : 0 < b) : OpOk P n w0 (.binOp .rem t x y u) ty E A (.int .i64 ((a % b : Nat) : Int)) := by
  subst hi hj
  exact OpOk.rem hx hy (by omega) (by rw [tmodI (Int.natCast_nonneg a)]; simp)
theorem OpOk.shrN {q : IntKind} (a s : Nat) (hx : ev E x = some (.int .i64 i)) (hi : i = (a : Int)) (hy : ev E y = some (.int q j)) (hj : j = (s : Int)) (h : s ≤ 64) : OpOk P n w0 (.binOp .shr t x y u) ty E A (.int .i64 ((a / 2 ^ s : Nat) : Int)) := by
  subst hi hj
  refine OpOk.shr hx hy (Int.natCast_nonneg s) ?_
  rw [Int.toNat_natCast, show min s IntKind.i64.bits = s from Nat.min_eq_left (by simpa [IntKind.bits] using h)]
  simp
theorem OpOk.shlN {q : IntKind} (a s : Nat) (hx : ev E x = some (.int .i64 i)) (hi : i = (a : Int)) (hy : ev E y = some (.int q j)) (hj : j = (s : Int)) (h : s ≤ 64) (h2 : a * 2 ^ s ≤ 9223372036854775807) : OpOk P n w0 (.binOp .shl t x y u) ty E A (.int .i64 ((a * 2 ^ s : Nat) : Int)) := by
  subst hi hj
  refine OpOk.shl hx hy (Int.natCast_nonneg s) ?_
  rw [Int.toNat_natCast, show min s IntKind.i64.bits = s from Nat.min_eq_left (by simpa [IntKind.bits] using h)]
  have e : (a : Int) * 2 ^ s = ((a * 2 ^ s : Nat) : Int) := by simp
  rw [e]
  generalize a * 2 ^ s = z at *
  exact wrapI (by omega) (by omega)
theorem or_oneN {x b : Nat} (h : x < 2 ^ 62) (hb : b < 2) : IntKind.i64.wrap ((BitVec.ofInt IntKind.i64.bits ((x * 2 ^ 1 : Nat) : Int) ||| BitVec.ofInt IntKind.i64.bits (b : Int)).toNat : Int) = ((2 * x + b : Nat) : Int) := by
  show IntKind.i64.wrap ((BitVec.ofInt 64 ((x * 2 ^ 1 : Nat) : Int) ||| BitVec.ofInt 64 (b : Int)).toNat : Int) = _
  rw [BitVec.ofInt_natCast, BitVec.ofInt_natCast, BitVec.toNat_or, BitVec.toNat_ofNat, BitVec.toNat_ofNat, Nat.mod_eq_of_lt (by omega), Nat.mod_eq_of_lt (by omega), Nat.mul_comm x, ← Nat.two_pow_add_eq_or_of_lt (i := 1) (by omega)]
  exact wrapI (by omega) (by omega)
theorem and_oneN {x : Nat} (h : x < 2 ^ 63) : IntKind.i64.wrap ((BitVec.ofInt IntKind.i64.bits (x : Int) &&& BitVec.ofInt IntKind.i64.bits 1).toNat : Int) = ((x % 2 : Nat) : Int) := by
  show IntKind.i64.wrap ((BitVec.ofInt 64 (x : Int) &&& BitVec.ofInt 64 ((1 : Nat) : Int)).toNat : Int) = _
  rw [BitVec.ofInt_natCast, BitVec.ofInt_natCast, BitVec.toNat_and, BitVec.toNat_ofNat, BitVec.toNat_ofNat, Nat.mod_eq_of_lt (by omega), Nat.mod_eq_of_lt (by omega), Nat.and_one_is_mod]
  exact wrapI (by omega) (by omega)
theorem OpOk.and1N (a : Nat) (hx : ev E x = some (.int .i64 i)) (hi : i = (a : Int)) (hy : ev E y = some (.int .i64 1)) (h : a < 9223372036854775808) : OpOk P n w0 (.binOp .and t x y u) ty E A (.int .i64 ((a % 2 : Nat) : Int)) := by
  subst hi; exact OpOk.and hx hy (and_oneN h)
end nat
/-- A literal of things of more cells. -/
theorem RunL.litFl {α : Type} {enc : α → List Value} {d : Nat} {t e : TypeId} {z : Value} {m size : Nat} {parts : List (Nat × Operand)} (ys : List α) (hu : P.underlying t = some (.slice e)) {bytes : Nat} (hi : TyI P e z size bytes) (hv : evParts E parts = some (ys.map fun y => Value.agg (enc y).toArray))
    (hs : ∀ y, (enc y).length = size) (hp : places 0 parts = true) (hm : parts.length = m) (hlim : m * size ≤ 16777216) (hm0 : m ≤ 1048576) (hd : Nat.blt d n = true)
    (r : ∀ v, Rd w0 (A * own e size v m (Fl enc ys)) v size m (Fl enc ys) → RunL P n w0 ops l K ((d, v) :: E) (A * own e size v m (Fl enc ys))) :
    RunL P n w0 ops ({ dst := some d, op := .buildSlice t m parts.toArray, type := ty, pos := ps, after := af, guard := none } :: l) K E A := by
  have e : ∀ ys : List α, ((ys.map fun y => Value.agg (enc y).toArray).flatMap fun v => v.cells.toList) = Fl enc ys := by
    intro ys
    induction ys with
    | nil => rfl
    | cons y r ih2 =>
      rw [List.map_cons, List.flatMap_cons, ih2]
      rfl
  refine RunL.lit hu hi hv hp hm (fun v hv => ?_) hlim (by simp only [maxLen]; omega) hd ?_
  · obtain ⟨y, _, rfl⟩ := List.mem_map.1 hv
    simp [Value.cells, hs]
  · rw [e]
    exact r
/-- A thing in a row of them, and a part of it. -/
theorem OpOk.loadFl {α : Type} {enc : α → List Value} {t : TypeId} {d : TypeDesc} {x : Operand} {v : Value} {i m size : Nat} {ys : List α} (z : α) (hu : P.underlying t = some d) (hd : aggD d = true) {zz : Value} {bb : Nat} (hz : TyI P t zz size bb) (hx : ev E x = some (.pointer (some ((adr v).add (i * size)))))
    (rd : Rd w0 A v size m (Fl enc ys)) (hs : ∀ y, (enc y).length = size) (h0 : Nat.ble 1 size = true) (hi : i < m) : OpOk P n w0 (.load t x) ty E A (.agg (enc (ys.getD i z)).toArray) :=
  OpOk.loadR hu hd hz hx rd (hs _) (Fl_get hs z (by rw [rd.lenFl hs (Nat.le_of_ble_eq_true h0)]; exact hi))
theorem OpOk.loadFlE {α : Type} {enc : α → List Value} {t : TypeId} {d : TypeDesc} {x : Operand} {v : Value} {i m size : Nat} {ys : List α} {z y : α} (he : ys.getD i z = y) (hu : P.underlying t = some d) (hd : aggD d = true) {zz : Value} {bb : Nat} (hz : TyI P t zz size bb) (hx : ev E x = some (.pointer (some ((adr v).add (i * size)))))
    (rd : Rd w0 A v size m (Fl enc ys)) (hs : ∀ y, (enc y).length = size) (h0 : Nat.ble 1 size = true) (hi : i < m) : OpOk P n w0 (.load t x) ty E A (.agg (enc y).toArray) :=
  he ▸ OpOk.loadFl z hu hd hz hx rd hs h0 hi
theorem OpOk.loadFl1 {α : Type} {enc : α → List Value} {t : TypeId} {d : TypeDesc} {x : Operand} {v u : Value} {i j m size : Nat} {ys : List α} (z : α) (hu : P.underlying t = some d) (hd : aggD d = false) (hx : ev E x = some (.pointer (some ((adr v).add (i * size + j)))))
    (rd : Rd w0 A v size m (Fl enc ys)) (hs : ∀ y, (enc y).length = size) (h0 : Nat.ble 1 size = true) (hi : i < m) (hj : (enc (ys.getD i z))[j]? = some u) : OpOk P n w0 (.load t x) ty E A u :=
  OpOk.load hu hd hx (Rd.cell rd (Fl_get hs z (by rw [rd.lenFl hs (Nat.le_of_ble_eq_true h0)]; exact hi) j u hj))
end opers
end Go.Proofs.Yteopadjihklkmaa
end
