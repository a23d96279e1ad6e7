/- Part 5 of the proof of ShellFormats. -/
import Derived.Test.YteopadjihklkmaaMShellFormats4
import Derived.Laws.Strings2
import Derived.Laws.Strings3
import Derived.Laws.Pointers
section
namespace Go.Proofs.Yteopadjihklkmaa
open Go Go.Proofs
theorem ba_eq (xs ys : List UInt8) : (ByteArray.mk xs.toArray = ByteArray.mk ys.toArray) ↔ xs = ys := by
  constructor
  · intro h
    have := congrArg (fun b => b.data.toList) h
    simpa using this
  · rintro rfl; rfl
section
variable {P : Program} {n : Nat} {w0 : World} {ops : Array Oper} {l : List Oper} {K : Act → World → Prop} {E : Env} {A : Asn} {ty : TypeId}
variable {t u : TypeId} {x y : Operand} {xs ys : List UInt8}
theorem OpOk.eqlSS (hx : ev E x = some (S xs)) (hy : ev E y = some (S ys)) : OpOk P n w0 (.binOp .eql t x y u) ty E A (.bool (decide (xs = ys))) := by
  have := OpOk.eqlS (P := P) (n := n) (w0 := w0) (A := A) (ty := ty) (t := t) (u := u) hx hy
  rwa [show decide (ByteArray.mk xs.toArray = ByteArray.mk ys.toArray) = decide (xs = ys) from decide_eq_decide.2 (ba_eq xs ys)] at this
theorem OpOk.neqSS (hx : ev E x = some (S xs)) (hy : ev E y = some (S ys)) : OpOk P n w0 (.binOp .neq t x y u) ty E A (.bool (!decide (xs = ys))) := by
  have := OpOk.neqS (P := P) (n := n) (w0 := w0) (A := A) (ty := ty) (t := t) (u := u) hx hy
  rwa [show decide (ByteArray.mk xs.toArray = ByteArray.mk ys.toArray) = decide (xs = ys) from decide_eq_decide.2 (ba_eq xs ys)] at this
end
end Go.Proofs.Yteopadjihklkmaa
namespace Go.Proofs.Yteopadjihklkmaa
open Go Go.Proofs
section
variable {P : Program} {n : Nat} {w0 : World} {ops : Array Oper} {l : List Oper} {K : Act → World → Prop} {E : Env} {A : Asn} {ty : TypeId}
variable {t u : TypeId} {x y : Operand} {i j : Int}
end
end Go.Proofs.Yteopadjihklkmaa
namespace Go.Proofs.Yteopadjihklkmaa
open Go Go.Proofs
section
variable {P : Program} {n : Nat} {w0 : World} {E : Env} {A : Asn} {ty : TypeId} {t u : TypeId} {x : Operand} {p : Option Addr}
theorem OpOk.eqlPN (hu : P.underlying t = some (.pointer (P.pointee t))) (hx : ev E x = some (.pointer p)) : OpOk P n w0 (.binOp .eql t x (.const (.pointer none)) u) ty E A (.bool p.isNone) :=
  .pure fun a w _ _ _ _ he => by
    have e : a.eval (.const (.pointer none)) = .pointer none := rfl
    have h := run_equal_pointer_nil (P := P) w t p hu
    simp [execOp, he.eval hx, e, eqGuard, binOp, h]
end
end Go.Proofs.Yteopadjihklkmaa
namespace Go.Proofs.Yteopadjihklkmaa
open Go Go.Proofs
section
variable {P : Program} {n : Nat} {w0 : World} {ops : Array Oper} {tail : List Nat} {E : Env} {A : Asn} {K : Act → World → Prop} {known : List (Nat × Value)} {Pk L : Asn} {j : Nat}
theorem St.splitB {b : Bool} (h1 : b = true → St P n w0 ops tail E A K ((j, .bool true) :: known) Pk L) (h2 : b = false → St P n w0 ops tail E A K ((j, .bool false) :: known) Pk L) : St P n w0 ops tail E A K ((j, .bool b) :: known) Pk L := by
  cases b with
  | true => exact h1 rfl
  | false => exact h2 rfl
theorem St.splitBF {b : Bool} (e : b = false) (h1 : St P n w0 ops tail E A K ((j, .bool false) :: known) Pk L) : St P n w0 ops tail E A K ((j, .bool b) :: known) Pk L := e ▸ h1
theorem St.splitD {p : Prop} [Decidable p] (h1 : p → St P n w0 ops tail E A K ((j, .bool true) :: known) Pk L) (h2 : ¬ p → St P n w0 ops tail E A K ((j, .bool false) :: known) Pk L) : St P n w0 ops tail E A K ((j, .bool (decide p)) :: known) Pk L :=
  St.splitB (fun e => h1 (of_decide_eq_true e)) (fun e => h2 (of_decide_eq_false e))
theorem St.splitN {p : Prop} [Decidable p] (h1 : ¬ p → St P n w0 ops tail E A K ((j, .bool true) :: known) Pk L) (h2 : p → St P n w0 ops tail E A K ((j, .bool false) :: known) Pk L) : St P n w0 ops tail E A K ((j, .bool (!decide p)) :: known) Pk L :=
  St.splitB (fun e => h1 (by simpa using e)) (fun e => h2 (by simpa using e))
theorem flS {B P F X : Asn} (h : B * P = F) : B * (P * X) = F * X := by rw [← sep_assoc, h]
theorem fl2 {A P L F G : Asn} (h1 : A * P = F) (h2 : F * L = G) : A * P * L = G := by rw [h1, h2]
theorem gp2 {X B L A P : Asn} (h2 : X = B * L) (h1 : B = A * P) : X = A * P * L := by rw [h2, h1]
/-- One operation that all the others wait for, walked like any other. -/
theorem St.exec (c : Nat) {d : Nat} {op : Op} {ty : TypeId} {ps : String} {af : Array Edge} {g : Option (Nat × Bool)}
    (hi : ops[c]? = some { dst := some d, op, type := ty, pos := ps, after := af, guard := g }) (hn : vof known c = none) (hm : met ops known { dst := some d, op, type := ty, pos := ps, after := af, guard := g } = some true) (ht : has tail c = false)
    (hrest : (List.range ops.size).all (fun i => (vof known i).isSome || has [c] i || [c].any fun c => reach (befs ops.toList []) c i) = true) (hd : Nat.blt d n = true)
    (h : ∀ K' : Act → World → Prop, (∀ v P' L', St P n w0 ops tail E A K ((c, v) :: known) P' L' → (∃ N, P' = Pk * N) → RunL P n w0 #[] [] K' ((d, v) :: (depE ops known { dst := some d, op, type := ty, pos := ps, after := af, guard := g } ++ E)) (A * P' * L')) →
      RunL P n w0 #[] [{ dst := some d, op, type := ty, pos := ps, after := af, guard := none }] K' (depE ops known { dst := some d, op, type := ty, pos := ps, after := af, guard := g } ++ E) (A * Pk * L)) : St P n w0 ops tail E A K known Pk L :=
  St.chain c _ (fun v P' L' => St P n w0 ops tail E A K ((c, v) :: known) P' L' ∧ ∃ N, P' = Pk * N) hi hn hm ht hrest (COp.of (ops := #[]) hd fun K' hK => h K' fun v P' L' st hN => hK v P' L' ⟨st, hN⟩) (fun _ _ _ hR => hR.1) (fun _ _ _ hR => hR.2)
theorem St.ret {K' : Act → World → Prop} {E' : Env} {c d : Nat} (hK : ∀ v P' L', St P n w0 ops tail E A K ((c, v) :: known) P' L' → (∃ N, P' = Pk * N) → RunL P n w0 #[] [] K' ((d, v) :: E') (A * P' * L'))
    {v : Value} {A1 P' L' : Asn} (hA : A1 = A * P' * L') (hP : ∃ N, P' = Pk * N) (st : St P n w0 ops tail E A K ((c, v) :: known) P' L') : RunL P n w0 #[] [] K' ((d, v) :: E') A1 := by
  subst hA
  exact hK v P' L' st hP
end
/-- Records of cells that are one cell wide each. -/
class OneC {α : Type} (enc : α → List Value) : Prop where
  one : ∀ a, ∀ u ∈ enc a, u.oneCell' = true
theorem Fl_one {α : Type} {enc : α → List Value} [h : OneC enc] (xs : List α) : ∀ u ∈ Fl enc xs, u.oneCell' = true := by
  intro u hu
  obtain ⟨a, _, ha⟩ := List.mem_flatMap.1 hu
  exact h.one a u ha
theorem RunL.appendF {P : Program} {n : Nat} {w0 : World} {ops : Array Oper} {l : List Oper} {K : Act → World → Prop} {E : Env} {A : Asn} {ty : TypeId} {ps : String} {af : Array Edge} {α : Type} {enc : α → List Value} [OneC enc] {d : Nat} {t e : TypeId} {x y : Operand} {v u : Value} {m c size bytes : Nat} {xs ys : List α} {z : Value} {A1 : Asn} {ats : Array TypeId} (hu : P.underlying t = some (.slice e))
    (hi : TyI P e z size bytes) (hats : ats = #[t, t]) (hx : ev E x = some v) (hy : ev E y = some u) (hA : A = A1 * own e size v m (Fl enc xs)) (rd : Rd w0 A u size c (Fl enc ys))
    (hzs : z.cells.size = size) (hsz : 0 < size) (hlim : (m + c) * bytes ≤ 140737488355328) (hlim2 : m + c ≤ maxLen) (hd : Nat.blt d n = true)
    (r : ∀ v', Rd w0 (A1 * own e size v' (m + c) (Fl enc (xs ++ ys))) v' size (m + c) (Fl enc (xs ++ ys)) → RunL P n w0 ops l K ((d, v') :: E) (A1 * own e size v' (m + c) (Fl enc (xs ++ ys)))) :
    RunL P n w0 ops ({ dst := some d, op := .call { callee := .builtin .append, args := #[x, y], argTypes := ats }, type := ty, pos := ps, after := af, guard := none } :: l) K E A := by
  refine RunL.append hu hi hats hx hy hA rd (Fl_one _) hzs hsz hlim hlim2 hd ?_
  rw [← Fl_append]
  exact r
theorem RunL.appendF0 {P : Program} {n : Nat} {w0 : World} {ops : Array Oper} {l : List Oper} {K : Act → World → Prop} {E : Env} {A : Asn} {ty : TypeId} {ps : String} {af : Array Edge} {α : Type} {enc : α → List Value} [OneC enc] {d : Nat} {t e : TypeId} {x y : Operand} {v u : Value} {c size bytes : Nat} {ys : List α} {z : Value} {A1 : Asn} {ats : Array TypeId} (hu : P.underlying t = some (.slice e))
    (hi : TyI P e z size bytes) (hats : ats = #[t, t]) (hx : ev E x = some v) (hy : ev E y = some u) (hA : A = A1 * own e size v 0 []) (rd : Rd w0 A u size c (Fl enc ys))
    (hzs : z.cells.size = size) (hsz : 0 < size) (hlim : c * bytes ≤ 140737488355328) (hlim2 : c ≤ maxLen) (hd : Nat.blt d n = true)
    (r : ∀ v', Rd w0 (A1 * own e size v' c (Fl enc ys)) v' size c (Fl enc ys) → RunL P n w0 ops l K ((d, v') :: E) (A1 * own e size v' c (Fl enc ys))) :
    RunL P n w0 ops ({ dst := some d, op := .call { callee := .builtin .append, args := #[x, y], argTypes := ats }, type := ty, pos := ps, after := af, guard := none } :: l) K E A := by
  refine RunL.appendF (m := 0) (xs := []) hu hi hats hx hy hA rd hzs hsz (by rwa [Nat.zero_add]) (by rwa [Nat.zero_add]) hd ?_
  rw [Nat.zero_add, List.nil_append]
  exact r
/-- A drawn region that changes a part of the memory. -/
theorem Run.drawL {P : Program} {n : Nat} {w0 : World} {E : Env} {fid : Fid} {R : Ending → World → Prop} {k : List Item} {id : Nat} {l : List Oper} {A1 A L : Asn} (tail : List Nat) (hmix : P.follows .mixedOrders = true) (hA : A1 = A * L) (hchk : chk l tail (E.map (·.1)) n = true)
    (h : St P n w0 l.toArray tail E A (Runs P fid R k) [] emp L) (hd : (fid.ro.isNone || noDefer l.toArray) = true := by rfl) : Run P fid n R w0 (.code (.region id l.toArray true) :: k) E A1 := by
  subst hA
  refine ⟨fun a w he hs => Runs.regionD hd fun t => ?_⟩
  have hw : wpOps P l.toArray (Qk (Runs P fid R k)) (Region.schedule (P.follows .mixedOrders) l.toArray t) a { w with drawn := w.drawn + 1 } := by
    rw [hmix]
    unfold Region.schedule
    simp only [Bool.true_or, if_true]
    obtain ⟨ol, hl, hok⟩ := lin_ok l.toArray l.toArray.size t (Array.replicate l.toArray.size false) [] (by simp)
    unfold Region.linearise
    rw [hl]
    simp only [List.reverse_nil, List.nil_append]
    have hnl : ∀ i, ¬ lis (Array.replicate l.toArray.size false) i := by
      intro i hi
      unfold lis at hi
      have := Array.getElem?_eq_some_iff.1 hi
      simp at this
    refine draw_sound (Shape.of_chk hchk) _ _ _ hok (by simp) [] emp L a _ ⟨by simp, he, ?_, ?_, ?_, ?_⟩ h
    · have := hs.drawnN (w.drawn + 1)
      exact this.conv (by rw [sep_emp])
    · intro i v hv; simp [vof] at hv
    · intro i hi; exact absurd hi (hnl i)
    · intro i o hi; exact absurd hi (hnl i)
  exact hw
end Go.Proofs.Yteopadjihklkmaa
end

section
namespace Go.Proofs.Yteopadjihklkmaa
open Go
set_option linter.unusedSimpArgs false
set_option linter.unusedVariables false
abbrev Dl := List (Nat × (Value → Asn))
/-- What the early ones have made. -/
def early (ea : Nat → Option Value) : Dl → Asn
  | [] => emp
  | (i, F) :: r => (match ea i with | some v => F v | none => emp) * early ea r
def keysD (dl : Dl) : List Nat := dl.map (·.1)
/-- A pure one whose value hangs on an early one's: which, on which, how; what is known of the early one's value. -/
abbrev Lk := List (Nat × Nat × (Value → Value) × (Value → Prop))
def keysK (lk : Lk) : List Nat := lk.map (·.1)
def seta (ea : Nat → Option Value) (i : Nat) (v : Value) : Nat → Option Value := fun j => if j = i then some v else ea j
theorem early_other {ea : Nat → Option Value} {i : Nat} {v : Value} : ∀ {dl : Dl}, i ∉ keysD dl → early (seta ea i v) dl = early ea dl
  | [], _ => rfl
  | (j, F) :: r, h => by
    simp only [keysD, List.map_cons, List.mem_cons, not_or] at h
    have hj : seta ea i v j = ea j := by unfold seta; rw [if_neg (fun e => h.1 e.symm)]
    simp only [early, hj]
    rw [early_other (by simpa [keysD] using h.2)]
theorem early_set {ea : Nat → Option Value} {i : Nat} {v : Value} {F : Value → Asn} : ∀ {dl : Dl}, (keysD dl).Nodup → (i, F) ∈ dl → ea i = none → early (seta ea i v) dl = F v * early ea dl
  | (j, G) :: r, hn, hm, he => by
    simp only [keysD, List.map_cons, List.nodup_cons] at hn
    rcases List.mem_cons.1 hm with h | h
    · cases h
      have hs : seta ea i v i = some v := by unfold seta; rw [if_pos rfl]
      simp only [early, hs, he]
      rw [early_other (by simpa [keysD] using hn.1), emp_sep]
    · have hne : j ≠ i := by
        rintro rfl
        exact hn.1 (List.mem_map.2 ⟨(j, F), h, rfl⟩)
      have hj : seta ea i v j = ea j := by unfold seta; rw [if_neg hne]
      simp only [early, hj]
      rw [early_set (by simpa [keysD] using hn.2) h he]
      ac_rfl
section
variable (P : Program) (n : Nat) (w0 : World) (ops : Array Oper) (tail : List Nat) (E : Env) (A : Asn)
/-- The operation makes F of its value, whatever else there is. -/
structure AOp (o : Oper) (E : Env) (B : Asn) (F : Value → Asn) : Prop where
  out : ∀ a w X K Q, Ev n a E → Sat w0 w (B * X) → (∀ v w', Sat w0 w' (B * F v * X) → K (a.put o.dst v) w') → o.wp P a w K Q
inductive Sd (K : Act → World → Prop) : List (Nat × Value) → Asn → Asn → Dl → Lk → Prop
  | quiet {known : List (Nat × Value)} {Pk L : Asn} {dl : Dl} {lk : Lk} (i : Nat) (o : Oper) (v : Value) (hi : ops[i]? = some o) (hn : vof known i = none) (hd : has (keysD dl ++ keysK lk) i = false) (hm : met ops known o = some true) (ht : has tail i = false)
      (h : QOp P n w0 o (depE ops known o ++ E) (A * Pk) v) (k : Sd K ((i, v) :: known) Pk L dl lk) : Sd K known Pk L dl lk
  | skip {known : List (Nat × Value)} {Pk L : Asn} {dl : Dl} {lk : Lk} (i : Nat) (o : Oper) (hi : ops[i]? = some o) (hn : vof known i = none) (hd : has (keysD dl ++ keysK lk) i = false) (hm : met ops known o = some false) (ht : has tail i = false)
      (k : Sd K ((i, undef) :: known) Pk L dl lk) : Sd K known Pk L dl lk
  | decl {known : List (Nat × Value)} {Pk L : Asn} {dl : Dl} {lk : Lk} (i : Nat) (o : Oper) (F : Value → Asn) (hi : ops[i]? = some o) (hn : vof known i = none) (hd : has (keysD dl ++ keysK lk) i = false) (hm : met ops known o = some true) (ht : has tail i = false)
      (h : AOp P n w0 o (depE ops known o ++ E) (A * Pk) F) (k : Sd K known Pk L ((i, F) :: dl) lk) : Sd K known Pk L dl lk
  | take {known : List (Nat × Value)} {Pk L : Asn} {dl : Dl} {lk : Lk} (i : Nat) (F : Value → Asn)
      (hrest : (List.range ops.size).all (fun j => (vof known j).isSome || has (i :: (keysD dl ++ keysK lk)) j || reach (befs ops.toList []) i j) = true)
      (k : ∀ v, (∃ w X, Sat w0 w (X * F v)) → Sd K ((i, v) :: known) (Pk * F v) L dl lk) : Sd K known Pk L ((i, F) :: dl) lk
  | chain {known : List (Nat × Value)} {Pk L : Asn} {dl : Dl} {lk : Lk} (c : Nat) (o : Oper) (R : Value → Asn → Asn → Prop) (hi : ops[c]? = some o) (hn : vof known c = none) (hd : has (keysD dl ++ keysK lk) c = false) (hm : met ops known o = some true) (ht : has tail c = false)
      (hrest : (List.range ops.size).all (fun j => (vof known j).isSome || has (c :: (keysD dl ++ keysK lk)) j || reach (befs ops.toList []) c j) = true)
      (h : ∀ X, COp P n w0 (A * X) o (depE ops known o ++ E) (A * X * Pk * L) R) (k : ∀ v P' L', R v P' L' → Sd K ((c, v) :: known) P' L' dl lk) (hP : ∀ v P' L', R v P' L' → ∃ N, P' = Pk * N) : Sd K known Pk L dl lk
  | tail {known : List (Nat × Value)} {Pk L : Asn}
      (hall : (List.range ops.size).all (fun i => (vof known i).isSome || has tail i) = true)
      (h : RunL P n w0 ops (tail.filterMap fun i => ops[i]?) K (allE ops known ++ E) (A * Pk * L)) : Sd K known Pk L [] []
  | link {known : List (Nat × Value)} {Pk L : Asn} {dl : Dl} {lk : Lk} (i j : Nat) (F : Value → Asn) (o : Oper) (f : Value → Value) (hj : (j, F) ∈ dl) (hi : ops[i]? = some o) (hn : vof known i = none) (hd : has (keysD dl ++ keysK lk) i = false) (hm : ∀ u, met ops ((j, u) :: known) o = some true) (ht : has tail i = false)
      (hjo : has (aft o) j = true) (h : ∀ u, (∃ w X, Sat w0 w (X * F u)) → QOp P n w0 o (depE ops ((j, u) :: known) o ++ E) (A * Pk) (f u)) (k : Sd K known Pk L dl ((i, j, f, fun u => ∃ w X, Sat w0 w (X * F u)) :: lk)) : Sd K known Pk L dl lk
  | swap {known : List (Nat × Value)} {Pk L : Asn} {dl : Dl} {lk : Lk} {p q : Nat × (Value → Asn)} (k : Sd K known Pk L (q :: p :: dl) lk) : Sd K known Pk L (p :: q :: dl) lk
  | told {known : List (Nat × Value)} {Pk L : Asn} {dl : Dl} {lk : Lk} (i j : Nat) (f : Value → Value) (C : Value → Prop) (u : Value) (hj : vof known j = some u) (k : Sd K ((i, f u) :: known) Pk L dl lk) : Sd K known Pk L dl ((i, j, f, C) :: lk)
end
section sound
variable {P : Program} {n : Nat} {w0 : World} {ops : Array Oper} {tail : List Nat} {E : Env} {A : Asn} {K : Act → World → Prop}
def PendA (P : Program) (n : Nat) (w0 : World) (ops : Array Oper) (E : Env) (A : Asn) (known : List (Nat × Value)) (Pk : Asn) (o : Oper) (F : Value → Asn) : Prop :=
  ∃ kn Pk0 N, (∀ j u, vof kn j = some u → vof known j = some u) ∧ Pk = Pk0 * N ∧ met ops kn o = some true ∧ AOp P n w0 o (depE ops kn o ++ E) (A * Pk0) F
def PendL (P : Program) (n : Nat) (w0 : World) (ops : Array Oper) (E : Env) (A : Asn) (known : List (Nat × Value)) (Pk : Asn) (o : Oper) (j : Nat) (f : Value → Value) (C : Value → Prop) : Prop :=
  ∃ kn Pk0 N, (∀ j u, vof kn j = some u → vof known j = some u) ∧ Pk = Pk0 * N ∧ ∀ u, C u → met ops ((j, u) :: kn) o = some true ∧ QOp P n w0 o (depE ops ((j, u) :: kn) o ++ E) (A * Pk0) (f u)
/-- The value of an early one, or of one that is known. -/
def jv (known : List (Nat × Value)) (dl : Dl) (ea : Nat → Option Value) (j : Nat) (u : Value) : Prop := vof known j = some u ∨ (j ∈ keysD dl ∧ ea j = some u)
structure InvD (P : Program) (n : Nat) (w0 : World) (ops : Array Oper) (tail : List Nat) (E : Env) (A : Asn) (known : List (Nat × Value)) (Pk L : Asn) (dl : Dl) (lk : Lk) (ea : Nat → Option Value) (listed : Array Bool) (a : Act) (w : World) : Prop where
  size : listed.size = ops.size
  ev : Ev n a E
  sat : Sat w0 w (A * Pk * L * early ea dl)
  kn : ∀ i v, vof known i = some v → i ∉ tail ∧ ∃ o, ops[i]? = some o ∧ (lis listed i → ∀ d, o.dst = some d → a.tmps.getD d undef = v) ∧ (¬ lis listed i → Pend P n w0 ops E A known Pk o v)
  dd : ∀ i F, (i, F) ∈ dl → i ∉ tail ∧ vof known i = none ∧ ∃ o, ops[i]? = some o ∧ (lis listed i → ∃ v, ea i = some v ∧ ∀ d, o.dst = some d → a.tmps.getD d undef = v) ∧ (¬ lis listed i → PendA P n w0 ops E A known Pk o F)
  lkI : ∀ i j f C, (i, j, f, C) ∈ lk → i ∉ tail ∧ vof known i = none ∧ i ∉ keysD dl ∧ ((∃ F, (j, F) ∈ dl ∧ ∀ v, (∃ w X, Sat w0 w (X * F v)) → C v) ∨ ∃ u, vof known j = some u ∧ C u) ∧
    ∃ o, ops[i]? = some o ∧ j ∈ aft o ∧ (lis listed i → ∃ u, jv known dl ea j u ∧ ∀ d, o.dst = some d → a.tmps.getD d undef = f u) ∧ (¬ lis listed i → PendL P n w0 ops E A known Pk o j f C)
  nk : (keysK lk).Nodup
  nd : (keysD dl).Nodup
  en : ∀ i, ¬ lis listed i → ea i = none
  li : ∀ i, lis listed i → (∃ v, vof known i = some v) ∨ i ∈ keysD dl ∨ i ∈ keysK lk
  cl : ∀ (i : Nat) (o : Oper), lis listed i → ops[i]? = some o → ∀ j ∈ aft o, lis listed j
theorem dep0 {a : Act} {kn : List (Nat × Value)} {o : Oper} (hev : Ev n a E) (hs : ∀ j v d, j ∈ aft o → vof kn j = some v → (ops[j]?).bind (·.dst) = some d → a.tmps.getD d undef = v) : Ev n a (depE ops kn o ++ E) := by
  refine Ev.app (fun p hp => ?_) hev
  obtain ⟨j, hj, e⟩ := List.mem_filterMap.1 hp
  cases h1 : (ops[j]?).bind (·.dst) with
  | none => simp [h1] at e
  | some d =>
    cases h2 : vof kn j with
    | none => simp [h1, h2] at e
    | some v =>
      simp [h1, h2] at e
      subst e
      exact hs j v d hj h2 h1
theorem wants0 {a : Act} {kn : List (Nat × Value)} {o : Oper} (hs : ∀ j v d, j ∈ aft o → vof kn j = some v → (ops[j]?).bind (·.dst) = some d → a.tmps.getD d undef = v) {b : Bool} (hm : met ops kn o = some b) : Region.wanted o (yielded ops a.tmps) = b := by
  unfold Go.Proofs.Yteopadjihklkmaa.met at hm
  unfold Region.wanted
  cases hg : o.guard with
  | none =>
    rw [hg] at hm
    simpa using hm
  | some g =>
    obtain ⟨j, want⟩ := g
    rw [hg] at hm
    simp only at hm ⊢
    split at hm
    · rename_i hj
      have hj := any_beq.1 hj
      cases h1 : (ops[j]?).bind (·.dst) with
      | none => simp [h1] at hm
      | some d =>
        cases h2 : vof kn j with
        | none => simp [h1, h2] at hm
        | some v =>
          have hslot := hs j v d hj h2 h1
          have hsome : a.tmps[d]? = some v ∨ (a.tmps[d]? = none ∧ v = undef) := by
            rw [Array.getD_eq_getD_getElem?] at hslot
            cases hz : a.tmps[d]? with
            | none => rw [hz] at hslot; exact .inr ⟨rfl, hslot.symm⟩
            | some u => rw [hz] at hslot; exact .inl (by rw [← hslot]; rfl)
          have hy : yielded ops a.tmps j = bv v := by
            unfold yielded
            rw [h1]
            rcases hsome with hz | ⟨hz, rfl⟩
            · simp only [Option.bind_some, hz]
              cases v <;> rfl
            · simp only [Option.bind_some, hz]
              rfl
          rw [hy, gv_eq]
          rw [h1, h2] at hm
          simpa using hm
    · cases hm
theorem early_has {ea : Nat → Option Value} {i : Nat} {v : Value} {F : Value → Asn} : ∀ {dl : Dl}, (i, F) ∈ dl → ea i = some v → ∃ Y, early ea dl = Y * F v
  | (j, G) :: r, hm, he => by
    rcases List.mem_cons.1 hm with h | h
    · cases h
      exact ⟨early ea r, by simp only [early, he]; exact sep_comm _ _⟩
    · obtain ⟨Y, hY⟩ := early_has h he
      exact ⟨(match ea j with | some v => G v | none => emp) * Y, by simp only [early]; rw [hY, sep_assoc]⟩
theorem InvD.dep {known : List (Nat × Value)} {Pk L : Asn} {dl : Dl} {lk : Lk} {ea : Nat → Option Value} {listed : Array Bool} {a : Act} {w : World} (h : InvD P n w0 ops tail E A known Pk L dl lk ea listed a w) {o : Oper} (hr : ∀ j ∈ aft o, lis listed j) {kn : List (Nat × Value)}
    (hk : ∀ j u, vof kn j = some u → vof known j = some u) : Ev n a (depE ops kn o ++ E) := by
  refine Ev.app (fun p hp => ?_) h.ev
  obtain ⟨j, hj, e⟩ := List.mem_filterMap.1 hp
  cases h1 : (ops[j]?).bind (·.dst) with
  | none => simp [h1] at e
  | some d =>
    cases h2 : vof kn j with
    | none => simp [h1, h2] at e
    | some v =>
      simp [h1, h2] at e
      subst e
      obtain ⟨_, q, hq, hs, _⟩ := h.kn j v (hk j v h2)
      rw [hq, Option.bind_some] at h1
      exact hs (hr j hj) d h1
theorem InvD.wants {known : List (Nat × Value)} {Pk L : Asn} {dl : Dl} {lk : Lk} {ea : Nat → Option Value} {listed : Array Bool} {a : Act} {w : World} (h : InvD P n w0 ops tail E A known Pk L dl lk ea listed a w) {o : Oper} (hr : ∀ j ∈ aft o, lis listed j) {kn : List (Nat × Value)}
    (hk : ∀ j u, vof kn j = some u → vof known j = some u) {b : Bool} (hm : met ops kn o = some b) : Region.wanted o (yielded ops a.tmps) = b := by
  unfold Go.Proofs.Yteopadjihklkmaa.met at hm
  unfold Region.wanted
  cases hg : o.guard with
  | none =>
    rw [hg] at hm
    simpa using hm
  | some g =>
    obtain ⟨j, want⟩ := g
    rw [hg] at hm
    simp only at hm ⊢
    split at hm
    · rename_i hj
      have hj := any_beq.1 hj
      cases h1 : (ops[j]?).bind (·.dst) with
      | none => simp [h1] at hm
      | some d =>
        cases h2 : vof kn j with
        | none => simp [h1, h2] at hm
        | some v =>
          obtain ⟨_, q, hq, hs, _⟩ := h.kn j v (hk j v h2)
          have h1' := h1
          rw [hq, Option.bind_some] at h1'
          have hslot := hs (hr j hj) d h1'
          have hsome : a.tmps[d]? = some v ∨ (a.tmps[d]? = none ∧ v = undef) := by
            rw [Array.getD_eq_getD_getElem?] at hslot
            cases hz : a.tmps[d]? with
            | none => rw [hz] at hslot; exact .inr ⟨rfl, hslot.symm⟩
            | some u => rw [hz] at hslot; exact .inl (by rw [← hslot]; rfl)
          have hy : yielded ops a.tmps j = bv v := by
            unfold yielded
            rw [h1]
            rcases hsome with hz | ⟨hz, rfl⟩
            · simp only [Option.bind_some, hz]
              cases v <;> rfl
            · simp only [Option.bind_some, hz]
              rfl
          rw [hy, gv_eq]
          rw [h1, h2] at hm
          simpa using hm
    · cases hm
theorem nodup_keys : ∀ {lk : Lk}, (keysK lk).Nodup → ∀ {i : Nat} {p q : Nat × (Value → Value) × (Value → Prop)}, (i, p) ∈ lk → (i, q) ∈ lk → p = q
  | (k, r) :: lk, hn, i, p, q, h1, h2 => by
    simp only [keysK, List.map_cons, List.nodup_cons] at hn
    rcases List.mem_cons.1 h1 with e1 | e1
    · cases e1
      rcases List.mem_cons.1 h2 with e2 | e2
      · cases e2; rfl
      · exact absurd (List.mem_map.2 ⟨_, e2, rfl⟩) hn.1
    · rcases List.mem_cons.1 h2 with e2 | e2
      · cases e2
        exact absurd (List.mem_map.2 ⟨_, e1, rfl⟩) hn.1
      · exact nodup_keys hn.2 e1 e2
/-- Behind one operation. -/
theorem InvD.next (sh : Shape ops tail E n) {known known' : List (Nat × Value)} {Pk L Pk' L' : Asn} {dl : Dl} {lk : Lk} {ea ea' : Nat → Option Value} {listed : Array Bool} {a : Act} {w w' : World} (h : InvD P n w0 ops tail E A known Pk L dl lk ea listed a w) {i : Nat} {o : Oper} {v : Value}
    (hi : listed[i]? = some false) (ho : ops[i]? = some o) (hr : ∀ j ∈ aft o, lis listed j) (ht : i ∉ tail) (hin : vof known' i = some v ∨ i ∈ keysD dl ∨ ∃ j f C u, (i, j, f, C) ∈ lk ∧ jv known dl ea j u ∧ v = f u) (hsub : ∀ j u, vof known j = some u → vof known' j = some u)
    (hback : ∀ j u, vof known' j = some u → (j = i → u = v) ∧ (j ≠ i → vof known j = some u)) (hea : i ∈ keysD dl → ea' i = some v) (heo : ∀ j, j ≠ i → ea' j = ea j) (hki : ∀ j, j ∈ keysK lk → vof known' j = none) (hdk : ∀ j, j ∈ keysD dl → vof known' j = none)
    (hP : ∃ N, Pk' = Pk * N) (hs : Sat w0 w' (A * Pk' * L' * early ea' dl)) : InvD P n w0 ops tail E A known' Pk' L' dl lk ea' (listed.setIfInBounds i true) (a.put o.dst v) w' := by
  have hlt := (Array.getElem?_eq_some_iff.1 hi).1
  have hlis : ∀ j, lis (listed.setIfInBounds i true) j ↔ j = i ∨ lis listed j := by
    intro j
    unfold lis
    by_cases e : i = j
    · subst e
      simp [hlt]
    · rw [Array.getElem?_setIfInBounds_ne e]
      constructor
      · exact .inr
      · rintro (rfl | h)
        · exact absurd rfl e
        · exact h
  have hput : ∀ (j : Nat) (q : Oper) (d : Nat), ops[j]? = some q → j ∉ tail → j ≠ i → q.dst = some d → (a.put o.dst v).tmps.getD d undef = a.tmps.getD d undef := by
    intro j q d hq hj hne hd
    cases hod : o.dst with
    | none => rfl
    | some e =>
      have hde : e ≠ d := by
        rintro rfl
        exact hne ((sh.dst i o e ho ht hod).2.2 j q hq hj hd).symm
      simp only [Act.put, Array.getD_eq_getD_getElem?]
      rw [Array.getElem?_setIfInBounds_ne hde]
  have hown : ∀ d, o.dst = some d → (a.put o.dst v).tmps.getD d undef = v := by
    intro d hd
    have hdn := (sh.dst i o d ho ht hd).1
    simp [hd, Act.put, Array.getD_eq_getD_getElem?, h.ev.size, hdn]
  refine ⟨by simpa using h.size, ?_, hs, ?_, ?_, ?_, h.nk, h.nd, ?_, ?_, ?_⟩
  · cases hod : o.dst with
    | none => exact h.ev
    | some d =>
      obtain ⟨hdn, hdE, _⟩ := sh.dst i o d ho ht hod
      refine ⟨h.ev.defers, by simp [Act.put, h.ev.size], fun t u hl => ?_⟩
      have hne : d ≠ t := by
        rintro rfl
        exact hdE (lk_key hl)
      have := h.ev.look t u hl
      simp only [Act.put, Array.getD_eq_getD_getElem?] at *
      rw [Array.getElem?_setIfInBounds_ne hne]
      exact this
  · intro j u hj
    by_cases e : j = i
    · subst e
      obtain rfl := (hback j u hj).1 rfl
      exact ⟨ht, o, ho, fun _ d hd => hown d hd, fun hn => absurd ((hlis j).2 (.inl rfl)) hn⟩
    · have hk := (hback j u hj).2 e
      obtain ⟨h1, q, hq, h2, h3⟩ := h.kn j u hk
      refine ⟨h1, q, hq, fun hl d hd => ?_, fun hn => ?_⟩
      · rw [hput j q d hq h1 e hd]
        exact h2 (((hlis j).1 hl).resolve_left e) d hd
      · obtain ⟨kn, Pk0, N, a1, a2, a3⟩ := h3 (fun hl => hn ((hlis j).2 (.inr hl)))
        obtain ⟨N', rfl⟩ := hP
        exact ⟨kn, Pk0, N * N', fun j u hj => hsub j u (a1 j u hj), by rw [a2, sep_assoc], a3⟩
  · intro j F hj
    obtain ⟨h1, h0, q, hq, h2, h3⟩ := h.dd j F hj
    have hjk : j ∈ keysD dl := List.mem_map.2 ⟨(j, F), hj, rfl⟩
    refine ⟨h1, hdk j hjk, q, hq, fun hl => ?_, fun hn => ?_⟩
    · by_cases e : j = i
      · subst e
        rw [ho] at hq
        obtain rfl := Option.some.inj hq
        exact ⟨v, hea hjk, hown⟩
      · obtain ⟨u, hu, hs⟩ := h2 (((hlis j).1 hl).resolve_left e)
        exact ⟨u, by rw [heo j e, hu], fun d hd => by rw [hput j q d hq h1 e hd]; exact hs d hd⟩
    · obtain ⟨kn, Pk0, N, a1, a2, a3⟩ := h3 (fun hl => hn ((hlis j).2 (.inr hl)))
      obtain ⟨N', rfl⟩ := hP
      exact ⟨kn, Pk0, N * N', fun j u hj => hsub j u (a1 j u hj), by rw [a2, sep_assoc], a3⟩
  · intro x j f C hm
    obtain ⟨h1, h2, h3, h4, q, hq, hjq, h5, h6⟩ := h.lkI x j f C hm
    refine ⟨h1, hki x (List.mem_map.2 ⟨_, hm, rfl⟩), h3, h4.imp id (fun ⟨u, hu, hc⟩ => ⟨u, hsub j u hu, hc⟩), q, hq, hjq, fun hl => ?_, fun hl => ?_⟩
    · by_cases e : x = i
      · subst e
        rw [ho] at hq
        obtain rfl := Option.some.inj hq
        have hjl := hr j hjq
        have hji : j ≠ x := fun e => by subst e; exact absurd hi (by unfold lis at hjl; rw [hjl]; simp)
        rcases hin with hin | hin | ⟨j2, f2, C2, u, hm2, hju, rfl⟩
        · rw [hki x (List.mem_map.2 ⟨_, hm, rfl⟩)] at hin; cases hin
        · exact absurd hin h3
        · have he := nodup_keys h.nk hm hm2
          simp only [Prod.mk.injEq] at he
          obtain ⟨rfl, rfl, _⟩ := he
          exact ⟨u, hju.imp (hsub _ u) (fun ⟨g1, g2⟩ => ⟨g1, by rw [heo _ hji]; exact g2⟩), hown⟩
      · have hlx := ((hlis x).1 hl).resolve_left e
        obtain ⟨u, hju, hs2⟩ := h5 hlx
        have hjl := h.cl x q hlx hq j hjq
        have hji : j ≠ i := fun e => by subst e; exact absurd hi (by unfold lis at hjl; rw [hjl]; simp)
        exact ⟨u, hju.imp (hsub j u) (fun ⟨g1, g2⟩ => ⟨g1, by rw [heo j hji]; exact g2⟩), fun d hd => by rw [hput x q d hq h1 e hd]; exact hs2 d hd⟩
    · obtain ⟨kn, Pk0, N, a1, a2, a3⟩ := h6 (fun hl2 => hl ((hlis x).2 (.inr hl2)))
      obtain ⟨N', rfl⟩ := hP
      exact ⟨kn, Pk0, N * N', fun j u hj => hsub j u (a1 j u hj), by rw [a2, sep_assoc], a3⟩
  · intro j hj
    have hne : j ≠ i := fun e => hj ((hlis j).2 (.inl e))
    rw [heo j hne]
    exact h.en j fun hl => hj ((hlis j).2 (.inr hl))
  · intro j hj
    rcases (hlis j).1 hj with rfl | hj
    · exact hin.imp (fun h => ⟨v, h⟩) (fun h => h.imp id (fun ⟨j2, f2, C2, u, hm2, _⟩ => List.mem_map.2 ⟨_, hm2, rfl⟩))
    · exact (h.li j hj).imp (fun ⟨u, hu⟩ => ⟨u, hsub j u hu⟩) id
  · intro j q hj hq x hx
    rw [hlis]
    rcases (hlis j).1 hj with rfl | hj
    · rw [ho] at hq
      obtain rfl := Option.some.inj hq
      exact .inr (hr x hx)
    · exact .inr (h.cl j q hj hq x hx)
theorem InvD.fresh {known : List (Nat × Value)} {Pk L : Asn} {dl : Dl} {lk : Lk} {ea : Nat → Option Value} {listed : Array Bool} {a : Act} {w : World} (h : InvD P n w0 ops tail E A known Pk L dl lk ea listed a w) {i : Nat} (hn : vof known i = none) (hd : has (keysD dl ++ keysK lk) i = false) : ¬ lis listed i := fun hl => by
  rcases h.li i hl with ⟨u, hu⟩ | hk
  · rw [hn] at hu
    cases hu
  · rw [has_iff.2 (List.mem_append.2 hk)] at hd
    cases hd
theorem InvD.learn {known : List (Nat × Value)} {Pk L : Asn} {dl : Dl} {lk : Lk} {ea : Nat → Option Value} {listed : Array Bool} {a : Act} {w : World} (h : InvD P n w0 ops tail E A known Pk L dl lk ea listed a w) {i : Nat} {o : Oper} {v : Value} (hi : ops[i]? = some o) (hn : vof known i = none) (hd : has (keysD dl ++ keysK lk) i = false) (ht : has tail i = false)
    (hp : (met ops known o = some true ∧ QOp P n w0 o (depE ops known o ++ E) (A * Pk) v) ∨ (met ops known o = some false ∧ v = undef)) : InvD P n w0 ops tail E A ((i, v) :: known) Pk L dl lk ea listed a w := by
  have hnl := h.fresh hn hd
  have htt : i ∉ tail := fun hm => by
    rw [has_iff.2 hm] at ht
    cases ht
  refine ⟨h.size, h.ev, h.sat, ?_, ?_, ?_, h.nk, h.nd, h.en, fun j hj => ?_, h.cl⟩
  · intro j u hj
    by_cases e : i = j
    · subst e
      rw [vof_cons_eq] at hj
      obtain rfl := Option.some.inj hj
      exact ⟨htt, o, hi, fun hl => absurd hl hnl, fun _ => ⟨known, Pk, emp, fun j u hj => vof_mono hn hj, (sep_emp _).symm, hp⟩⟩
    · rw [vof_cons_ne e] at hj
      obtain ⟨h1, q, hq, h2, h3⟩ := h.kn j u hj
      refine ⟨h1, q, hq, h2, fun hl => ?_⟩
      obtain ⟨kn, Pk0, N, a1, a2, a3⟩ := h3 hl
      exact ⟨kn, Pk0, N, fun j u hj => vof_mono hn (a1 j u hj), a2, a3⟩
  · intro j F hj
    obtain ⟨h1, h0, q, hq, h2, h3⟩ := h.dd j F hj
    have hne : i ≠ j := by
      rintro rfl
      rw [has_iff.2 (List.mem_append.2 (.inl (show i ∈ keysD dl from List.mem_map.2 ⟨(i, F), hj, rfl⟩)))] at hd
      cases hd
    refine ⟨h1, by rw [vof_cons_ne hne]; exact h0, q, hq, h2, fun hl => ?_⟩
    obtain ⟨kn, Pk0, N, a1, a2, a3⟩ := h3 hl
    exact ⟨kn, Pk0, N, fun j u hj => vof_mono hn (a1 j u hj), a2, a3⟩
  · intro x j f C hmm
    obtain ⟨h1, h2, h3, h4, q, hq, hjq, h5, h6⟩ := h.lkI x j f C hmm
    have hne : i ≠ x := by
      rintro rfl
      rw [has_iff.2 (List.mem_append.2 (.inr (show i ∈ keysK lk from List.mem_map.2 ⟨_, hmm, rfl⟩)))] at hd
      cases hd
    refine ⟨h1, by rw [vof_cons_ne hne]; exact h2, h3, h4.imp id (fun ⟨u, hu, hc⟩ => ⟨u, vof_mono hn hu, hc⟩), q, hq, hjq, fun hl => ?_, fun hl => ?_⟩
    · obtain ⟨u, hju, hs2⟩ := h5 hl
      exact ⟨u, hju.imp (vof_mono hn) id, hs2⟩
    · obtain ⟨kn, Pk0, N, a1, a2, a3⟩ := h6 hl
      exact ⟨kn, Pk0, N, fun j u hj => vof_mono hn (a1 j u hj), a2, a3⟩
  · exact (h.li j hj).imp (fun ⟨u, hu⟩ => ⟨u, vof_mono hn hu⟩) id
theorem InvD.declare {known : List (Nat × Value)} {Pk L : Asn} {dl : Dl} {lk : Lk} {ea : Nat → Option Value} {listed : Array Bool} {a : Act} {w : World} (h : InvD P n w0 ops tail E A known Pk L dl lk ea listed a w) {i : Nat} {o : Oper} {F : Value → Asn} (hi : ops[i]? = some o) (hn : vof known i = none) (hd : has (keysD dl ++ keysK lk) i = false) (ht : has tail i = false)
    (hm : met ops known o = some true) (hp : AOp P n w0 o (depE ops known o ++ E) (A * Pk) F) : InvD P n w0 ops tail E A known Pk L ((i, F) :: dl) lk ea listed a w := by
  have hnl := h.fresh hn hd
  have htt : i ∉ tail := fun hm => by
    rw [has_iff.2 hm] at ht
    cases ht
  have hik : i ∉ keysD dl := fun hm => by
    rw [has_iff.2 (List.mem_append.2 (.inl hm))] at hd
    cases hd
  have hikk : i ∉ keysK lk := fun hm => by
    rw [has_iff.2 (List.mem_append.2 (.inr hm))] at hd
    cases hd
  refine ⟨h.size, h.ev, ?_, h.kn, ?_, ?_, h.nk, ?_, h.en, fun j hj => (h.li j hj).imp id (fun h => h.imp (fun h => by simp only [keysD, List.map_cons, List.mem_cons] at *; exact .inr h) id), h.cl⟩
  · have e : early ea ((i, F) :: dl) = early ea dl := by
      simp only [early, h.en i hnl]
      rw [emp_sep]
    rw [e]
    exact h.sat
  · intro j G hj
    rcases List.mem_cons.1 hj with hj | hj
    · cases hj
      exact ⟨htt, hn, o, hi, fun hl => absurd hl hnl, fun _ => ⟨known, Pk, emp, fun _ _ h => h, (sep_emp _).symm, hm, hp⟩⟩
    · exact h.dd j G hj
  · intro x j f C hmm
    obtain ⟨h1, h2, h3, h4, q, hq, hjq, h5, h6⟩ := h.lkI x j f C hmm
    refine ⟨h1, h2, fun hx => ?_, h4.imp (fun ⟨G, hG, hc⟩ => ⟨G, List.mem_cons_of_mem _ hG, hc⟩) id, q, hq, hjq, fun hl => ?_, h6⟩
    · simp only [keysD, List.map_cons, List.mem_cons] at hx
      rcases hx with rfl | hx
      · exact hikk (List.mem_map.2 ⟨_, hmm, rfl⟩)
      · exact h3 hx
    · obtain ⟨u, hju, hs2⟩ := h5 hl
      exact ⟨u, hju.imp id (fun ⟨g1, g2⟩ => ⟨by simp only [keysD, List.map_cons, List.mem_cons]; exact .inr g1, g2⟩), hs2⟩
  · simp only [keysD, List.map_cons, List.nodup_cons] at *
    exact ⟨hik, h.nd⟩
theorem InvD.taken {known : List (Nat × Value)} {Pk L : Asn} {dl : Dl} {lk : Lk} {ea : Nat → Option Value} {listed : Array Bool} {a : Act} {w : World} {i : Nat} {F : Value → Asn} (h : InvD P n w0 ops tail E A known Pk L ((i, F) :: dl) lk ea listed a w) (hl : lis listed i) :
    ∃ v, (∃ w X, Sat w0 w (X * F v)) ∧ InvD P n w0 ops tail E A ((i, v) :: known) (Pk * F v) L dl lk ea listed a w := by
  obtain ⟨h1, h0, q, hq, h2, h3⟩ := h.dd i F (by simp)
  obtain ⟨v, hv, hs⟩ := h2 hl
  have hnd := h.nd
  simp only [keysD, List.map_cons, List.nodup_cons] at hnd
  have hsat := h.sat
  simp only [early, hv] at hsat
  refine ⟨v, ⟨w, A * Pk * L * early ea dl, hsat.conv (by generalize F v = X; generalize early ea dl = Y; ac_rfl)⟩, h.size, h.ev, ?_, ?_, ?_, ?_, h.nk, hnd.2, h.en, fun j hj => ?_, h.cl⟩
  · have := h.sat
    simp only [early, hv] at this
    exact this.conv (by generalize F v = X; generalize early ea dl = Y; ac_rfl)
  · intro j u hj
    by_cases e : i = j
    · subst e
      rw [vof_cons_eq] at hj
      obtain rfl := Option.some.inj hj
      exact ⟨h1, q, hq, fun _ => hs, fun hn => absurd hl hn⟩
    · rw [vof_cons_ne e] at hj
      obtain ⟨g1, q, hq, g2, g3⟩ := h.kn j u hj
      refine ⟨g1, q, hq, g2, fun hl => ?_⟩
      obtain ⟨kn, Pk0, N, a1, a2, a3⟩ := g3 hl
      exact ⟨kn, Pk0, N * F v, fun j u hj => vof_mono h0 (a1 j u hj), by rw [a2, sep_assoc], a3⟩
  · intro j G hj
    obtain ⟨g1, g0, q, hq, g2, g3⟩ := h.dd j G (by simp [hj])
    have hne : i ≠ j := by
      rintro rfl
      exact hnd.1 (List.mem_map.2 ⟨(i, G), hj, rfl⟩)
    refine ⟨g1, by rw [vof_cons_ne hne]; exact g0, q, hq, g2, fun hl => ?_⟩
    obtain ⟨kn, Pk0, N, a1, a2, a3⟩ := g3 hl
    exact ⟨kn, Pk0, N * F v, fun j u hj => vof_mono h0 (a1 j u hj), by rw [a2, sep_assoc], a3⟩
  · intro x j f C hmm
    obtain ⟨g1, g2, g3, g4, q2, hq2, hjq, g5, g6⟩ := h.lkI x j f C hmm
    have hix : i ≠ x := by
      rintro rfl
      exact g3 (by simp [keysD])
    refine ⟨g1, by rw [vof_cons_ne hix]; exact g2, fun hx => g3 (by simp only [keysD, List.map_cons, List.mem_cons]; exact .inr hx), ?_, q2, hq2, hjq, fun hl2 => ?_, fun hl2 => ?_⟩
    · rcases g4 with ⟨G, hG, hc⟩ | ⟨u, hu, hc⟩
      · rcases List.mem_cons.1 hG with e | e
        · cases e
          exact .inr ⟨v, vof_cons_eq, hc v ⟨w, A * Pk * L * early ea dl, hsat.conv (by generalize F v = X; generalize early ea dl = Y; ac_rfl)⟩⟩
        · exact .inl ⟨G, e, hc⟩
      · exact .inr ⟨u, vof_mono h0 hu, hc⟩
    · obtain ⟨u, hju, hs2⟩ := g5 hl2
      refine ⟨u, ?_, hs2⟩
      rcases hju with hju | ⟨k1, k2⟩
      · exact .inl (vof_mono h0 hju)
      · by_cases e : i = j
        · subst e
          rw [hv] at k2
          obtain rfl := Option.some.inj k2
          exact .inl vof_cons_eq
        · simp only [keysD, List.map_cons, List.mem_cons] at k1
          exact .inr ⟨k1.resolve_left (fun h => e h.symm), k2⟩
    · obtain ⟨kn, Pk0, N, a1, a2, a3⟩ := g6 hl2
      exact ⟨kn, Pk0, N * F v, fun j u hj => vof_mono h0 (a1 j u hj), by rw [a2, sep_assoc], a3⟩
  · rcases h.li j hj with ⟨u, hu⟩ | hk | hk
    · exact .inl ⟨u, vof_mono h0 hu⟩
    · simp only [keysD, List.map_cons, List.mem_cons] at hk
      rcases hk with rfl | hk
      · exact .inl ⟨v, vof_cons_eq⟩
      · exact .inr (.inl hk)
    · exact .inr (.inr hk)
theorem InvD.swapped {known : List (Nat × Value)} {Pk L : Asn} {dl : Dl} {lk : Lk} {ea : Nat → Option Value} {listed : Array Bool} {a : Act} {w : World} {p q : Nat × (Value → Asn)} (h : InvD P n w0 ops tail E A known Pk L (p :: q :: dl) lk ea listed a w) : InvD P n w0 ops tail E A known Pk L (q :: p :: dl) lk ea listed a w := by
  have hm : ∀ x, x ∈ q :: p :: dl ↔ x ∈ p :: q :: dl := fun x => by simp only [List.mem_cons]; constructor <;> (rintro (h | h | h) <;> simp [h])
  have hk : ∀ x, x ∈ keysD (q :: p :: dl) ↔ x ∈ keysD (p :: q :: dl) := fun x => by simp only [keysD, List.map_cons, List.mem_cons]; constructor <;> (rintro (h | h | h) <;> simp [h])
  refine ⟨h.size, h.ev, ?_, h.kn, fun i F hi => h.dd i F ((hm _).1 hi), ?_, h.nk, ?_, h.en, fun i hi => (h.li i hi).imp id (fun g => g.imp (hk i).2 id), h.cl⟩
  · obtain ⟨i, F⟩ := p
    obtain ⟨j, G⟩ := q
    refine h.sat.conv ?_
    simp only [early]
    ac_rfl
  · intro i j f C hi
    obtain ⟨h1, h2, h3, h4, o, ho, hj, h5, h6⟩ := h.lkI i j f C hi
    exact ⟨h1, h2, fun g => h3 ((hk i).1 g), h4.imp (fun ⟨F, hF, g⟩ => ⟨F, (hm _).2 hF, g⟩) id, o, ho, hj, fun hl => by
      obtain ⟨u, hu, hs⟩ := h5 hl
      exact ⟨u, hu.imp id (fun ⟨g1, g2⟩ => ⟨(hk j).2 g1, g2⟩), hs⟩, h6⟩
  · have := h.nd
    simp only [keysD, List.map_cons, List.nodup_cons, List.mem_cons, not_or] at this ⊢
    exact ⟨⟨fun e => this.1.1 e.symm, this.2.1⟩, this.1.2, this.2.2⟩
/-- A link is laid. -/
theorem InvD.linked {known : List (Nat × Value)} {Pk L : Asn} {dl : Dl} {lk : Lk} {ea : Nat → Option Value} {listed : Array Bool} {a : Act} {w : World} (h : InvD P n w0 ops tail E A known Pk L dl lk ea listed a w) {i j : Nat} {F : Value → Asn} {o : Oper} {f : Value → Value} (hj : (j, F) ∈ dl) (hi : ops[i]? = some o) (hn : vof known i = none) (hd : has (keysD dl ++ keysK lk) i = false) (hm : ∀ u, met ops ((j, u) :: known) o = some true) (ht : has tail i = false)
    (hjo : has (aft o) j = true) (hp : ∀ u, (∃ w X, Sat w0 w (X * F u)) → QOp P n w0 o (depE ops ((j, u) :: known) o ++ E) (A * Pk) (f u)) : InvD P n w0 ops tail E A known Pk L dl ((i, j, f, fun u => ∃ w X, Sat w0 w (X * F u)) :: lk) ea listed a w := by
  have hnl := h.fresh hn hd
  have htt : i ∉ tail := fun hm => by
    rw [has_iff.2 hm] at ht
    cases ht
  have hik : i ∉ keysD dl := fun hm => by
    rw [has_iff.2 (List.mem_append.2 (.inl hm))] at hd
    cases hd
  have hikk : i ∉ keysK lk := fun hm => by
    rw [has_iff.2 (List.mem_append.2 (.inr hm))] at hd
    cases hd
  refine ⟨h.size, h.ev, h.sat, h.kn, h.dd, ?_, ?_, h.nd, h.en, fun x hx => (h.li x hx).imp id (fun g => g.imp id (fun g => by simp only [keysK, List.map_cons, List.mem_cons] at *; exact .inr g)), h.cl⟩
  · intro x y g C hmm
    rcases List.mem_cons.1 hmm with e | e
    · cases e
      exact ⟨htt, hn, hik, .inl ⟨F, hj, fun _ h => h⟩, o, hi, has_iff.1 hjo, fun hl => absurd hl hnl, fun _ => ⟨known, Pk, emp, fun _ _ h => h, (sep_emp _).symm, fun u hu => ⟨hm u, hp u hu⟩⟩⟩
    · exact h.lkI x y g C e
  · simp only [keysK, List.map_cons, List.nodup_cons] at *
    exact ⟨hikk, h.nk⟩
/-- A link is told. -/
theorem InvD.tell {known : List (Nat × Value)} {Pk L : Asn} {dl : Dl} {lk : Lk} {ea : Nat → Option Value} {listed : Array Bool} {a : Act} {w : World} {i j : Nat} {f : Value → Value} {C : Value → Prop} (h : InvD P n w0 ops tail E A known Pk L dl ((i, j, f, C) :: lk) ea listed a w) {u : Value} (hu : vof known j = some u) :
    InvD P n w0 ops tail E A ((i, f u) :: known) Pk L dl lk ea listed a w := by
  obtain ⟨h1, h2, h3, h4, q, hq, hjq, h5, h6⟩ := h.lkI i j f C (by simp)
  have hnk := h.nk
  simp only [keysK, List.map_cons, List.nodup_cons] at hnk
  have hjd : j ∉ keysD dl := fun hm => by
    obtain ⟨⟨j', F⟩, hF, e⟩ := List.mem_map.1 hm
    simp only at e
    subst e
    have := (h.dd j' F hF).2.1
    rw [hu] at this
    cases this
  have hC : C u := by
    rcases h4 with ⟨F, hF, _⟩ | ⟨u', hu', hc⟩
    · exact absurd (List.mem_map.2 ⟨_, hF, rfl⟩) hjd
    · rw [hu] at hu'
      obtain rfl := Option.some.inj hu'
      exact hc
  refine ⟨h.size, h.ev, h.sat, ?_, ?_, ?_, hnk.2, h.nd, h.en, fun x hx => ?_, h.cl⟩
  · intro x v hx
    by_cases e : i = x
    · subst e
      rw [vof_cons_eq] at hx
      obtain rfl := Option.some.inj hx
      refine ⟨h1, q, hq, fun hl d hd => ?_, fun hl => ?_⟩
      · obtain ⟨u', hju, hs⟩ := h5 hl
        rcases hju with hju | ⟨k1, _⟩
        · rw [hu] at hju
          obtain rfl := Option.some.inj hju
          exact hs d hd
        · exact absurd k1 hjd
      · obtain ⟨kn, Pk0, N, a1, a2, a3⟩ := h6 hl
        refine ⟨(j, u) :: kn, Pk0, N, fun y z hy => ?_, a2, .inl (a3 u hC)⟩
        by_cases e2 : j = y
        · subst e2
          rw [vof_cons_eq] at hy
          obtain rfl := Option.some.inj hy
          exact vof_mono h2 hu
        · rw [vof_cons_ne e2] at hy
          exact vof_mono h2 (a1 y z hy)
    · rw [vof_cons_ne e] at hx
      obtain ⟨g1, q2, hq2, g2, g3⟩ := h.kn x v hx
      refine ⟨g1, q2, hq2, g2, fun hl => ?_⟩
      obtain ⟨kn, Pk0, N, a1, a2, a3⟩ := g3 hl
      exact ⟨kn, Pk0, N, fun y z hy => vof_mono h2 (a1 y z hy), a2, a3⟩
  · intro x G hx
    obtain ⟨g1, g0, q2, hq2, g2, g3⟩ := h.dd x G hx
    have hne : i ≠ x := by
      rintro rfl
      exact h3 (List.mem_map.2 ⟨_, hx, rfl⟩)
    refine ⟨g1, by rw [vof_cons_ne hne]; exact g0, q2, hq2, g2, fun hl => ?_⟩
    obtain ⟨kn, Pk0, N, a1, a2, a3⟩ := g3 hl
    exact ⟨kn, Pk0, N, fun y z hy => vof_mono h2 (a1 y z hy), a2, a3⟩
  · intro x y g C2 hmm
    obtain ⟨g1, g2, g3, g4, q2, hq2, hjq2, g5, g6⟩ := h.lkI x y g C2 (List.mem_cons_of_mem _ hmm)
    have hne : i ≠ x := by
      rintro rfl
      exact hnk.1 (List.mem_map.2 ⟨_, hmm, rfl⟩)
    refine ⟨g1, by rw [vof_cons_ne hne]; exact g2, g3, g4.imp id (fun ⟨z, hz, hc⟩ => ⟨z, vof_mono h2 hz, hc⟩), q2, hq2, hjq2, fun hl => ?_, fun hl => ?_⟩
    · obtain ⟨z, hjz, hs⟩ := g5 hl
      exact ⟨z, hjz.imp (vof_mono h2) id, hs⟩
    · obtain ⟨kn, Pk0, N, a1, a2, a3⟩ := g6 hl
      exact ⟨kn, Pk0, N, fun y z hy => vof_mono h2 (a1 y z hy), a2, a3⟩
  · rcases h.li x hx with ⟨v, hv⟩ | hk | hk
    · exact .inl ⟨v, vof_mono h2 hv⟩
    · exact .inr (.inl hk)
    · simp only [keysK, List.map_cons, List.mem_cons] at hk
      rcases hk with rfl | hk
      · exact .inl ⟨_, vof_cons_eq⟩
      · exact .inr (.inr hk)
inductive NodeD (P : Program) (n : Nat) (w0 : World) (ops : Array Oper) (tail : List Nat) (E : Env) (A : Asn) (K : Act → World → Prop) (listed : Array Bool) (known : List (Nat × Value)) (Pk L : Asn) : Dl → Lk → Prop
  | take {dl : Dl} {lk : Lk} (i : Nat) (F : Value → Asn) (hnl : ¬ lis listed i)
      (hrest : (List.range ops.size).all (fun j => (vof known j).isSome || has (i :: (keysD dl ++ keysK lk)) j || reach (befs ops.toList []) i j) = true)
      (k : ∀ v, (∃ w X, Sat w0 w (X * F v)) → Sd P n w0 ops tail E A K ((i, v) :: known) (Pk * F v) L dl lk) : NodeD P n w0 ops tail E A K listed known Pk L ((i, F) :: dl) lk
  | chain {dl : Dl} {lk : Lk} (c : Nat) (o : Oper) (R : Value → Asn → Asn → Prop) (hi : ops[c]? = some o) (hn : vof known c = none) (hd : has (keysD dl ++ keysK lk) c = false) (hm : met ops known o = some true) (ht : has tail c = false)
      (hrest : (List.range ops.size).all (fun j => (vof known j).isSome || has (c :: (keysD dl ++ keysK lk)) j || reach (befs ops.toList []) c j) = true)
      (h : ∀ X, COp P n w0 (A * X) o (depE ops known o ++ E) (A * X * Pk * L) R) (k : ∀ v P' L', R v P' L' → Sd P n w0 ops tail E A K ((c, v) :: known) P' L' dl lk) (hP : ∀ v P' L', R v P' L' → ∃ N, P' = Pk * N) : NodeD P n w0 ops tail E A K listed known Pk L dl lk
  | tail (hall : (List.range ops.size).all (fun i => (vof known i).isSome || has tail i) = true) (h : RunL P n w0 ops (tail.filterMap fun i => ops[i]?) K (allE ops known ++ E) (A * Pk * L)) : NodeD P n w0 ops tail E A K listed known Pk L [] []
theorem Sd.node {known : List (Nat × Value)} {Pk L : Asn} {dl : Dl} {lk : Lk} (st : Sd P n w0 ops tail E A K known Pk L dl lk) : ∀ {ea : Nat → Option Value} {listed : Array Bool} {a : Act} {w : World}, InvD P n w0 ops tail E A known Pk L dl lk ea listed a w →
    ∃ known' Pk' dl' lk', InvD P n w0 ops tail E A known' Pk' L dl' lk' ea listed a w ∧ NodeD P n w0 ops tail E A K listed known' Pk' L dl' lk' := by
  induction st with
  | quiet i o v hi hn hd hm ht h k ih => intro ea listed a w inv; exact ih (inv.learn hi hn hd ht (.inl ⟨hm, h⟩))
  | skip i o hi hn hd hm ht k ih => intro ea listed a w inv; exact ih (inv.learn hi hn hd ht (.inr ⟨hm, rfl⟩))
  | decl i o F hi hn hd hm ht h k ih => intro ea listed a w inv; exact ih (inv.declare hi hn hd ht hm h)
  | take i F hrest k ih =>
    intro ea listed a w inv
    by_cases hl : lis listed i
    · obtain ⟨v, hs, inv'⟩ := inv.taken hl
      exact ih v hs inv'
    · exact ⟨_, _, _, _, inv, .take i F hl hrest k⟩
  | chain c o R hi hn hd hm ht hrest h k hP ih => intro ea listed a w inv; exact ⟨_, _, _, _, inv, .chain c o R hi hn hd hm ht hrest h k hP⟩
  | tail hall h => intro ea listed a w inv; exact ⟨_, _, _, _, inv, .tail hall h⟩
  | link i j F o f hj hi hn hd hm ht hjo h k ih => intro ea listed a w inv; exact ih (inv.linked hj hi hn hd hm ht hjo h)
  | told i j f C u hj k ih => intro ea listed a w inv; exact ih (inv.tell hj)
  | swap k ih => intro ea listed a w inv; exact ih inv.swapped
theorem NodeD.sd {listed : Array Bool} {known : List (Nat × Value)} {Pk L : Asn} {dl : Dl} {lk : Lk} (nd : NodeD P n w0 ops tail E A K listed known Pk L dl lk) : Sd P n w0 ops tail E A K known Pk L dl lk := by
  cases nd with
  | take i F hnl hrest k => exact .take i F hrest k
  | chain c o R hi hn hd hm ht hrest h k hP => exact .chain c o R hi hn hd hm ht hrest h k hP
  | tail hall h => exact .tail hall h
theorem draw_soundD (sh : Shape ops tail E n) : ∀ (f : Nat) (listed : Array Bool) (l : List Nat), Ok ops f listed l → listed.toList.count false ≤ f → ∀ known Pk L dl lk ea a w, InvD P n w0 ops tail E A known Pk L dl lk ea listed a w → Sd P n w0 ops tail E A K known Pk L dl lk → wpOps P ops (Qk K) l a w := by
  intro f listed l hok
  have fin : ∀ (f : Nat) (listed : Array Bool) (l : List Nat), Ok ops f listed l → listed.toList.count false ≤ f → ∀ known Pk L ea a w, InvD P n w0 ops tail E A known Pk L [] [] ea listed a w → 
      (∀ i, i < ops.size → (lis listed i ↔ i ∉ tail)) → RunL P n w0 ops (tail.filterMap fun i => ops[i]?) K (allE ops known ++ E) (A * Pk * L) → wpOps P ops (Qk K) l a w := by
    intro f listed l hok hc known Pk L ea a w inv hli hrun
    have hl : l = tail := tail_order sh f listed l hok tail ⟨[], rfl⟩ inv.size hc inv.cl hli
    subst hl
    have hlo : l.map (fun i => ops[i]?) = (l.filterMap fun i => ops[i]?).map some := by
      have : ∀ r : List Nat, (∀ t ∈ r, t < ops.size) → r.map (fun i => ops[i]?) = (r.filterMap fun i => ops[i]?).map some := by
        intro r
        induction r with
        | nil => intro _; rfl
        | cons t r ih =>
          intro h
          have ht : ops[t]? = some (ops[t]'(h t (by simp))) := Array.getElem?_eq_getElem (h t (by simp))
          simp only [List.map_cons, List.filterMap_cons, ht]
          rw [ih fun u hu => h u (by simp [hu])]
      exact this l fun t ht => (sh.last t ht).1
    rw [wpOps_list l _ hlo]
    have hsat := inv.sat
    simp only [early] at hsat
    rw [sep_emp] at hsat
    refine hrun.out a w (Ev.app (fun p hp => ?_) inv.ev) hsat
    obtain ⟨⟨i, u⟩, hi, e⟩ := List.mem_filterMap.1 hp
    simp only at e
    cases h1 : (ops[i]?).bind (·.dst) with
    | none => simp [h1] at e
    | some d =>
      cases h2 : vof known i with
      | none => simp [h1, h2] at e
      | some v =>
        simp [h1, h2] at e
        subst e
        obtain ⟨hnt, q, hq, hs, _⟩ := inv.kn i v h2
        rw [hq, Option.bind_some] at h1
        exact hs ((hli i (Array.getElem?_eq_some_iff.1 hq).1).2 hnt) d h1
  have ends : ∀ (listed : Array Bool), (∀ i, i < ops.size → lis listed i) → ∀ (f : Nat), Ok ops f listed [] → listed.toList.count false ≤ f → ∀ known Pk L dl lk ea a w, InvD P n w0 ops tail E A known Pk L dl lk ea listed a w → Sd P n w0 ops tail E A K known Pk L dl lk → wpOps P ops (Qk K) [] a w := by
    intro listed hall f hok hc known Pk L dl lk ea a w inv st
    obtain ⟨known', Pk', dl', lk', inv', nd⟩ := st.node inv
    cases nd with
    | take i F hnl hrest k =>
      obtain ⟨_, _, o, ho, _⟩ := inv'.dd i F (by simp)
      exact absurd (hall i (Array.getElem?_eq_some_iff.1 ho).1) hnl
    | chain c o R hi hn hd hm ht hrest h k hP => exact absurd (hall c (Array.getElem?_eq_some_iff.1 hi).1) (inv'.fresh hn hd)
    | tail hall2 h =>
      refine fin f listed [] hok hc known' Pk' L ea a w inv' (fun i hi => ⟨fun _ hm => ?_, fun _ => hall i hi⟩) h
      rcases inv'.li i (hall i hi) with ⟨v, hv⟩ | hk
      · exact (inv'.kn i v hv).1 hm
      · simp [keysD, keysK] at hk
  induction hok with
  | zero listed => intro hc known Pk L dl lk ea a w inv st; exact ends listed (fun i hi => count_all hc i (by have := inv.size; omega)) 0 (.zero _) hc known Pk L dl lk ea a w inv st
  | stop f listed h => intro hc known Pk L dl lk ea a w inv st; exact ends listed (all_listed sh.ord inv.size h) f (.stop f listed h) hc known Pk L dl lk ea a w inv st
  | step f i o listed l hi ho hr kk ih =>
    intro hc known Pk L dl lk ea a w inv st
    have hc' : (listed.setIfInBounds i true).toList.count false ≤ f := by
      have := count_set listed.toList i (by simpa using hi)
      simp
      omega
    obtain ⟨known', Pk', dl', lk', inv', nd⟩ := st.node inv
    have hni : ¬ lis listed i := by unfold lis; rw [hi]; simp
    have hisz := (Array.getElem?_eq_some_iff.1 ho).1
    have hdk : ∀ j, j ∈ keysD dl' → vof known' j = none := fun j hj => by
      obtain ⟨⟨j, F⟩, hm, rfl⟩ := List.mem_map.1 hj
      exact (inv'.dd j F hm).2.1
    have hkk : ∀ j, j ∈ keysK lk' → vof known' j = none := fun j hj => by
      obtain ⟨⟨j, p, f, C⟩, hm, rfl⟩ := List.mem_map.1 hj
      exact (inv'.lkI j p f C hm).2.1
    cases hk : vof known' i with
    | some v =>
      have hid : i ∉ keysD dl' := fun hm => by rw [hdk i hm] at hk; cases hk
      obtain ⟨hnt, q, hq, _, hp⟩ := inv'.kn i v hk
      rw [ho] at hq
      obtain rfl := Option.some.inj hq
      obtain ⟨kn, Pk0, N, hsub, rfl, hp2⟩ := hp hni
      have hev := inv'.dep hr hsub
      have hbk : ∀ j u, vof known' j = some u → (j = i → u = v) ∧ (j ≠ i → vof known' j = some u) := fun j u hj => ⟨fun e => by subst e; rw [hk] at hj; exact (Option.some.inj hj).symm, fun _ => hj⟩
      rcases hp2 with ⟨hm, hq⟩ | ⟨hm, rfl⟩
      · have hw := inv'.wants hr hsub hm
        simp only [wpOps, ho, hw, if_true]
        left
        have hsat : Sat w0 w (A * Pk0 * (N * L * early ea dl')) := inv'.sat.conv (by ac_rfl)
        refine hq.out a w (N * L * early ea dl') _ _ hev hsat fun w' hs => ?_
        exact ih hc' known' (Pk0 * N) L dl' lk' ea _ w' (inv'.next sh hi ho hr hnt (.inl hk) (fun _ _ h => h) hbk (fun h => absurd h hid) (fun _ _ => rfl) hkk hdk ⟨emp, (sep_emp _).symm⟩ (hs.conv (by ac_rfl))) nd.sd
      · have hw := inv'.wants hr hsub hm
        simp only [wpOps, ho, hw, Bool.false_eq_true, if_false]
        exact ih hc' known' (Pk0 * N) L dl' lk' ea _ w (inv'.next sh hi ho hr hnt (.inl hk) (fun _ _ h => h) hbk (fun h => absurd h hid) (fun _ _ => rfl) hkk hdk ⟨emp, (sep_emp _).symm⟩ inv'.sat) nd.sd
    | none =>
      by_cases hid : i ∈ keysD dl'
      · obtain ⟨⟨i', F⟩, hmem, e⟩ := List.mem_map.1 hid
        simp only at e
        subst e
        obtain ⟨hnt, _, q, hq, _, hp⟩ := inv'.dd i' F hmem
        rw [ho] at hq
        obtain rfl := Option.some.inj hq
        obtain ⟨kn, Pk0, N, hsub, rfl, hm, ha⟩ := hp hni
        have hev := inv'.dep hr hsub
        have hw := inv'.wants hr hsub hm
        simp only [wpOps, ho, hw, if_true]
        left
        have hsat : Sat w0 w (A * Pk0 * (N * L * early ea dl')) := inv'.sat.conv (by ac_rfl)
        refine ha.out a w (N * L * early ea dl') _ _ hev hsat fun v w' hs => ?_
        have hsat' : Sat w0 w' (A * (Pk0 * N) * L * early (seta ea i' v) dl') := by
          rw [early_set inv'.nd hmem (inv'.en i' hni)]
          exact hs.conv (by ac_rfl)
        exact ih hc' known' (Pk0 * N) L dl' lk' (seta ea i' v) _ w' (inv'.next sh hi ho hr hnt (.inr (.inl hid)) (fun _ _ h => h) (fun j u hj => ⟨fun e => (by subst e; rw [hk] at hj; cases hj), fun _ => hj⟩)
          (fun _ => by unfold seta; rw [if_pos rfl]) (fun j hj => by unfold seta; rw [if_neg hj]) hkk hdk ⟨emp, (sep_emp _).symm⟩ hsat') nd.sd
      · by_cases hik : i ∈ keysK lk'
        · obtain ⟨⟨i', j, f, C⟩, hmem, e⟩ := List.mem_map.1 hik
          simp only at e
          subst e
          obtain ⟨hnt, _, _, hst, q, hq, hjq, _, hp⟩ := inv'.lkI i' j f C hmem
          rw [ho] at hq
          obtain rfl := Option.some.inj hq
          obtain ⟨kn, Pk0, N, hsub, rfl, hqs⟩ := hp hni
          have hjl := hr j hjq
          obtain ⟨u, hju, hC, hslot⟩ : ∃ u, jv known' dl' ea j u ∧ C u ∧ ∀ d, (ops[j]?).bind (·.dst) = some d → a.tmps.getD d undef = u := by
            rcases hst with ⟨F, hF, hFC⟩ | ⟨u, hu, hC⟩
            · obtain ⟨_, _, oj, hoj, h2, _⟩ := inv'.dd j F hF
              obtain ⟨u, hu, hs⟩ := h2 hjl
              obtain ⟨Y, hY⟩ := early_has hF hu
              refine ⟨u, .inr ⟨List.mem_map.2 ⟨_, hF, rfl⟩, hu⟩, hFC u ⟨w, A * (Pk0 * N) * L * Y, inv'.sat.conv (by rw [hY]; generalize F u = Z; ac_rfl)⟩, fun d hd => ?_⟩
              rw [hoj, Option.bind_some] at hd
              exact hs d hd
            · obtain ⟨_, oj, hoj, h2, _⟩ := inv'.kn j u hu
              refine ⟨u, .inl hu, hC, fun d hd => ?_⟩
              rw [hoj, Option.bind_some] at hd
              exact h2 hjl d hd
          have hsl : ∀ x v d, x ∈ aft o → vof ((j, u) :: kn) x = some v → (ops[x]?).bind (·.dst) = some d → a.tmps.getD d undef = v := fun x v d hx hv hd => by
            by_cases e : j = x
            · subst e
              rw [vof_cons_eq] at hv
              obtain rfl := Option.some.inj hv
              exact hslot d hd
            · rw [vof_cons_ne e] at hv
              obtain ⟨_, q, hq, hs, _⟩ := inv'.kn x v (hsub x v hv)
              rw [hq, Option.bind_some] at hd
              exact hs (hr x hx) d hd
          obtain ⟨hm, hq⟩ := hqs u hC
          have hw := wants0 hsl hm
          simp only [wpOps, ho, hw, if_true]
          left
          have hsat : Sat w0 w (A * Pk0 * (N * L * early ea dl')) := inv'.sat.conv (by ac_rfl)
          refine hq.out a w (N * L * early ea dl') _ _ (dep0 inv'.ev hsl) hsat fun w' hs => ?_
          exact ih hc' known' (Pk0 * N) L dl' lk' ea _ w' (inv'.next sh hi ho hr hnt (.inr (.inr ⟨j, f, C, u, hmem, hju, rfl⟩)) (fun _ _ h => h) (fun x z hx => ⟨fun e => (by subst e; rw [hk] at hx; cases hx), fun _ => hx⟩) (fun h => absurd h hid) (fun _ _ => rfl) hkk hdk ⟨emp, (sep_emp _).symm⟩ (hs.conv (by ac_rfl))) nd.sd
        have hidf : has (keysD dl' ++ keysK lk') i = false := by
          cases hb : has (keysD dl' ++ keysK lk') i with
          | false => rfl
          | true => exact absurd (List.mem_append.1 (has_iff.1 hb)) (fun h => h.elim hid hik)
        have late : ∀ (c : Nat) (dl0 : Dl), (∀ j, j ∈ keysD dl0 → j ∈ keysD dl') → c ≠ i → ¬ lis listed c → ¬ ((List.range ops.size).all (fun j => (vof known' j).isSome || has (c :: (keysD dl0 ++ keysK lk')) j || reach (befs ops.toList []) c j) = true) := by
          intro c dl0 hsubk hci hcl hrest
          have hx := List.all_eq_true.1 hrest i (by simpa using hisz)
          simp only [Bool.or_eq_true, hk, Option.isSome_none, Bool.false_eq_true, false_or] at hx
          rcases hx with hx | hx
          · rcases List.mem_cons.1 (has_iff.1 hx) with e | e
            · exact hci e.symm
            · exact (List.mem_append.1 e).elim (fun e => hid (hsubk i e)) hik
          · exact hcl (reach_listed sh.ord inv'.cl i o ho hr c hx)
        cases nd with
        | take j F hnl hrest k =>
          rename_i dl0
          refine absurd hrest (late j dl0 (fun x hx => by simp only [keysD, List.map_cons, List.mem_cons] at *; exact .inr hx) (fun e => ?_) hnl)
          subst e
          exact hid (by simp [keysD])
        | chain c p R hci hn hd hm ht hrest h k hP =>
          by_cases hic : c = i
          · subst hic
            rw [ho] at hci
            obtain rfl := Option.some.inj hci
            have hnt : c ∉ tail := fun hm => by rw [has_iff.2 hm] at ht; cases ht
            have hw := inv'.wants hr (fun _ _ h => h) hm
            simp only [wpOps, ho, hw, if_true]
            left
            have hsat : Sat w0 w (A * early ea dl' * Pk' * L) := inv'.sat.conv (by ac_rfl)
            refine (h (early ea dl')).out a w _ _ (inv'.dep hr fun _ _ h => h) hsat fun v P' L' w' hR hs => ?_
            exact ih hc' ((c, v) :: known') P' L' dl' lk' ea _ w' (inv'.next sh hi ho hr hnt (.inl vof_cons_eq) (fun j u hj => vof_mono hn hj) (fun j u hj => ⟨fun e => by subst e; rw [vof_cons_eq] at hj; exact (Option.some.inj hj).symm, fun e => by rw [vof_cons_ne (fun q => e q.symm)] at hj; exact hj⟩)
              (fun h => absurd h hid) (fun _ _ => rfl) (fun j hj => by rw [vof_cons_ne (fun q => hik (by rw [q]; exact hj))]; exact hkk j hj) (fun j hj => by rw [vof_cons_ne (fun q => hid (by rw [q]; exact hj))]; exact hdk j hj) (hP v P' L' hR) (hs.conv (by ac_rfl))) (k v P' L' hR)
          · exact absurd hrest (late c dl' (fun _ h => h) hic (inv'.fresh hn hd))
        | tail hall h =>
          have hx := List.all_eq_true.1 hall i (by simpa using hisz)
          simp only [Bool.or_eq_true, hk, Option.isSome_none, Bool.false_eq_true, false_or] at hx
          have hit := has_iff.1 hx
          refine fin (f + 1) listed (i :: l) (.step f i o listed l hi ho hr kk) hc known' Pk' L ea a w inv' (fun j hj => ⟨fun hlj hm => ?_, fun hm => ?_⟩) h
          · rcases inv'.li j hlj with ⟨v, hv⟩ | hk2
            · exact (inv'.kn j v hv).1 hm
            · simp [keysD, keysK] at hk2
          · exact reach_listed sh.ord inv'.cl i o ho hr j ((sh.last i hit).2 j hj hm)
theorem Run.drawD {fid : Fid} {R : Ending → World → Prop} {k : List Item} {id : Nat} {l : List Oper} {A1 L : Asn} (tail : List Nat) (hmix : P.follows .mixedOrders = true) (hA : A1 = A * L) (hchk : chk l tail (E.map (·.1)) n = true)
    (h : Sd P n w0 l.toArray tail E A (Runs P fid R k) [] emp L [] []) (hd : (fid.ro.isNone || noDefer l.toArray) = true := by rfl) : Run P fid n R w0 (.code (.region id l.toArray true) :: k) E A1 := by
  subst hA
  refine ⟨fun a w he hs => Runs.regionD hd fun t => ?_⟩
  have hw : wpOps P l.toArray (Qk (Runs P fid R k)) (Region.schedule (P.follows .mixedOrders) l.toArray t) a { w with drawn := w.drawn + 1 } := by
    rw [hmix]
    unfold Region.schedule
    simp only [Bool.true_or, if_true]
    obtain ⟨ol, hl, hok⟩ := lin_ok l.toArray l.toArray.size t (Array.replicate l.toArray.size false) [] (by simp)
    unfold Region.linearise
    rw [hl]
    simp only [List.reverse_nil, List.nil_append]
    have hnl : ∀ i, ¬ lis (Array.replicate l.toArray.size false) i := by
      intro i hi
      unfold lis at hi
      have := Array.getElem?_eq_some_iff.1 hi
      simp at this
    refine draw_soundD (Shape.of_chk hchk) _ _ _ hok (by simp) [] emp L [] [] (fun _ => none) a _ ⟨by simp, he, ?_, ?_, ?_, ?_, List.nodup_nil, List.nodup_nil, fun _ _ => rfl, ?_, ?_⟩ h
    · have := hs.drawnN (w.drawn + 1)
      refine this.conv ?_
      simp only [early]
      rw [sep_emp, sep_emp]
    · intro i v hv; simp [vof] at hv
    · intro i F hi; simp at hi
    · intro i j f C hi; simp at hi
    · intro i hi; exact absurd hi (hnl i)
    · intro i o hi; exact absurd hi (hnl i)
  exact hw
variable {known : List (Nat × Value)} {Pk L : Asn} {dl : Dl} {lk : Lk} {j : Nat}
theorem Sd.splitB {b : Bool} (h1 : b = true → Sd P n w0 ops tail E A K ((j, .bool true) :: known) Pk L dl lk) (h2 : b = false → Sd P n w0 ops tail E A K ((j, .bool false) :: known) Pk L dl lk) : Sd P n w0 ops tail E A K ((j, .bool b) :: known) Pk L dl lk := by
  cases b with
  | true => exact h1 rfl
  | false => exact h2 rfl
theorem Sd.splitBF {b : Bool} (e : b = false) (h1 : Sd P n w0 ops tail E A K ((j, .bool false) :: known) Pk L dl lk) : Sd P n w0 ops tail E A K ((j, .bool b) :: known) Pk L dl lk := e ▸ h1
theorem Sd.splitD {p : Prop} [Decidable p] (h1 : p → Sd P n w0 ops tail E A K ((j, .bool true) :: known) Pk L dl lk) (h2 : ¬ p → Sd P n w0 ops tail E A K ((j, .bool false) :: known) Pk L dl lk) : Sd P n w0 ops tail E A K ((j, .bool (decide p)) :: known) Pk L dl lk :=
  Sd.splitB (fun e => h1 (of_decide_eq_true e)) (fun e => h2 (of_decide_eq_false e))
theorem Sd.splitN {p : Prop} [Decidable p] (h1 : ¬ p → Sd P n w0 ops tail E A K ((j, .bool true) :: known) Pk L dl lk) (h2 : p → Sd P n w0 ops tail E A K ((j, .bool false) :: known) Pk L dl lk) : Sd P n w0 ops tail E A K ((j, .bool (!decide p)) :: known) Pk L dl lk :=
  Sd.splitB (fun e => h1 (by simpa using e)) (fun e => h2 (by simpa using e))
/-- One operation that all the others wait for, walked like any other. -/
theorem Sd.exec (c : Nat) {d : Nat} {op : Op} {ty : TypeId} {ps : String} {af : Array Edge} {g : Option (Nat × Bool)}
    (hi : ops[c]? = some { dst := some d, op, type := ty, pos := ps, after := af, guard := g }) (hn : vof known c = none) (hd : has (keysD dl ++ keysK lk) c = false) (hm : met ops known { dst := some d, op, type := ty, pos := ps, after := af, guard := g } = some true) (ht : has tail c = false)
    (hrest : (List.range ops.size).all (fun j => (vof known j).isSome || has (c :: (keysD dl ++ keysK lk)) j || reach (befs ops.toList []) c j) = true) (hdn : Nat.blt d n = true)
    (h : ∀ (X : Asn) (K' : Act → World → Prop), (∀ v P' L', Sd P n w0 ops tail E A K ((c, v) :: known) P' L' dl lk → (∃ N, P' = Pk * N) → RunL P n w0 #[] [] K' ((d, v) :: (depE ops known { dst := some d, op, type := ty, pos := ps, after := af, guard := g } ++ E)) (A * X * P' * L')) →
      RunL P n w0 #[] [{ dst := some d, op, type := ty, pos := ps, after := af, guard := none }] K' (depE ops known { dst := some d, op, type := ty, pos := ps, after := af, guard := g } ++ E) (A * X * Pk * L)) : Sd P n w0 ops tail E A K known Pk L dl lk :=
  .chain c _ (fun v P' L' => Sd P n w0 ops tail E A K ((c, v) :: known) P' L' dl lk ∧ ∃ N, P' = Pk * N) hi hn hd hm ht hrest (fun X => COp.of (ops := #[]) hdn fun K' hK => h X K' fun v P' L' st hN => hK v P' L' ⟨st, hN⟩) (fun _ _ _ hR => hR.1) (fun _ _ _ hR => hR.2)
theorem Sd.ret {X : Asn} {K' : Act → World → Prop} {E' : Env} {c d : Nat} (hK : ∀ v P' L', Sd P n w0 ops tail E A K ((c, v) :: known) P' L' dl lk → (∃ N, P' = Pk * N) → RunL P n w0 #[] [] K' ((d, v) :: E') (A * X * P' * L'))
    {v : Value} {A1 P' L' : Asn} (hA : A1 = A * X * P' * L') (hP : ∃ N, P' = Pk * N) (st : Sd P n w0 ops tail E A K ((c, v) :: known) P' L' dl lk) : RunL P n w0 #[] [] K' ((d, v) :: E') A1 := by
  subst hA
  exact hK v P' L' st hP
/-- A maker of memory that may run early. -/
theorem Sd.make {F : Value → Asn} (c : Nat) {d : Nat} {op : Op} {ty : TypeId} {ps : String} {af : Array Edge} {g : Option (Nat × Bool)}
    (hi : ops[c]? = some { dst := some d, op, type := ty, pos := ps, after := af, guard := g }) (hn : vof known c = none) (hd : has (keysD dl ++ keysK lk) c = false) (hm : met ops known { dst := some d, op, type := ty, pos := ps, after := af, guard := g } = some true) (ht : has tail c = false) (hdn : Nat.blt d n = true)
    (h : ∀ (X : Asn) (K' : Act → World → Prop), (∀ v, RunL P n w0 #[] [] K' ((d, v) :: (depE ops known { dst := some d, op, type := ty, pos := ps, after := af, guard := g } ++ E)) (A * X * Pk * F v)) →
      RunL P n w0 #[] [{ dst := some d, op, type := ty, pos := ps, after := af, guard := none }] K' (depE ops known { dst := some d, op, type := ty, pos := ps, after := af, guard := g } ++ E) (A * X * Pk))
    (k : Sd P n w0 ops tail E A K known Pk L ((c, F) :: dl) lk) : Sd P n w0 ops tail E A K known Pk L dl lk := by
  refine .decl c _ F hi hn hd hm ht ⟨fun a w X K0 Q he hs hk => ?_⟩ k
  have hc := COp.of (P := P) (n := n) (w0 := w0) (A := A * X) (E' := depE ops known { dst := some d, op, type := ty, pos := ps, after := af, guard := g } ++ E) (B := A * X * Pk) (R := fun v P' L' => P' = Pk ∧ L' = F v) (ops := #[]) (op := op) (ty := ty) (ps := ps) (af := af) (g := g) hdn
    (fun K' hK => h X K' fun v => hK v Pk (F v) ⟨rfl, rfl⟩)
  refine hc.out a w K0 Q he (hs.conv (by ac_rfl)) fun v P' L' w' hR hs' => ?_
  obtain ⟨rfl, rfl⟩ := hR
  exact hk v w' (hs'.conv (by generalize F v = Y; ac_rfl))
theorem rdOf {e : TypeId} {size m : Nat} {v : Value} {xs : List Value} (h : ∃ w X, Sat w0 w (X * own e size v m xs)) : Rd w0 (own e size v m xs) v size m xs := by
  obtain ⟨w, X, s⟩ := h
  exact s.ownRd0
end sound
theorem bnF {p : Prop} [Decidable p] (h : p) : (!decide p) = false := by simp [h]
end Go.Proofs.Yteopadjihklkmaa
end
