/- Part 10 of the proof of ShellFormats. -/
import Derived.Test.YteopadjihklkmaaMShellFormats9
import Derived.Laws.IdiomCopy
import Derived.ArgAppend
section
namespace Go.Proofs.Yteopadjihklkmaa
open Go
def encS (s : List UInt8) : List Value := [S s]
instance : OneC encS := ⟨fun a u hu => by
  simp only [encS, List.mem_singleton] at hu
  subst hu
  rfl⟩
section
variable {P : Program} {n : Nat} {w0 : World} {ops : Array Oper} {l : List Oper} {K : Act → World → Prop} {E : Env} {A : Asn} {ty : TypeId} {ps : String} {af : Array Edge}
theorem RunL.box1 {d : Nat} {e : TypeId} {x : Operand} {v : Value} (hc : v.cells = #[v]) (hx : ev E x = some v) (hd : Nat.blt d n = true) (r : ∀ b, RunL P n w0 ops l K ((d, .pointer (some ⟨b, 0, none⟩)) :: E) (A * pts b (.cells #[v] e (0, 0)))) :
    RunL P n w0 ops ({ dst := some d, op := .box e x, type := ty, pos := ps, after := af, guard := none } :: l) K E A :=
  RunL.box hx hd fun b => by rw [hc]; exact r b
/-! ### Function values -/
theorem OpOk.makeFunc {f : Fn} {first cap : List Operand} {vs us : List Value} (h1 : evs E first = some vs) (h2 : evs E cap = some us) : OpOk P n w0 (.makeFunc f first.toArray cap.toArray) ty E A (.func f vs.toArray us.toArray) :=
  .pure fun a w _ _ _ _ he => by
    have e1 : first.toArray.map a.eval = vs.toArray := by
      apply Array.toList_inj.1
      simpa using he.evals h1
    have e2 : cap.toArray.map a.eval = us.toArray := by
      apply Array.toList_inj.1
      simpa using he.evals h2
    simp only [execOp, e1, e2]
    rfl
theorem RunL.callV {d : Nat} {f : FuncId} {x : Operand} {args : List Operand} {ats : Array TypeId} {vs us : List Value} {R' : Value → Asn → Prop} (hc : Callee P f) (hx : ev E x = some (.func (.func f) #[] us.toArray)) (hv : evs E args = some vs) (sp : Spec P w0 f (vs ++ us) A R') (hd : Nat.blt d n = true)
    (r : ∀ v A', R' v A' → RunL P n w0 ops l K ((d, v) :: E) A') :
    RunL P n w0 ops ({ dst := some d, op := .call { callee := .value x, args := args.toArray, argTypes := ats }, type := ty, pos := ps, after := af, guard := none } :: l) K E A := by
  refine ⟨fun a w he hs => ?_⟩
  refine wpList_plain rfl fun K' hK => ?_
  unfold Oper.wp
  obtain ⟨fn, h1, h2, h3⟩ := hc.is
  have e1 : (execOp a.eval { dst := some d, op := .call { callee := .value x, args := args.toArray, argTypes := ats }, type := ty, pos := ps, after := af, guard := none }).run P w = .ok (.enter f (vs ++ us).toArray) w := by
    have e2 : args.toArray.map a.eval = vs.toArray := by
      apply Array.toList_inj.1
      simpa using he.evals hv
    have e3 := he.eval hx
    simp only [execOp, resolve, e3, Deferred.ofValue, invoke, callFunc, Sem.run_bind, Sem.run_pure, run_program, Result.andThen_ok, h1, h2, h3, Bool.false_eq_true, if_false, e2, Array.empty_append]
    simp
  rw [e1]
  refine (sp.out w hs).mono fun e w' hp => ?_
  obtain ⟨v, A', hR, rfl, hs'⟩ := hp
  exact hK _ _ ((r v A' hR).out _ _ (he.put (Nat.le_of_ble_eq_true hd) _) hs')
theorem Spec.ent {f : FuncId} {args : List Value} {R R' : Value → Asn → Prop} (hr : ∀ v A', R v A' → ∃ A2, (∀ w, Sat w0 w A' → Sat w0 w A2) ∧ R' v A2) (h : Spec P w0 f args A R) : Spec P w0 f args A R' :=
  ⟨fun w hs => (h.out w hs).mono fun _ _ ⟨v, _, hR, he, hs⟩ => let ⟨A2, e, hR2⟩ := hr _ _ hR; ⟨v, A2, hR2, he, e _ hs⟩⟩
end
end Go.Proofs.Yteopadjihklkmaa
end
