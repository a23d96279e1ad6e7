/- Values of interfaces: making, comparing with nil, calls of a method through one. Words of our own. -/
import Derived.Test.YteopadjihklkmaaDl
namespace Go.Proofs.Yteopadjihklkmaa
open Go Go.Proofs
set_option linter.unusedSimpArgs false
section
variable {P : Program} {n : Nat} {w0 : World} {ops : Array Oper} {l : List Oper} {ty : TypeId} {ps : String} {af : Array Edge} {K : Act → World → Prop} {E : Env} {A : Asn}
theorem OpOk.makeIface {t : TypeId} {x : Operand} {v : Value} (hm : ∀ w, (Instr.makeInterface t v).run P w = .ok (.iface t v) w) (hx : ev E x = some v) : OpOk P n w0 (.makeInterface t x) ty E A (.iface t v) :=
  .pure fun a w _ _ _ _ he => by
    simp only [execOp, he.eval hx, Sem.run_bind, hm, Result.andThen_ok, Sem.run_pure]
theorem RunL.callI {d : Nat} {f : FuncId} {t : TypeId} {name : String} {x : Operand} {u v : Value} {args : List Operand} {ats : Array TypeId} {vs : List Value} {R' : Value → Asn → Prop} (hx : ev E x = some (.iface t u)) (hv : evs E args = some vs)
    (hm : ∀ w, Sat w0 w A → (callMethod (.iface t u) name vs.toArray).run P w = .ok (.enter f (v :: vs).toArray) w) (sp : Spec P w0 f (v :: vs) A R') (hd : Nat.blt d n = true)
    (r : ∀ v A', R' v A' → RunL P n w0 ops l K ((d, v) :: E) A') :
    RunL P n w0 ops ({ dst := some d, op := .call { callee := .invoke x name, args := args.toArray, argTypes := ats }, type := ty, pos := ps, after := af, guard := none } :: l) K E A := by
  refine ⟨fun a w he hs => ?_⟩
  refine wpList_plain rfl fun K' hK => ?_
  unfold Oper.wp
  have e1 : (execOp a.eval { dst := some d, op := .call { callee := .invoke x name, args := args.toArray, argTypes := ats }, type := ty, pos := ps, after := af, guard := none }).run P w = .ok (.enter f (v :: vs).toArray) w := by
    have e2 : args.toArray.map a.eval = vs.toArray := by
      apply Array.toList_inj.1
      simpa using he.evals hv
    have e3 := he.eval hx
    have e4 : (#[Value.iface t u] ++ vs.toArray).extract 1 (#[Value.iface t u] ++ vs.toArray).size = vs.toArray := by
      apply Array.toList_inj.1
      simp
    have e5 : (#[Value.iface t u] ++ vs.toArray)[0]? = some (Value.iface t u) := by simp
    simp only [execOp, resolve, e2, e3, Sem.run_bind, Sem.run_pure, Result.andThen_ok, invoke, e5, e4, hm w hs]
  rw [e1]
  refine (sp.out w hs).mono fun e w' hp => ?_
  obtain ⟨v, A', hR, rfl, hs'⟩ := hp
  exact hK _ _ ((r v A' hR).out _ _ (he.put (Nat.le_of_ble_eq_true hd) _) hs')
theorem OpOk.eqNil {t : TypeId} {q : TypeId} {x : Operand} {u : TypeId} {v : Value} (hi : P.underlying t = some (.interface (P.methodsAt t))) (hx : ev E x = some (.iface u v)) : OpOk P n w0 (.binOp .eql t x (.const .nilIface) q) ty E A (.bool false) :=
  .pure fun a w _ _ _ _ he => by
    have e : a.eval (.const .nilIface) = .nilIface := rfl
    simp only [execOp, he.eval hx, e, eqGuard, Sem.run_bind, Sem.run_pure, Result.andThen_ok, Bool.not_true, Bool.false_eq_true, if_false, run_eql_held_nil w t u v hi]
end
end Go.Proofs.Yteopadjihklkmaa
