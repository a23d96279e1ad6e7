/- Ranges whose values are in fresh memory. Words of our own. -/
import Derived.Test.YteopadjihklkmaaRg
namespace Go.Proofs.Yteopadjihklkmaa
open Go
section
variable {P : Program} {n : Nat} {w0 : World} {ops : Array Oper} {ls : List Oper} {K : Act → World → Prop} {E : Env} {A : Asn}
theorem RunY.call {d : Nat} {f : FuncId} {args : List Operand} {ats : Array TypeId} {vs : List Value} {ty : TypeId} {ps : String} {af : Array Edge} {R' : Value → Asn → Prop} (hc : Callee P f) (hv : evs E args = some vs) (sp : Spec P w0 f vs A R') (hd : Nat.blt d n = true)
    (r : ∀ v A', R' v A' → RunY P n w0 ops ls K ((d, v) :: E) A') :
    RunY P n w0 ops ({ dst := some d, op := .call { callee := .value (.func f), args := args.toArray, argTypes := ats }, type := ty, pos := ps, after := af, guard := none } :: ls) K E A := by
  refine ⟨fun a w he hs => wpListIn_plain rfl fun K' hK => ?_⟩
  have hund : ∀ a : Act, und a [] = a := fun a => by simp [und]
  have hU : Und [] K = K := by
    funext a w
    exact propext ⟨fun ⟨a1, e, hk⟩ => by rw [hund] at e; exact e ▸ hk, fun hk => ⟨a, (hund a).symm, hk⟩⟩
  have h : Oper.wp P { dst := some d, op := .call { callee := .value (.func f), args := args.toArray, argTypes := ats }, type := ty, pos := ps, after := af, guard := none } a w K' (Qk K) := by
    unfold Oper.wp
    obtain ⟨fn, h1, h2, h3⟩ := hc.is
    have e1 : (execOp a.eval { dst := some d, op := .call { callee := .value (.func f), args := args.toArray, argTypes := ats }, type := ty, pos := ps, after := af, guard := none }).run P w = .ok (.enter f vs.toArray) w := by
      have e2 : args.toArray.map a.eval = vs.toArray := by
        apply Array.toList_inj.1
        simpa using he.evals hv
      have e3 : a.eval (.func f) = .func (.func f) #[] #[] := rfl
      simp only [execOp, resolve, e3, Deferred.ofValue, invoke, callFunc, Sem.run_bind, Sem.run_pure, run_program, Result.andThen_ok, h1, h2, h3, Bool.false_eq_true, if_false, e2, Array.empty_append, Array.append_empty]
    rw [e1]
    refine (sp.out w hs).mono fun e w' hp => ?_
    obtain ⟨v, A', hR, rfl, hs'⟩ := hp
    exact hK _ _ ((r v A' hR).out _ _ (he.put (Nat.le_of_ble_eq_true hd) _) hs')
  have := oper_in (ro := none) (m := []) (next' := K') (.inl rfl) (fun a w hq => by rw [hund]; exact hq) h
  rw [hund, hU] at this
  exact this
theorem RunY.know {p : Prop} (e : ∀ w, Sat w0 w A → p) (h : p → RunY P n w0 ops ls K E A) : RunY P n w0 ops ls K E A := ⟨fun a w he hs => (h (e w hs)).out a w he hs⟩
end
/-- The function hands N things to yield, one behind the other, each in new memory of its own, till yield says no; it leaves all memory but its own as the rounds left it. -/
structure IterF (P : Program) (w0 : World) (gf : FuncId) (cap : List Value) (N : Nat) {U : Type} (arg : U → Value) (G : Nat → U → Asn) (B Kp : Asn) : Prop where
  callee : Callee P gf
  out : ∀ (l : Nat) (Y : Type) (I : Nat → Y → Prop) (M : Y → Asn) (S : Y → Prop)
    (_ : ∀ i y u J, i < N → I i y → YieldOk P w0 l (arg u) (J * G i u * M y) (fun v A' => (v = .bool true ∧ ∃ y', I (i + 1) y' ∧ A' = J * M y') ∨ (v = .bool false ∧ ∃ y', S y' ∧ A' = J * M y'))) (y0 : Y) (_ : I 0 y0),
    Spec P w0 gf (.func (.yield l) #[] #[] :: cap) (M y0 * (B * Kp)) (fun _ A' => ∃ y J, (I N y ∨ S y) ∧ A' = J * M y * Kp)
theorem Run.rangeF {P : Program} {f : FuncId} {ds : List Nat} {n : Nat} {R : Ending → World → Prop} {w0 : World} {k : List Item} {E : Env} {A : Asn} {Z : Type} {g : Operand} {p : Nat} {assign body : Code} {gf : FuncId} {cap : List Value} {N : Nat} {U : Type} {arg : U → Value} {G : Nat → U → Asn} {B Kp : Asn}
    (it : IterF P w0 gf cap N arg G B Kp) (hg : ev E g = some (.func (.func gf) #[] cap.toArray)) (hp : Nat.blt p n = true) (M : Z → Asn) (I : Nat → Z → Prop) (S : Code → Z → Prop) (z0 : Z) (hI : I 0 z0) (hA : A = M z0 * (B * Kp) * marks ds)
    (round : ∀ (RR : Ending → World → Prop) l rc i z u J, i < N → I i z →
      (∀ z', I (i + 1) z' → ∀ E', Run P ⟨f, some l, []⟩ n RR w0 [] E' (M z' * J * lp l rc .busy none)) →
      (∀ z', S .ret z' → ∀ k' E', Run P ⟨f, some l, []⟩ n RR w0 (.code .ret :: k') E' (M z' * J * lp l rc .busy none)) →
      (∀ id z', S (.exit id) z' → ∀ k' E', exitTo id k' = none → Run P ⟨f, some l, []⟩ n RR w0 (.code (.exit id) :: k') E' (M z' * J * lp l rc .busy none)) →
      Run P ⟨f, some l, []⟩ n RR w0 [.code assign, .beginRound, .code body] ((p, arg u) :: E) (M z * G i u * J * lp l rc .ready none))
    (done : ∀ z J D, I N z → Run P ⟨f, none, D :: ds⟩ n R w0 k E (M z * Kp * J * marks (D :: ds)))
    (stop : ∀ c z J D, S c z → Run P ⟨f, none, D :: ds⟩ n R w0 (.code c :: k) E (M z * Kp * J * marks (D :: ds))) :
    Run P ⟨f, none, ds⟩ n R w0 (.code (.rangeFunc g #[p] assign body) :: k) E A := by
  subst hA
  refine ⟨fun a w he hs cs => ?_⟩
  obtain ⟨fn, c1, c2, c3⟩ := it.callee.is
  have henter := run_enterLoop_outer (P := P) (w := w) f a.tmps #[p] assign body
  obtain ⟨D, hD⟩ : ∃ D, D = w.heap.size := ⟨_, rfl⟩
  obtain ⟨l, hl⟩ : ∃ l, l = w.heap.size + 1 := ⟨_, rfl⟩
  obtain ⟨rc, hrc⟩ : ∃ rc : Loop, rc = { state := .ready, pending := none, fn := f, tmps := a.tmps, params := #[p], assign, body, defers := w.heap.size } := ⟨_, rfl⟩
  obtain ⟨w1, hw1⟩ : ∃ w1, w1 = (w.alloc (.deferred (some []))).alloc (.loop rc) := ⟨_, rfl⟩
  rw [← hrc, ← hw1] at henter
  have hs1 : Sat w0 w1 (M z0 * (B * Kp) * marks ds * pts D (.deferred (some [])) * lp l rc .ready none) := by
    have h := (hs.alloc (.deferred (some []))).alloc (.loop rc)
    rw [World.size_alloc, ← hw1, ← hl, ← hD] at h
    subst hrc
    exact h
  have sp := it.out l (Option Code × Z) (fun i y => y.1 = none ∧ I i y.2) (fun y => M y.2 * (marks (D :: ds) * lp l rc (if y.1.isNone then .ready else .done) y.1)) (fun y => ∃ c, y.1 = some c ∧ S c y.2) (fun i y u J hi hy => by
    obtain ⟨o, z⟩ := y
    obtain ⟨rfl, hz⟩ := hy
    have hround := round (Post w0 fun v A' => (v = .bool true ∧ ∃ y' : Option Code × Z, (y'.1 = none ∧ I (i + 1) y'.2) ∧ A' = J * (M y'.2 * (marks (D :: ds) * lp l rc (if y'.1.isNone then .ready else .done) y'.1))) ∨
        (v = .bool false ∧ ∃ y' : Option Code × Z, (∃ c, y'.1 = some c ∧ S c y'.2) ∧ A' = J * (M y'.2 * (marks (D :: ds) * lp l rc (if y'.1.isNone then .ready else .done) y'.1)))) l rc i z u (J * marks (D :: ds)) hi hz
      (fun z' hz' E' => Run.roundEnd (.inl ⟨rfl, (none, z'), ⟨rfl, hz'⟩, by simp only [Option.isNone_none, if_true]; ac_rfl⟩))
      (fun z' hz' k' E' => Run.roundRet (.inr ⟨rfl, (some .ret, z'), ⟨_, rfl, hz'⟩, by simp only [Option.isNone_some, Bool.false_eq_true, if_false]; ac_rfl⟩))
      (fun id z' hz' k' E' hx => Run.roundExit hx (.inr ⟨rfl, (some (.exit id), z'), ⟨_, rfl, hz'⟩, by simp only [Option.isNone_some, Bool.false_eq_true, if_false]; ac_rfl⟩))
    have hy := YieldOk.of_run (a := a) hp he (by rw [hrc]) (by rw [hrc]) (by rw [hrc]) (by rw [hrc]) (by rw [hrc]) hround
    intro w hsw
    exact hy w (hsw.conv (by simp only [Option.isNone_none, if_true]; ac_rfl))) (none, z0) ⟨rfl, hI⟩
  have hcalls := sp.out w1 (hs1.conv (by simp only [Option.isNone_none, if_true, marks]; ac_rfl))
  have hund : ({ und a ds with defers := [({ target := .collected D, args := #[] } : Deferred)] ++ (und a ds).defers } : Act) = und a (D :: ds) := by simp [und, he.defers, mkD]
  rw [← hl, ← hD] at henter
  have hstep := stepR_rangeFunc (P := P) (b := fbase ⟨f, none, ds⟩) (a := und a ds) (k := k) (cs := cs) (w := w) (g := g) (ps := #[p]) (assign := assign) (body := body) (l := l) (mark := [{ target := .collected D, args := #[] }]) (w₁ := w1) (w₁' := w1) (w₂ := w1)
    (d := { target := .fn (.func gf) cap.toArray, args := #[.func (.yield l) #[] #[]] }) (f := gf) (args := (.func (.yield l) #[] #[] :: cap).toArray) henter
    (by
      have hgv := (congrFun (und_eval a ds) g).trans (he.eval hg)
      have hcv : ∀ v, (und a ds).eval (.const v) = v := fun _ => rfl
      simp [resolve, hgv, hcv, Deferred.ofValue])
    (by
      simp only [invoke, callFunc, Sem.run_bind, Sem.run_pure, run_program, Result.andThen_ok, c1, c2, c3, Bool.false_eq_true, if_false]
      simp)
  rw [hund] at hstep
  obtain ⟨e, w3, fr, ⟨v, A3, ⟨y, J, hy, rfl⟩, rfl, hs3⟩, hc, hfn, hlv⟩ := hcalls ((fbase ⟨f, none, ds⟩).atR (und a (D :: ds)) (.inRangeFunc l :: k) :: cs)
  have hleave := step_leave_returned (c := (fbase ⟨f, none, ds⟩).atR (und a (D :: ds)) (.inRangeFunc l :: k)) (cs := cs) hlv
  rw [finish_atR_inRangeFunc] at hleave
  obtain ⟨o, z⟩ := y
  dsimp only at hs3 hy
  have hs4 : Sat w0 w3 (M z * Kp * J * marks (D :: ds) * lp l rc (if o.isNone then .ready else .done) o) := hs3.conv (by ac_rfl)
  have hend := run_endLoop (P := P) (Sat.get hs4) (by show (if o.isNone then LoopState.ready else LoopState.done) ≠ .busy; cases o <;> simp)
  have hstep2 := stepR_endRangeFunc (P := P) (b := fbase ⟨f, none, ds⟩) (a := und a (D :: ds)) (k := k) (cs := cs) hend
  have hs5 := (Sat.putO hs4 (.loop { rc with state := .exhausted, pending := o })).weak
  have hpath : Steps P (lone ((fbase ⟨f, none, ds⟩).atR (und a ds) (.code (.rangeFunc g #[p] assign body) :: k)) cs w) (lone ((fbase ⟨f, none, ds⟩).atR (und a (D :: ds)) ((o.map Item.code).toList ++ k)) cs (w3.putObj l (.loop { rc with state := .exhausted, pending := o }))) :=
    .head hstep (Steps.trans hc (.head hleave (.one hstep2)))
  have hfb : fbase ⟨f, none, ds⟩ = fbase ⟨f, none, D :: ds⟩ := rfl
  rcases hy with ⟨rfl, hz⟩ | ⟨c, rfl, hz⟩
  · obtain ⟨e4, w4, hR, hDn⟩ := (done z J D hz).out a _ he hs5 cs
    exact ⟨e4, w4, hR, fun h => (hDn.of_steps (fid := ⟨f, none, D :: ds⟩) hpath).1 rfl, fun h => by cases h⟩
  · obtain ⟨e4, w4, hR, hDn⟩ := (stop c z J D hz).out a _ he hs5 cs
    exact ⟨e4, w4, hR, fun h => (hDn.of_steps (fid := ⟨f, none, D :: ds⟩) hpath).1 rfl, fun h => by cases h⟩
/-- The same where there are no marks yet. -/
theorem Run.rangeF0 {P : Program} {f : FuncId} {n : Nat} {R : Ending → World → Prop} {w0 : World} {k : List Item} {E : Env} {A : Asn} {Z : Type} {g : Operand} {p : Nat} {assign body : Code} {gf : FuncId} {cap : List Value} {N : Nat} {U : Type} {arg : U → Value} {G : Nat → U → Asn} {B Kp : Asn}
    (it : IterF P w0 gf cap N arg G B Kp) (hg : ev E g = some (.func (.func gf) #[] cap.toArray)) (hp : Nat.blt p n = true) (M : Z → Asn) (I : Nat → Z → Prop) (S : Code → Z → Prop) (z0 : Z) (hI : I 0 z0) (hA : A = M z0 * (B * Kp))
    (round : ∀ (RR : Ending → World → Prop) l rc i z u J, i < N → I i z →
      (∀ z', I (i + 1) z' → ∀ E', Run P ⟨f, some l, []⟩ n RR w0 [] E' (M z' * J * lp l rc .busy none)) →
      (∀ z', S .ret z' → ∀ k' E', Run P ⟨f, some l, []⟩ n RR w0 (.code .ret :: k') E' (M z' * J * lp l rc .busy none)) →
      (∀ id z', S (.exit id) z' → ∀ k' E', exitTo id k' = none → Run P ⟨f, some l, []⟩ n RR w0 (.code (.exit id) :: k') E' (M z' * J * lp l rc .busy none)) →
      Run P ⟨f, some l, []⟩ n RR w0 [.code assign, .beginRound, .code body] ((p, arg u) :: E) (M z * G i u * J * lp l rc .ready none))
    (done : ∀ z J D, I N z → Run P ⟨f, none, [D]⟩ n R w0 k E (M z * Kp * J * marks [D]))
    (stop : ∀ c z J D, S c z → Run P ⟨f, none, [D]⟩ n R w0 (.code c :: k) E (M z * Kp * J * marks [D])) :
    Run P ⟨f, none, []⟩ n R w0 (.code (.rangeFunc g #[p] assign body) :: k) E A :=
  Run.rangeF it hg hp M I S z0 hI (hA.trans (sep_emp _).symm) round done stop
end Go.Proofs.Yteopadjihklkmaa
