/- Part 9 of the proof of ShellFormats. -/
import Derived.Test.YteopadjihklkmaaMShellFormats8
import Derived.RangeFuncIn
section
namespace Go.Proofs.Yteopadjihklkmaa
open Go
/-! ### The marks that a range over a function leaves -/
def marks : List Nat → Asn
  | [] => emp
  | d :: r => pts d (.deferred (some [])) * marks r
theorem Sat.putO {w0 w : World} {A : Asn} {b : Nat} {o : Obj} (h : Sat w0 w (A * pts b o)) (o' : Obj) : Sat w0 (w.putObj b o') (A * pts b o') :=
  h.upd rfl rfl rfl (by simp) (fun _ hk _ => World.putObj_heap_other hk) (World.putObj_heap_same h.lt)
/-! ### Rounds -/
/-- The record of a range under way. -/
def lp (l : Nat) (r : Loop) (st : LoopState) (pd : Option Code) : Asn := pts l (.loop { r with state := st, pending := pd })
section rounds
variable {P : Program} {f : FuncId} {l : Nat} {ds : List Nat} {n : Nat} {w0 : World} {r : Loop} {st : LoopState} {pd : Option Code} {k : List Item} {E : Env} {A : Asn}
theorem Run.beginRound {R : Ending → World → Prop} (h : Run P ⟨f, some l, ds⟩ n R w0 k E (A * lp l r .busy pd)) : Run P ⟨f, some l, ds⟩ n R w0 (.beginRound :: k) E (A * lp l r .ready pd) :=
  ⟨fun a _ he hs => (h.out a _ he (Sat.putO hs _)).step fun _ => stepR_beginRound rfl (run_beginRound (Sat.get hs) rfl)⟩
theorem Run.roundEnd {R' : Value → Asn → Prop} (hR : R' (.bool true) (A * lp l r .ready none)) : Run P ⟨f, some l, ds⟩ n (Post w0 R') w0 [] E (A * lp l r st pd) :=
  ⟨fun a w he hs _ => ⟨.returned (.bool true), w.putObj l (.loop { r with state := .ready, pending := none }), ⟨_, _, hR, rfl, Sat.putO hs _⟩, fun h => (by cases h), fun _ c cs' e => by
    subst e
    exact ⟨_, rfl, .one (stepR_round_end rfl rfl (run_endRound (r := { r with state := st, pending := pd }) none (Sat.get hs)))⟩⟩⟩
theorem Run.roundRet {R' : Value → Asn → Prop} (hR : R' (.bool false) (A * lp l r .done (some .ret))) : Run P ⟨f, some l, ds⟩ n (Post w0 R') w0 (.code .ret :: k) E (A * lp l r st pd) :=
  ⟨fun a w he hs _ => ⟨.returned (.bool false), w.putObj l (.loop { r with state := .done, pending := some .ret }), ⟨_, _, hR, rfl, Sat.putO hs _⟩, fun h => (by cases h), fun _ c cs' e => by
    subst e
    exact ⟨_, rfl, .one (stepR_round_ret rfl rfl (run_endRound (r := { r with state := st, pending := pd }) (some .ret) (Sat.get hs)))⟩⟩⟩
theorem Run.roundExit {R' : Value → Asn → Prop} {id : Nat} (hx : exitTo id k = none) (hR : R' (.bool false) (A * lp l r .done (some (.exit id)))) : Run P ⟨f, some l, ds⟩ n (Post w0 R') w0 (.code (.exit id) :: k) E (A * lp l r st pd) :=
  ⟨fun a w he hs _ => ⟨.returned (.bool false), w.putObj l (.loop { r with state := .done, pending := some (.exit id) }), ⟨_, _, hR, rfl, Sat.putO hs _⟩, fun h => (by cases h), fun _ c cs' e => by
    subst e
    exact ⟨_, rfl, .one (stepR_round_exit rfl rfl hx (run_endRound (r := { r with state := st, pending := pd }) (some (.exit id)) (Sat.get hs)))⟩⟩⟩
/-- A call of yield, from wherever A is met. -/
def YieldOk (P : Program) (w0 : World) (l : Nat) (x : Value) (A : Asn) (R' : Value → Asn → Prop) : Prop := ∀ w, Sat w0 w A → YieldAt Fence.wide 0 P l #[x] w (Post w0 R')
theorem YieldOk.of_run {p : Nat} {x : Value} {a : Act} {R' : Value → Asn → Prop} {assign body : Code} (hp : Nat.blt p n = true) (he : Ev n a E) (hf : r.fn = f) (ht : r.tmps = a.tmps) (hq : r.params = #[p]) (ha : r.assign = assign) (hb : r.body = body)
    (h : Run P ⟨f, some l, []⟩ n (Post w0 R') w0 [.code assign, .beginRound, .code body] ((p, x) :: E) (A * lp l r .ready none)) : YieldOk P w0 l x (A * lp l r .ready none) R' := by
  subst hf ha hb
  intro w hs
  refine ⟨r.fn, _, r.assign, r.body, run_yield (r := { r with state := .ready, pending := none }) (Sat.get hs) (by show #[x].size = r.params.size; rw [hq]; rfl), trivial, fun c cs _ => ?_⟩
  obtain ⟨e, w', hR, hD⟩ := h.out { tmps := a.tmps.setIfInBounds p x, defers := [] } w (by
    have h2 := he.put (Nat.le_of_ble_eq_true hp) x
    exact ⟨rfl, h2.size, h2.look⟩) hs (c :: cs)
  obtain ⟨v, rfl, hst⟩ := hD.2 rfl c cs rfl
  refine ⟨.returned v, w', hR, ?_⟩
  show StepsIn _ _ _ _
  refine stepsIn_wide.2 ?_
  have e1 : Frame.round l r.fn ((r.params.zip #[x]).foldl (fun tmps (t, a) => tmps.setIfInBounds t a) r.tmps) r.assign r.body .normal = (fbase ⟨r.fn, some l, []⟩).atR (und { tmps := a.tmps.setIfInBounds p x, defers := [] } []) [.code r.assign, .beginRound, .code r.body] := by
    rw [hq, ht]
    simp [Frame.round, Frame.atR, fbase, und]
  rw [e1]
  exact hst
end rounds
/-! ### Regions that call yield -/
structure RunY (P : Program) (n : Nat) (w0 : World) (ops : Array Oper) (l : List Oper) (K : Act → World → Prop) (E : Env) (A : Asn) : Prop where
  out : ∀ a w, Ev n a E → Sat w0 w A → wpListIn Fence.wide 0 P ops (Qk K) l a w
section yields
variable {P : Program} {fid : Fid} {n : Nat} {R : Ending → World → Prop} {w0 : World} {ops : Array Oper} {ls : List Oper} {k : List Item} {K : Act → World → Prop} {E : Env} {A : Asn}
theorem wpList_in : ∀ (l : List Oper) (a : Act) (w : World), wpList P ops (Qk K) l a w → wpListIn Fence.wide 0 P ops (Qk K) l a w
  | [], _, _, h => h
  | o :: r, a, w, h => by
    simp only [wpList] at h
    simp only [wpListIn]
    have hund : ∀ a : Act, und a [] = a := fun a => by simp [und]
    have hU : Und [] K = K := by
      funext a w
      exact propext ⟨fun ⟨a1, e, hk⟩ => by rw [hund] at e; exact e ▸ hk, fun hk => ⟨a, (hund a).symm, hk⟩⟩
    by_cases hw : Region.wanted o (yielded ops a.tmps) = true
    · rw [if_pos hw] at h ⊢
      rcases h with h | h
      · have := oper_in (ro := none) (m := []) (next' := wpListIn Fence.wide 0 P ops (Qk K) r) (.inl rfl) (fun a w hq => by rw [hund]; exact wpList_in r a w hq) h
        rw [hund, hU] at this
        exact this
      · exact (not_out h.2).elim
    · rw [if_neg hw] at h ⊢
      exact ⟨fun _ _ => trivial, wpList_in r _ w h⟩
theorem RunY.of (h : RunL P n w0 ops ls K E A) : RunY P n w0 ops ls K E A := ⟨fun a w he hs => wpList_in ls a w (h.out a w he hs)⟩
theorem RunY.mem {A' : Asn} (e : A = A') (h : RunY P n w0 ops ls K E A') : RunY P n w0 ops ls K E A := e ▸ h
theorem RunY.ok {d : Nat} {op : Op} {ty : TypeId} {ps : String} {af : Array Edge} {v : Value} (h : OpOk P n w0 op ty E A v) (hd : Nat.blt d n = true) (r : RunY P n w0 ops ls K ((d, v) :: E) A) :
    RunY P n w0 ops ({ dst := some d, op, type := ty, pos := ps, after := af, guard := none } :: ls) K E A := by
  refine ⟨fun a w he hs => wpListIn_plain rfl fun K' hK => ⟨fun _ _ => trivial, ?_⟩⟩
  obtain ⟨w', hr, hs'⟩ := h.out a w (some d) ps af none he hs
  show Oper.uponIn Fence.wide 0 P _ a K' _ ((execOp a.eval _).run P w)
  rw [hr]
  exact hK _ _ (r.out _ _ (he.put (Nat.le_of_ble_eq_true hd) _) hs')
theorem RunY.yield {l : Nat} {d : Nat} {x y : Operand} {v : Value} {ats : Array TypeId} {ty : TypeId} {ps : String} {af : Array Edge} {R' : Value → Asn → Prop} (hx : ev E x = some (.func (.yield l) #[] #[])) (hy : ev E y = some v) (Y : YieldOk P w0 l v A R') (hd : Nat.blt d n = true)
    (r : ∀ u A', R' u A' → RunY P n w0 ops ls K ((d, u) :: E) A') :
    RunY P n w0 ops ({ dst := some d, op := .call { callee := .value x, args := #[y], argTypes := ats }, type := ty, pos := ps, after := af, guard := none } :: ls) K E A := by
  refine ⟨fun a w he hs => wpListIn_plain rfl fun K' hK => ⟨fun _ _ => trivial, ?_⟩⟩
  obtain ⟨fn, tmps, assign, body, hrun, hround⟩ := Y w hs
  have e1 : (execOp a.eval { dst := some d, op := .call { callee := .value x, args := #[y], argTypes := ats }, type := ty, pos := ps, after := af, guard := none }).run P w = .ok (.round l fn tmps assign body) w := by
    simp [execOp, resolve, he.eval hx, he.eval hy, Deferred.ofValue, invoke, hrun]
  rw [show Fence.wide.round = none from rfl, Oper.semAt_none, e1]
  refine ⟨fun h => (by cases h), hround.mono fun e w' hp => ?_⟩
  obtain ⟨u, A', hR, rfl, hs'⟩ := hp
  exact hK _ _ ((r u A' hR).out _ _ (he.put (Nat.le_of_ble_eq_true hd) _) hs')
end yields
/-! ### Iterators, and the statement that ranges over one -/
/-- The function hands N things to yield, one behind the other, till yield says no; it leaves all memory but its own as the rounds left it. -/
structure IterOk (P : Program) (w0 : World) (gf : FuncId) (cap : List Value) (N : Nat) (arg : Nat → Value) (B : Asn) : Prop where
  callee : Callee P gf
  out : ∀ (l : Nat) (Y : Type) (I : Nat → Y → Prop) (M : Y → Asn) (S : Y → Prop)
    (_ : ∀ i y J, i < N → I i y → YieldOk P w0 l (arg i) (J * M y) (fun v A' => (v = .bool true ∧ ∃ y', I (i + 1) y' ∧ A' = J * M y') ∨ (v = .bool false ∧ ∃ y', S y' ∧ A' = J * M y'))) (y0 : Y) (_ : I 0 y0),
    Spec P w0 gf (.func (.yield l) #[] #[] :: cap) (M y0 * B) (fun _ A' => ∃ y J, (I N y ∨ S y) ∧ A' = J * M y)
theorem Run.range {P : Program} {f : FuncId} {ds : List Nat} {n : Nat} {R : Ending → World → Prop} {w0 : World} {k : List Item} {E : Env} {A : Asn} {Z : Type} {g : Operand} {p : Nat} {assign body : Code} {gf : FuncId} {cap : List Value} {N : Nat} {arg : Nat → Value} {B : Asn}
    (it : IterOk P w0 gf cap N arg B) (hg : ev E g = some (.func (.func gf) #[] cap.toArray)) (hp : Nat.blt p n = true) (M : Z → Asn) (I : Nat → Z → Prop) (S : Code → Z → Prop) (z0 : Z) (hI : I 0 z0) (hA : A = M z0 * B * marks ds)
    (round : ∀ (RR : Ending → World → Prop) l rc i z J, i < N → I i z →
      (∀ z', I (i + 1) z' → ∀ E', Run P ⟨f, some l, []⟩ n RR w0 [] E' (M z' * J * lp l rc .busy none)) →
      (∀ z', S .ret z' → ∀ k' E', Run P ⟨f, some l, []⟩ n RR w0 (.code .ret :: k') E' (M z' * J * lp l rc .busy none)) →
      (∀ id z', S (.exit id) z' → ∀ k' E', exitTo id k' = none → Run P ⟨f, some l, []⟩ n RR w0 (.code (.exit id) :: k') E' (M z' * J * lp l rc .busy none)) →
      Run P ⟨f, some l, []⟩ n RR w0 [.code assign, .beginRound, .code body] ((p, arg i) :: E) (M z * J * lp l rc .ready none))
    (done : ∀ z J D, I N z → Run P ⟨f, none, D :: ds⟩ n R w0 k E (M z * J * marks (D :: ds)))
    (stop : ∀ c z J D, S c z → Run P ⟨f, none, D :: ds⟩ n R w0 (.code c :: k) E (M z * J * marks (D :: ds))) :
    Run P ⟨f, none, ds⟩ n R w0 (.code (.rangeFunc g #[p] assign body) :: k) E A := by
  subst hA
  refine ⟨fun a w he hs cs => ?_⟩
  obtain ⟨fn, c1, c2, c3⟩ := it.callee.is
  have henter := run_enterLoop_outer (P := P) (w := w) f a.tmps #[p] assign body
  obtain ⟨D, hD⟩ : ∃ D, D = w.heap.size := ⟨_, rfl⟩
  obtain ⟨l, hl⟩ : ∃ l, l = w.heap.size + 1 := ⟨_, rfl⟩
  obtain ⟨rc, hrc⟩ : ∃ rc : Loop, rc = { state := .ready, pending := none, fn := f, tmps := a.tmps, params := #[p], assign, body, defers := w.heap.size } := ⟨_, rfl⟩
  obtain ⟨w1, hw1⟩ : ∃ w1, w1 = (w.alloc (.deferred (some []))).alloc (.loop rc) := ⟨_, rfl⟩
  rw [← hrc, ← hw1] at henter
  have hs1 : Sat w0 w1 (M z0 * B * marks ds * pts D (.deferred (some [])) * lp l rc .ready none) := by
    have h := (hs.alloc (.deferred (some []))).alloc (.loop rc)
    rw [World.size_alloc, ← hw1, ← hl, ← hD] at h
    subst hrc
    exact h
  have sp := it.out l (Option Code × Z) (fun i y => y.1 = none ∧ I i y.2) (fun y => M y.2 * (marks (D :: ds) * lp l rc (if y.1.isNone then .ready else .done) y.1)) (fun y => ∃ c, y.1 = some c ∧ S c y.2) (fun i y J hi hy => by
    obtain ⟨o, z⟩ := y
    obtain ⟨rfl, hz⟩ := hy
    have hround := round (Post w0 fun v A' => (v = .bool true ∧ ∃ y' : Option Code × Z, (y'.1 = none ∧ I (i + 1) y'.2) ∧ A' = J * (M y'.2 * (marks (D :: ds) * lp l rc (if y'.1.isNone then .ready else .done) y'.1))) ∨
        (v = .bool false ∧ ∃ y' : Option Code × Z, (∃ c, y'.1 = some c ∧ S c y'.2) ∧ A' = J * (M y'.2 * (marks (D :: ds) * lp l rc (if y'.1.isNone then .ready else .done) y'.1)))) l rc i z (J * marks (D :: ds)) hi hz
      (fun z' hz' E' => Run.roundEnd (.inl ⟨rfl, (none, z'), ⟨rfl, hz'⟩, by simp only [Option.isNone_none, if_true]; ac_rfl⟩))
      (fun z' hz' k' E' => Run.roundRet (.inr ⟨rfl, (some .ret, z'), ⟨_, rfl, hz'⟩, by simp only [Option.isNone_some, Bool.false_eq_true, if_false]; ac_rfl⟩))
      (fun id z' hz' k' E' hx => Run.roundExit hx (.inr ⟨rfl, (some (.exit id), z'), ⟨_, rfl, hz'⟩, by simp only [Option.isNone_some, Bool.false_eq_true, if_false]; ac_rfl⟩))
    have hy := YieldOk.of_run (a := a) hp he (by rw [hrc]) (by rw [hrc]) (by rw [hrc]) (by rw [hrc]) (by rw [hrc]) hround
    intro w hsw
    exact hy w (hsw.conv (by simp only [Option.isNone_none, if_true]; ac_rfl))) (none, z0) ⟨rfl, hI⟩
  have hcalls := sp.out w1 (hs1.conv (by simp only [Option.isNone_none, if_true, marks]; ac_rfl))
  have hund : ({ und a ds with defers := [({ target := .collected D, args := #[] } : Deferred)] ++ (und a ds).defers } : Act) = und a (D :: ds) := by simp [und, he.defers, mkD]
  rw [← hl, ← hD] at henter
  have hstep := stepR_rangeFunc (P := P) (b := fbase ⟨f, none, ds⟩) (a := und a ds) (k := k) (cs := cs) (w := w) (g := g) (ps := #[p]) (assign := assign) (body := body) (l := l) (mark := [{ target := .collected D, args := #[] }]) (w₁ := w1) (w₁' := w1) (w₂ := w1)
    (d := { target := .fn (.func gf) cap.toArray, args := #[.func (.yield l) #[] #[]] }) (f := gf) (args := (.func (.yield l) #[] #[] :: cap).toArray) henter
    (by
      have hgv := (congrFun (und_eval a ds) g).trans (he.eval hg)
      have hcv : ∀ v, (und a ds).eval (.const v) = v := fun _ => rfl
      simp [resolve, hgv, hcv, Deferred.ofValue])
    (by
      simp only [invoke, callFunc, Sem.run_bind, Sem.run_pure, run_program, Result.andThen_ok, c1, c2, c3, Bool.false_eq_true, if_false]
      simp)
  rw [hund] at hstep
  obtain ⟨e, w3, fr, ⟨v, A3, ⟨y, J, hy, rfl⟩, rfl, hs3⟩, hc, hfn, hlv⟩ := hcalls ((fbase ⟨f, none, ds⟩).atR (und a (D :: ds)) (.inRangeFunc l :: k) :: cs)
  have hleave := step_leave_returned (c := (fbase ⟨f, none, ds⟩).atR (und a (D :: ds)) (.inRangeFunc l :: k)) (cs := cs) hlv
  rw [finish_atR_inRangeFunc] at hleave
  obtain ⟨o, z⟩ := y
  dsimp only at hs3 hy
  have hs4 : Sat w0 w3 (M z * J * marks (D :: ds) * lp l rc (if o.isNone then .ready else .done) o) := hs3.conv (by ac_rfl)
  have hend := run_endLoop (P := P) (Sat.get hs4) (by show (if o.isNone then LoopState.ready else LoopState.done) ≠ .busy; cases o <;> simp)
  have hstep2 := stepR_endRangeFunc (P := P) (b := fbase ⟨f, none, ds⟩) (a := und a (D :: ds)) (k := k) (cs := cs) hend
  have hs5 := (Sat.putO hs4 (.loop { rc with state := .exhausted, pending := o })).weak
  have hpath : Steps P (lone ((fbase ⟨f, none, ds⟩).atR (und a ds) (.code (.rangeFunc g #[p] assign body) :: k)) cs w) (lone ((fbase ⟨f, none, ds⟩).atR (und a (D :: ds)) ((o.map Item.code).toList ++ k)) cs (w3.putObj l (.loop { rc with state := .exhausted, pending := o }))) :=
    .head hstep (Steps.trans hc (.head hleave (.one hstep2)))
  have hfb : fbase ⟨f, none, ds⟩ = fbase ⟨f, none, D :: ds⟩ := rfl
  rcases hy with ⟨rfl, hz⟩ | ⟨c, rfl, hz⟩
  · obtain ⟨e4, w4, hR, hDn⟩ := (done z J D hz).out a _ he hs5 cs
    exact ⟨e4, w4, hR, fun h => (hDn.of_steps (fid := ⟨f, none, D :: ds⟩) hpath).1 rfl, fun h => by cases h⟩
  · obtain ⟨e4, w4, hR, hDn⟩ := (stop c z J D hz).out a _ he hs5 cs
    exact ⟨e4, w4, hR, fun h => (hDn.of_steps (fid := ⟨f, none, D :: ds⟩) hpath).1 rfl, fun h => by cases h⟩
end Go.Proofs.Yteopadjihklkmaa
end
