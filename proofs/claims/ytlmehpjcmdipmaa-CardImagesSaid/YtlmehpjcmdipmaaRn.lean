/- Running a function's text from a list of things to do, its frame known slot by slot and memory known by an assertion. Words of our own for the proofs of this seat. -/
import Derived.Test.YtlmehpjcmdipmaaSl
namespace Go.Proofs.Ytlmehpjcmdipmaa
open Go

abbrev Env := List (Nat × Value)
def lk : Env → Nat → Option Value
  | [], _ => none
  | (i, v) :: r, t => bif Nat.beq i t then some v else lk r t
def ev (E : Env) : Operand → Option Value
  | .tmp t => lk E t
  | .const v => some v
  | .global g => some (.pointer (some ⟨g, 0, none⟩))
  | .func f => some (.func (.func f) #[] #[])
def evs (E : Env) : List Operand → Option (List Value)
  | [] => some []
  | x :: r => match ev E x, evs E r with
    | some v, some vs => some (v :: vs)
    | _, _ => none
def Sub : Env → Env → Prop
  | [], _ => True
  | (t, v) :: r, E => lk E t = some v ∧ Sub r E
def Given : Env → Array Value → Prop
  | [], _ => True
  | (t, v) :: r, as => as[t]? = some v ∧ Given r as

structure Ev (n : Nat) (a : Act) (E : Env) : Prop where
  defers : a.defers = []
  size : a.tmps.size = n
  look : ∀ t v, lk E t = some v → a.tmps.getD t undef = v

theorem Ev.eval {n : Nat} {a : Act} {E : Env} (h : Ev n a E) {x : Operand} {v : Value} (hx : ev E x = some v) : a.eval x = v := by
  cases x with
  | tmp t => exact h.look t v hx
  | const c => exact Option.some.inj hx
  | global g => exact Option.some.inj hx
  | func f => exact Option.some.inj hx
theorem Ev.evals {n : Nat} {a : Act} {E : Env} (h : Ev n a E) : ∀ {xs : List Operand} {vs : List Value}, evs E xs = some vs → xs.map a.eval = vs
  | [], vs, hx => by simp [evs] at hx; simp [hx]
  | x :: r, vs, hx => by
    simp only [evs] at hx
    cases h1 : ev E x with
    | none => simp [h1] at hx
    | some v =>
      cases h2 : evs E r with
      | none => simp [h1, h2] at hx
      | some us =>
        simp [h1, h2] at hx
        subst hx
        simp [h.eval h1, Ev.evals h h2]
theorem Ev.put {n d : Nat} {a : Act} {E : Env} (h : Ev n a E) (hd : d < n) (v : Value) : Ev n (a.put (some d) v) ((d, v) :: E) := by
  refine ⟨h.defers, by simp [Act.put, h.size], fun t u hu => ?_⟩
  simp only [lk] at hu
  by_cases e : d = t
  · subst e
    simp at hu
    subst hu
    simp [Act.put, Array.getD_eq_getD_getElem?, h.size, hd]
  · have hb : Nat.beq d t = false := by
      cases hq : Nat.beq d t with
      | false => rfl
      | true => exact absurd (Nat.eq_of_beq_eq_true hq) e
    rw [hb] at hu
    have := h.look t u hu
    simp only [Act.put, Array.getD_eq_getD_getElem?] at *
    rw [Array.getElem?_setIfInBounds_ne e]
    exact this
theorem Sub.look {E' E : Env} (h : Sub E' E) : ∀ {t : Nat} {v : Value}, lk E' t = some v → lk E t = some v := by
  induction E' with
  | nil => intro t v hl; simp [lk] at hl
  | cons p r ih =>
    obtain ⟨i, u⟩ := p
    intro t v hl
    obtain ⟨h1, h2⟩ := h
    simp only [lk] at hl
    cases hq : Nat.beq i t with
    | true =>
      rw [hq] at hl
      simp at hl
      subst hl
      rw [← Nat.eq_of_beq_eq_true hq]
      exact h1
    | false =>
      rw [hq] at hl
      exact ih h2 hl
theorem Ev.sub {n : Nat} {a : Act} {E E' : Env} (h : Ev n a E) (s : Sub E' E) : Ev n a E' := ⟨h.defers, h.size, fun t v hl => h.look t v (s.look hl)⟩

/-! ### From a list of things to do to the function's end -/
def fbase (fid : FuncId) : Frame := { (default : Frame) with fn := fid, kind := .normal }
def Runs (P : Program) (fid : FuncId) (R : Ending → World → Prop) (todo : List Item) (a : Act) (w : World) : Prop :=
  ∀ cs, ∃ e w' fr, R e w' ∧ Comes P (lone ((fbase fid).at a todo) cs w) (lone fr cs w') e ∧ fr.fn = fid ∧ fr.leaving P w' e
theorem Runs.step {P : Program} {fid : FuncId} {R : Ending → World → Prop} {todo todo' : List Item} {a a' : Act} {w w' : World}
    (hs : ∀ cs, step P (lone ((fbase fid).at a todo) cs w) = .next (lone ((fbase fid).at a' todo') cs w')) (h : Runs P fid R todo' a' w') : Runs P fid R todo a w := by
  intro cs
  obtain ⟨e, w2, fr, hR, hc, hf, hl⟩ := h cs
  exact ⟨e, w2, fr, hR, hc.of_steps (.one (hs cs)), hf, hl⟩
theorem Runs.steps {P : Program} {fid : FuncId} {R : Ending → World → Prop} {todo todo' : List Item} {a a' : Act} {w w' : World}
    (hs : ∀ cs, Steps P (lone ((fbase fid).at a todo) cs w) (lone ((fbase fid).at a' todo') cs w')) (h : Runs P fid R todo' a' w') : Runs P fid R todo a w := by
  intro cs
  obtain ⟨e, w2, fr, hR, hc, hf, hl⟩ := h cs
  exact ⟨e, w2, fr, hR, hc.of_steps (hs cs), hf, hl⟩

structure Run (P : Program) (fid : FuncId) (n : Nat) (R : Ending → World → Prop) (w0 : World) (todo : List Item) (E : Env) (A : Asn) : Prop where
  out : ∀ a w, Ev n a E → Sat w0 w A → Runs P fid R todo a w
def Qk (K : Act → World → Prop) : Exit → Act → World → Prop
  | .normal, a, w => K a w
  | _, _, _ => False
/-- Running the operations of a region one behind the other; behind them K. -/
structure RunL (P : Program) (n : Nat) (w0 : World) (ops : Array Oper) (l : List Oper) (K : Act → World → Prop) (E : Env) (A : Asn) : Prop where
  out : ∀ a w, Ev n a E → Sat w0 w A → wpList P ops (Qk K) l a w

section control
variable {P : Program} {fid : FuncId} {n : Nat} {R : Ending → World → Prop} {w0 : World} {k : List Item} {E : Env} {A : Asn}
theorem Run.env (E' : Env) (s : Sub E' E) (h : Run P fid n R w0 k E' A) : Run P fid n R w0 k E A := ⟨fun a w he hs => h.out a w (he.sub s) hs⟩
theorem Run.mem {A' : Asn} (e : A = A') (h : Run P fid n R w0 k E A') : Run P fid n R w0 k E A := e ▸ h
theorem Run.ent {A' : Asn} (e : Ent A A') (h : Run P fid n R w0 k E A') : Run P fid n R w0 k E A := ⟨fun a w he hs => h.out a w he (hs.ent e)⟩
theorem Run.know {p : Prop} (e : ∀ w, Sat w0 w A → p) (h : p → Run P fid n R w0 k E A) : Run P fid n R w0 k E A := ⟨fun a w he hs => (h (e w hs)).out a w he hs⟩
theorem Run.ex {α : Type} {f : α → Asn} (h : ∀ x, Run P fid n R w0 k E (f x)) : Run P fid n R w0 k E (exs f) := ⟨fun a w he hs => let ⟨x, hx⟩ := hs.ex; (h x).out a w he hx⟩
theorem Run.seq {x y : Code} (h : Run P fid n R w0 (.code x :: .code y :: k) E A) : Run P fid n R w0 (.code (.seq x y) :: k) E A :=
  ⟨fun a w he hs => (h.out a w he hs).step fun _ => step_seq⟩
theorem Run.skip (h : Run P fid n R w0 k E A) : Run P fid n R w0 (.code .skip :: k) E A := ⟨fun a w he hs => (h.out a w he hs).step fun _ => step_skip⟩
theorem Run.block {id : Nat} {c : Code} (h : Run P fid n R w0 (.code c :: .inBlock id :: k) E A) : Run P fid n R w0 (.code (.block id c) :: k) E A :=
  ⟨fun a w he hs => (h.out a w he hs).step fun _ => step_block⟩
theorem Run.inBlock {id : Nat} (h : Run P fid n R w0 k E A) : Run P fid n R w0 (.inBlock id :: k) E A := ⟨fun a w he hs => (h.out a w he hs).step fun _ => step_inBlock⟩
theorem Run.exit {id : Nat} {k' : List Item} (hk : exitTo id k = some k') (h : Run P fid n R w0 k' E A) : Run P fid n R w0 (.code (.exit id) :: k) E A :=
  ⟨fun a w he hs => (h.out a w he hs).step fun _ => step_exit hk⟩
theorem Run.cond {c : Operand} {x y : Code} {t : Bool} (hc : ev E c = some (.bool t)) (ht : t = true → Run P fid n R w0 (.code x :: k) E A) (hf : t = false → Run P fid n R w0 (.code y :: k) E A) :
    Run P fid n R w0 (.code (.cond c x y) :: k) E A := by
  refine ⟨fun a w he hs => ?_⟩
  cases t with
  | true => exact ((ht rfl).out a w he hs).step fun _ => step_cond (he.eval hc)
  | false => exact ((hf rfl).out a w he hs).step fun _ => step_cond (he.eval hc)
theorem Run.condT {c : Operand} {x y : Code} (hc : ev E c = some (.bool true)) (ht : Run P fid n R w0 (.code x :: k) E A) : Run P fid n R w0 (.code (.cond c x y) :: k) E A :=
  Run.cond hc (fun _ => ht) (fun e => by cases e)
theorem Run.condF {c : Operand} {x y : Code} (hc : ev E c = some (.bool false)) (ht : Run P fid n R w0 (.code y :: k) E A) : Run P fid n R w0 (.code (.cond c x y) :: k) E A :=
  Run.cond hc (fun e => by cases e) (fun _ => ht)
theorem Run.condD {c : Operand} {x y : Code} {p : Prop} [Decidable p] (hc : ev E c = some (.bool (decide p))) (ht : p → Run P fid n R w0 (.code x :: k) E A) (hf : ¬ p → Run P fid n R w0 (.code y :: k) E A) :
    Run P fid n R w0 (.code (.cond c x y) :: k) E A :=
  Run.cond hc (fun e => ht (of_decide_eq_true e)) (fun e => hf (of_decide_eq_false e))
theorem Run.condN {c : Operand} {x y : Code} {p : Prop} [Decidable p] (hc : ev E c = some (.bool (!decide p))) (ht : ¬ p → Run P fid n R w0 (.code x :: k) E A) (hf : p → Run P fid n R w0 (.code y :: k) E A) :
    Run P fid n R w0 (.code (.cond c x y) :: k) E A :=
  Run.cond hc (fun e => ht (by simpa using e)) (fun e => hf (by simpa using e))
theorem Run.inLoop {c : Code} (h : Run P fid n R w0 (.code c :: .inLoop c :: k) E A) : Run P fid n R w0 (.inLoop c :: k) E A := ⟨fun a w he hs => (h.out a w he hs).step fun _ => step_inLoop⟩
theorem Run.loop {X : Type} (E' : X → Env) (A' : X → Asn) (I : X → Prop) (μ : X → Nat) (x0 : X) {c : Code} (hE : Sub (E' x0) E) (hA : A = A' x0) (hI : I x0)
    (body : ∀ x, I x → (∀ y, I y → μ y < μ x → Run P fid n R w0 (.inLoop c :: k) (E' y) (A' y)) → Run P fid n R w0 (.code c :: .inLoop c :: k) (E' x) (A' x)) :
    Run P fid n R w0 (.code (.loop c) :: k) E A := by
  have key : ∀ m x, μ x = m → I x → Run P fid n R w0 (.code c :: .inLoop c :: k) (E' x) (A' x) := by
    intro m
    induction m using Nat.strongRecOn with
    | _ m ih =>
      intro x hm hx
      exact body x hx fun y hy hlt => Run.inLoop (ih (μ y) (hm ▸ hlt) y rfl hy)
  refine ⟨fun a w he hs => ?_⟩
  exact ((key _ x0 rfl hI).out a w (he.sub hE) (hA ▸ hs)).step fun _ => step_loop
theorem Run.region {id : Nat} {l : List Oper} (h : RunL P n w0 l.toArray l (Runs P fid R k) E A) : Run P fid n R w0 (.code (.region id l.toArray false) :: k) E A := by
  refine ⟨fun a w he hs cs => ?_⟩
  obtain ⟨e, a', w', hq, harr⟩ := wp_region_lit (P := P) (Q := Qk (Runs P fid R k)) (id := id) (h.out a w he hs) (fbase fid) k cs
  cases e with
  | normal =>
    obtain ⟨e2, w2, fr, hR, hc, hf, hl⟩ := hq cs
    exact ⟨e2, w2, fr, hR, hc.of_steps harr, hf, hl⟩
  | exit i => exact hq.elim
  | goto i => exact hq.elim
  | ret => exact hq.elim
  | panic c => exact hq.elim
  | outgrown => exact hq.elim

/-! ### Contracts -/
def Post (w0 : World) (R : Value → Asn → Prop) : Ending → World → Prop := fun e w' => ∃ v A', R v A' ∧ e = .returned v ∧ Sat w0 w' A'
structure Spec (P : Program) (w0 : World) (f : FuncId) (args : List Value) (A : Asn) (R : Value → Asn → Prop) : Prop where
  out : ∀ w, Sat w0 w A → Calls P f args.toArray w (Post w0 R)
theorem Spec.mono {f : FuncId} {args : List Value} {R R' : Value → Asn → Prop} (h : Spec P w0 f args A R) (hr : ∀ v A', R v A' → R' v A') : Spec P w0 f args A R' :=
  ⟨fun w hs => (h.out w hs).mono fun _ _ ⟨v, A', hR, he, hs⟩ => ⟨v, A', hr _ _ hR, he, hs⟩⟩
theorem Spec.mem {f : FuncId} {args : List Value} {R : Value → Asn → Prop} {A' : Asn} (e : A = A') (h : Spec P w0 f args A' R) : Spec P w0 f args A R := e ▸ h
theorem Spec.of_run {f : FuncId} {fn : Func} {c : Code} {args : List Value} {R' : Value → Asn → Prop} (E' : Env) (hf : P.funcs[f]? = some fn) (hb : fn.body = some c) (hn : args.length ≤ fn.ntmps) (hg : Given E' args.toArray)
    (h : Run P f fn.ntmps (Post w0 R') w0 [.code c] E' A) : Spec P w0 f args A R' := by
  refine ⟨fun w hs cs => ?_⟩
  have henter : Frame.enter P f args.toArray .normal = (fbase f).at { tmps := args.toArray ++ Array.replicate (fn.ntmps - args.toArray.size) undef, defers := [] } [.code c] := by
    simp [Frame.enter, Frame.at, hf, hb, fbase]
  rw [henter]
  refine h.out _ w ⟨rfl, by simp; omega, ?_⟩ hs cs
  have key : ∀ E' : Env, Given E' args.toArray → ∀ t v, lk E' t = some v → (args.toArray ++ Array.replicate (fn.ntmps - args.toArray.size) undef).getD t undef = v := by
    intro E'
    induction E' with
    | nil => intro _ t v hl; simp [lk] at hl
    | cons p r ih =>
      obtain ⟨i, u⟩ := p
      rintro ⟨g1, g2⟩ t v hl
      simp only [lk] at hl
      cases hq : Nat.beq i t with
      | false =>
        rw [hq] at hl
        exact ih g2 t v hl
      | true =>
        rw [hq] at hl
        have ht := Nat.eq_of_beq_eq_true hq
        subst ht
        simp at hl
        subst hl
        have hi := (Array.getElem?_eq_some_iff.1 g1).1
        rw [Array.getD_eq_getD_getElem?, Array.getElem?_append_left hi, g1]
        rfl
  exact key E' hg

theorem Runs.ret {todo : List Item} {a : Act} {w : World} {fn : Func} {R' : Value → Asn → Prop} {v : Value} (hf : P.funcs[fid]? = some fn) (hd : a.defers = []) (hr : (results fn a.tmps).run P w = .ok v w) (hR : R' v A) (hs : Sat w0 w A) :
    Runs P fid (Post w0 R') (.code .ret :: todo) a w :=
  fun _ => ⟨.returned v, w, _, ⟨v, A, hR, rfl, hs⟩, Steps.one step_ret, rfl, rfl, hd, rfl, fn, hf, hr⟩
theorem Runs.fall {a : Act} {w : World} {fn : Func} {R' : Value → Asn → Prop} {v : Value} (hf : P.funcs[fid]? = some fn) (hd : a.defers = []) (hr : (results fn a.tmps).run P w = .ok v w) (hR : R' v A) (hs : Sat w0 w A) :
    Runs P fid (Post w0 R') [] a w :=
  fun _ => ⟨.returned v, w, _, ⟨v, A, hR, rfl, hs⟩, Steps.one step_end, rfl, rfl, hd, rfl, fn, hf, hr⟩
theorem Run.fall0 {fn : Func} {R' : Value → Asn → Prop} (hf : P.funcs[fid]? = some fn) (hr : fn.results = #[]) (hR : R' (.tuple #[]) A) : Run P fid n (Post w0 R') w0 [] E A :=
  ⟨fun _ _ he hs => Runs.fall hf he.defers (results_none hr _ _ _) hR hs⟩
theorem Run.ret0 {fn : Func} {R' : Value → Asn → Prop} {todo : List Item} (hf : P.funcs[fid]? = some fn) (hr : fn.results = #[]) (hR : R' (.tuple #[]) A) : Run P fid n (Post w0 R') w0 (.code .ret :: todo) E A :=
  ⟨fun _ _ he hs => Runs.ret hf he.defers (results_none hr _ _ _) hR hs⟩
theorem Run.ret1 {fn : Func} {R' : Value → Asn → Prop} {t : Tmp} {v : Value} {todo : List Item} (hf : P.funcs[fid]? = some fn) (hr : fn.results = #[.tmp t]) (hv : lk E t = some v) (hR : R' v A) :
    Run P fid n (Post w0 R') w0 (.code .ret :: todo) E A := by
  refine ⟨fun a w he hs => ?_⟩
  refine Runs.ret hf he.defers (v := v) ?_ hR hs
  rw [results_tmp hr, he.look t v hv]
theorem Run.ret2 {fn : Func} {R' : Value → Asn → Prop} {t u : Tmp} {v v' : Value} {todo : List Item} (hf : P.funcs[fid]? = some fn) (hr : fn.results = #[.tmp t, .tmp u]) (hv : lk E t = some v) (hu : lk E u = some v') (hR : R' (.tuple #[v, v']) A) :
    Run P fid n (Post w0 R') w0 (.code .ret :: todo) E A := by
  refine ⟨fun a w he hs => ?_⟩
  refine Runs.ret hf he.defers (v := .tuple #[v, v']) ?_ hR hs
  rw [results_tmp2 hr, he.look t v hv, he.look u v' hu]
theorem Run.ret3 {fn : Func} {R' : Value → Asn → Prop} {t u x : Tmp} {v v' v2 : Value} {todo : List Item} (hf : P.funcs[fid]? = some fn) (hr : fn.results = #[.tmp t, .tmp u, .tmp x]) (hv : lk E t = some v) (hu : lk E u = some v') (hx : lk E x = some v2)
    (hR : R' (.tuple #[v, v', v2]) A) : Run P fid n (Post w0 R') w0 (.code .ret :: todo) E A := by
  refine ⟨fun a w he hs => ?_⟩
  refine Runs.ret hf he.defers (v := .tuple #[v, v', v2]) ?_ hR hs
  simp only [results, hr]
  rw [← he.look t v hv, ← he.look u v' hu, ← he.look x v2 hx]
  simp
end control

/-! ### Operations -/
section opers
variable {P : Program} {fid : FuncId} {n : Nat} {R : Ending → World → Prop} {w0 : World} {ops : Array Oper} {l : List Oper} {k : List Item} {K : Act → World → Prop} {E : Env} {A : Asn}
theorem RunL.nil (h : Run P fid n R w0 k E A) : RunL P n w0 ops [] (Runs P fid R k) E A := ⟨fun a w he hs => h.out a w he hs⟩
theorem RunL.done (h : ∀ a w, Ev n a E → Sat w0 w A → K a w) : RunL P n w0 ops [] K E A := ⟨fun a w he hs => h a w he hs⟩
theorem RunL.env (E' : Env) (s : Sub E' E) (h : RunL P n w0 ops l K E' A) : RunL P n w0 ops l K E A := ⟨fun a w he hs => h.out a w (he.sub s) hs⟩
theorem RunL.mem {A' : Asn} (e : A = A') (h : RunL P n w0 ops l K E A') : RunL P n w0 ops l K E A := e ▸ h
theorem RunL.ent {A' : Asn} (e : Ent A A') (h : RunL P n w0 ops l K E A') : RunL P n w0 ops l K E A := ⟨fun a w he hs => h.out a w he (hs.ent e)⟩
theorem RunL.know {p : Prop} (e : ∀ w, Sat w0 w A → p) (h : p → RunL P n w0 ops l K E A) : RunL P n w0 ops l K E A := ⟨fun a w he hs => (h (e w hs)).out a w he hs⟩
theorem RunL.sat (h : ∀ w, Sat w0 w A → ∃ A', Sat w0 w A' ∧ RunL P n w0 ops l K E A') : RunL P n w0 ops l K E A := ⟨fun a w he hs => let ⟨_, s, r⟩ := h w hs; r.out a w he s⟩
/-- An operation that yields a value. -/
theorem RunL.val {X : Type} {d : Nat} {op : Op} {ty : TypeId} {ps : String} {af : Array Edge} (v : X → Value) (A' : X → Asn) (hd : Nat.blt d n = true)
    (h : ∀ a w, Ev n a E → Sat w0 w A → ∃ x w', (execOp a.eval { dst := some d, op, type := ty, pos := ps, after := af, guard := none }).run P w = .ok (.value (v x)) w' ∧ Sat w0 w' (A' x))
    (r : ∀ x, RunL P n w0 ops l K ((d, v x) :: E) (A' x)) : RunL P n w0 ops ({ dst := some d, op, type := ty, pos := ps, after := af, guard := none } :: l) K E A := by
  refine ⟨fun a w he hs => ?_⟩
  refine wpList_plain rfl fun K' hK => ?_
  obtain ⟨x, w', hrun, hs'⟩ := h a w he hs
  unfold Oper.wp
  rw [hrun]
  exact hK _ _ ((r x).out _ _ (he.put (Nat.le_of_ble_eq_true hd) _) hs')
/-- An operation that yields none. -/
theorem RunL.unit {X : Type} {op : Op} {ty : TypeId} {ps : String} {af : Array Edge} (A' : X → Asn)
    (h : ∀ a w, Ev n a E → Sat w0 w A → ∃ x w', (execOp a.eval { dst := none, op, type := ty, pos := ps, after := af, guard := none }).run P w = .ok .skip w' ∧ Sat w0 w' (A' x))
    (r : ∀ x, RunL P n w0 ops l K E (A' x)) : RunL P n w0 ops ({ dst := none, op, type := ty, pos := ps, after := af, guard := none } :: l) K E A := by
  refine ⟨fun a w he hs => ?_⟩
  refine wpList_plain rfl fun K' hK => ?_
  obtain ⟨x, w', hrun, hs'⟩ := h a w he hs
  unfold Oper.wp
  rw [hrun]
  exact hK _ _ ((r x).out _ _ he hs')
/-- The operation yields v and leaves the assertion as it was. -/
structure OpOk (P : Program) (n : Nat) (w0 : World) (op : Op) (ty : TypeId) (E : Env) (A : Asn) (v : Value) : Prop where
  out : ∀ a w d ps af g, Ev n a E → Sat w0 w A → ∃ w', (execOp a.eval { dst := d, op, type := ty, pos := ps, after := af, guard := g }).run P w = .ok (.value v) w' ∧ Sat w0 w' A
theorem RunL.ok {d : Nat} {op : Op} {ty : TypeId} {ps : String} {af : Array Edge} {v : Value} (h : OpOk P n w0 op ty E A v) (hd : Nat.blt d n = true) (r : RunL P n w0 ops l K ((d, v) :: E) A) :
    RunL P n w0 ops ({ dst := some d, op, type := ty, pos := ps, after := af, guard := none } :: l) K E A :=
  RunL.val (X := Unit) (fun _ => v) (fun _ => A) hd (fun a w he hs => let ⟨w', x, y⟩ := h.out a w (some d) ps af none he hs; ⟨(), w', x, y⟩) fun _ => r
theorem RunL.on {d : Option Nat} {op : Op} {ty : TypeId} {ps : String} {af : Array Edge} {j t : Nat} {want : Bool} (hj : (ops[j]?).bind (·.dst) = some t) (hb : lk E t = some (.bool want))
    (r : RunL P n w0 ops ({ dst := d, op, type := ty, pos := ps, after := af, guard := none } :: l) K E A) : RunL P n w0 ops ({ dst := d, op, type := ty, pos := ps, after := af, guard := some (j, want) } :: l) K E A := by
  refine ⟨fun a w he hs => ?_⟩
  have h := r.out a w he hs
  unfold wpList at h ⊢
  have hl := he.look t _ hb
  have hy : yielded ops a.tmps j = some want := by
    unfold yielded
    rw [hj]
    rw [Array.getD_eq_getD_getElem?] at hl
    cases hq : a.tmps[t]? with
    | none => rw [hq] at hl; simp [undef] at hl
    | some u => rw [hq] at hl; simp at hl; subst hl; simp [hq]
  have hw : Region.wanted { dst := d, op, type := ty, pos := ps, after := af, guard := some (j, want) } (yielded ops a.tmps) = true := by simp [Region.wanted, hy]
  have hw0 : Region.wanted { dst := d, op, type := ty, pos := ps, after := af, guard := none } (yielded ops a.tmps) = true := by simp [Region.wanted]
  rw [if_pos hw0] at h
  rw [if_pos hw]
  exact h
theorem RunL.off {d : Nat} {op : Op} {ty : TypeId} {ps : String} {af : Array Edge} {j t : Nat} {want : Bool} {u : Value} (hj : (ops[j]?).bind (·.dst) = some t) (hb : lk E t = some u) (hu : (match u with | .bool b => b == want | _ => false) = false) (hd : Nat.blt d n = true)
    (r : RunL P n w0 ops l K ((d, undef) :: E) A) : RunL P n w0 ops ({ dst := some d, op, type := ty, pos := ps, after := af, guard := some (j, want) } :: l) K E A := by
  refine ⟨fun a w he hs => ?_⟩
  have hl := he.look t _ hb
  have hy : (yielded ops a.tmps j == some want) = false := by
    unfold yielded
    rw [hj]
    rw [Array.getD_eq_getD_getElem?] at hl
    cases hq : a.tmps[t]? with
    | none => simp [hq]
    | some u' =>
      rw [hq] at hl
      simp at hl
      subst hl
      simp only [Option.bind_some, hq]
      cases u' <;> simp_all
  refine wpList_skip ?_ (r.out _ w (he.put (Nat.le_of_ble_eq_true hd) _) hs)
  simp only [Region.wanted]
  exact hy
end opers
end Go.Proofs.Ytlmehpjcmdipmaa
