/- Running a function's text from a list of things to do, its frame known slot by slot and memory known by an assertion. Words of our own for the proofs of this seat. -/
import Derived.Test.YteopadjihklkmaaSl
import Derived.RangeFuncRecord
import Derived.RangeFuncCalls
namespace Go.Proofs.Yteopadjihklkmaa
open Go

abbrev Env := List (Nat × Value)
def lk : Env → Nat → Option Value
  | [], _ => none
  | (i, v) :: r, t => bif Nat.beq i t then some v else lk r t
def ev (E : Env) : Operand → Option Value
  | .tmp t => lk E t
  | .const v => some v
  | .global g => some (.pointer (some ⟨g, 0, none⟩))
  | .func f => some (.func (.func f) #[] #[])
def evs (E : Env) : List Operand → Option (List Value)
  | [] => some []
  | x :: r => match ev E x, evs E r with
    | some v, some vs => some (v :: vs)
    | _, _ => none
def Sub : Env → Env → Prop
  | [], _ => True
  | (t, v) :: r, E => lk E t = some v ∧ Sub r E
def Given : Env → Array Value → Prop
  | [], _ => True
  | (t, v) :: r, as => as[t]? = some v ∧ Given r as

structure Ev (n : Nat) (a : Act) (E : Env) : Prop where
  defers : a.defers = []
  size : a.tmps.size = n
  look : ∀ t v, lk E t = some v → a.tmps.getD t undef = v

theorem Ev.eval {n : Nat} {a : Act} {E : Env} (h : Ev n a E) {x : Operand} {v : Value} (hx : ev E x = some v) : a.eval x = v := by
  cases x with
  | tmp t => exact h.look t v hx
  | const c => exact Option.some.inj hx
  | global g => exact Option.some.inj hx
  | func f => exact Option.some.inj hx
theorem Ev.evals {n : Nat} {a : Act} {E : Env} (h : Ev n a E) : ∀ {xs : List Operand} {vs : List Value}, evs E xs = some vs → xs.map a.eval = vs
  | [], vs, hx => by simp [evs] at hx; simp [hx]
  | x :: r, vs, hx => by
    simp only [evs] at hx
    cases h1 : ev E x with
    | none => simp [h1] at hx
    | some v =>
      cases h2 : evs E r with
      | none => simp [h1, h2] at hx
      | some us =>
        simp [h1, h2] at hx
        subst hx
        simp [h.eval h1, Ev.evals h h2]
theorem Ev.put {n d : Nat} {a : Act} {E : Env} (h : Ev n a E) (hd : d < n) (v : Value) : Ev n (a.put (some d) v) ((d, v) :: E) := by
  refine ⟨h.defers, by simp [Act.put, h.size], fun t u hu => ?_⟩
  simp only [lk] at hu
  by_cases e : d = t
  · subst e
    simp at hu
    subst hu
    simp [Act.put, Array.getD_eq_getD_getElem?, h.size, hd]
  · have hb : Nat.beq d t = false := by
      cases hq : Nat.beq d t with
      | false => rfl
      | true => exact absurd (Nat.eq_of_beq_eq_true hq) e
    rw [hb] at hu
    have := h.look t u hu
    simp only [Act.put, Array.getD_eq_getD_getElem?] at *
    rw [Array.getElem?_setIfInBounds_ne e]
    exact this
theorem Sub.look {E' E : Env} (h : Sub E' E) : ∀ {t : Nat} {v : Value}, lk E' t = some v → lk E t = some v := by
  induction E' with
  | nil => intro t v hl; simp [lk] at hl
  | cons p r ih =>
    obtain ⟨i, u⟩ := p
    intro t v hl
    obtain ⟨h1, h2⟩ := h
    simp only [lk] at hl
    cases hq : Nat.beq i t with
    | true =>
      rw [hq] at hl
      simp at hl
      subst hl
      rw [← Nat.eq_of_beq_eq_true hq]
      exact h1
    | false =>
      rw [hq] at hl
      exact ih h2 hl
theorem Ev.sub {n : Nat} {a : Act} {E E' : Env} (h : Ev n a E) (s : Sub E' E) : Ev n a E' := ⟨h.defers, h.size, fun t v hl => h.look t v (s.look hl)⟩

/-! ### From a list of things to do to the function's end -/
/-- A running function: which one, in which round of a range over a function, and the marks that such ranges have left among its deferred calls. -/
structure Fid where
  fn : FuncId
  ro : Option Nat
  ds : List Nat
def mkD (d : Nat) : Deferred := { target := .collected d, args := #[] }
def und (a : Act) (m : List Nat) : Act := { a with defers := a.defers ++ m.map mkD }
def fbase (fid : Fid) : Frame := { (default : Frame) with fn := fid.fn, kind := .normal, roundOf := fid.ro }
/-- The way out: a function's frame leaves; a round hands its answer back to the one that called yield. -/
def Done (P : Program) (fid : Fid) (m : Machine) (cs : List Frame) (e : Ending) (w' : World) : Prop :=
  (fid.ro = none → ∃ fr, Comes P m (lone fr cs w') e ∧ fr.fn = fid.fn ∧ fr.leaving P w' e) ∧
  (fid.ro.isSome = true → ∀ c cs', cs = c :: cs' → ∃ v, e = .returned v ∧ Steps P m (lone (c.finish v) cs' w'))
theorem Done.of_steps {P : Program} {fid : Fid} {m m1 : Machine} {cs : List Frame} {e : Ending} {w' : World} (hs : Steps P m m1) (h : Done P fid m1 cs e w') : Done P fid m cs e w' :=
  ⟨fun hr => let ⟨fr, hc, x⟩ := h.1 hr; ⟨fr, hc.of_steps hs, x⟩, fun hr c cs' hc => let ⟨v, x, y⟩ := h.2 hr c cs' hc; ⟨v, x, hs.trans y⟩⟩
def Runs (P : Program) (fid : Fid) (R : Ending → World → Prop) (todo : List Item) (a : Act) (w : World) : Prop :=
  ∀ cs, ∃ e w', R e w' ∧ Done P fid (lone ((fbase fid).atR (und a fid.ds) todo) cs w) cs e w'
theorem Runs.step {P : Program} {fid : Fid} {R : Ending → World → Prop} {todo todo' : List Item} {a a' : Act} {w w' : World}
    (hs : ∀ cs, step P (lone ((fbase fid).atR (und a fid.ds) todo) cs w) = .next (lone ((fbase fid).atR (und a' fid.ds) todo') cs w')) (h : Runs P fid R todo' a' w') : Runs P fid R todo a w := by
  intro cs
  obtain ⟨e, w2, hR, hd⟩ := h cs
  exact ⟨e, w2, hR, hd.of_steps (.one (hs cs))⟩
theorem Runs.steps {P : Program} {fid : Fid} {R : Ending → World → Prop} {todo todo' : List Item} {a a' : Act} {w w' : World}
    (hs : ∀ cs, Steps P (lone ((fbase fid).atR (und a fid.ds) todo) cs w) (lone ((fbase fid).atR (und a' fid.ds) todo') cs w')) (h : Runs P fid R todo' a' w') : Runs P fid R todo a w := by
  intro cs
  obtain ⟨e, w2, hR, hd⟩ := h cs
  exact ⟨e, w2, hR, hd.of_steps (hs cs)⟩
theorem und_eval (a : Act) (m : List Nat) : (und a m).eval = a.eval := funext fun x => by cases x <;> rfl
theorem und_put (a : Act) (m : List Nat) (d : Option Tmp) (v : Value) : (und a m).put d v = und (a.put d v) m := by cases d <;> rfl

/-! Regions, in a function's frame or in a round's. -/
def noDefer (ops : Array Oper) : Bool := ops.toList.all fun o => match o.op with | .defer _ => false | _ => true
def FW : Option Nat → Fence
  | none => Fence.wide
  | some l => Fence.wide.inRound l
theorem FW_fn (ro : Option Nat) (f : FuncId) : (FW ro).fn f := by cases ro <;> trivial
theorem FW_depth (ro : Option Nat) : (FW ro).depth = none := by cases ro <;> rfl
theorem FW_round (ro : Option Nat) : (FW ro).round = ro := by cases ro <;> rfl
theorem FW_room (ro : Option Nat) (n : Nat) : (FW ro).room n := fun _ h => by rw [FW_depth] at h; cases h
theorem FW_calls {ro : Option Nat} {n : Nat} {P : Program} {f : FuncId} {args : Array Value} {w : World} {R : Ending → World → Prop} (h : Calls P f args w R) : CallsIn (FW ro) n P f args w R := by
  cases ro with
  | none => exact callsIn_wide.2 h
  | some l => exact CallsIn.inRound l (callsIn_wide.2 h)
theorem FW_rows {ro : Option Nat} {n : Nat} {P : Program} {row : String} {args : Array Value} {w : World} {R : Value → World → Prop} (h : Rows P row args w R) : RowsIn (FW ro) n P row args w R := by
  intro c cs _
  obtain ⟨v, w', hR, hs⟩ := h c cs
  refine ⟨v, w', hR, ?_⟩
  have h2 : StepsIn (Machine.fenced P Fence.wide) P (lone (Frame.ofRow P row args .normal) (c :: cs) w) (lone (c.finish v) cs w') := stepsIn_wide.2 hs
  cases ro <;> exact h2
def Qk (K : Act → World → Prop) : Exit → Act → World → Prop
  | .normal, a, w => K a w
  | _, _, _ => False
theorem not_out {K : Act → World → Prop} : ¬ LetsOut (Qk K) := fun ⟨_, _, h⟩ => h
/-- What holds of an activation, held of it with marks under its deferred calls. -/
def Und (m : List Nat) (K : Act → World → Prop) : Act → World → Prop := fun a w => ∃ a1, a = und a1 m ∧ K a1 w
theorem oper_in {P : Program} {ro : Option Nat} {m : List Nat} {o : Oper} {a : Act} {w : World} {K : Act → World → Prop} {next next' : Act → World → Prop} (hd : ro = none ∨ ∀ c, o.op ≠ .defer c)
    (hn : ∀ a w, next a w → next' (und a m) w) (h : o.wp P a w next (Qk K)) : o.wpIn (FW ro) 0 P (und a m) w next' (Qk (Und m K)) := by
  refine ⟨fun f _ => FW_fn ro f, ?_⟩
  have hsem : o.semAt (FW ro).round (und a m).eval = execOp a.eval o := by
    rw [FW_round, und_eval]
    rcases hd with rfl | hd
    · rfl
    · exact Oper.semAt_eq ro _ o hd
  rw [hsem]
  unfold Oper.wp at h
  have hdep : ¬ ((FW ro).depth.isSome = true) := by rw [FW_depth]; simp
  revert h
  generalize (execOp a.eval o).run P w = r
  intro h
  match r, h with
  | .ok (.value v) w', h =>
    show next' _ _
    rw [und_put]
    exact hn _ _ h
  | .ok .skip w', h =>
    show next' _ _
    rw [und_put]
    exact hn _ _ h
  | .ok (.defer d) w', h =>
    have e : ({ und a m with defers := d :: (und a m).defers } : Act).put o.dst undef = und (({ a with defers := d :: a.defers } : Act).put o.dst undef) m := by
      cases o.dst <;> rfl
    show next' _ _
    rw [e]
    exact hn _ _ h
  | .ok (.enter f args) w', h =>
    refine ⟨fun x => absurd x hdep, ?_⟩
    refine FW_calls (Calls.mono h fun e w2 he => ?_)
    cases e with
    | returned v =>
      show next' _ _
      rw [und_put]
      exact hn _ _ he
    | panicked c => exact he.elim
    | outgrown => exact (not_out he).elim
  | .ok (.row row args) w', h =>
    refine ⟨fun x => absurd x hdep, FW_rows (Rows.mono h fun v w2 he => ?_)⟩
    show next' _ _
    rw [und_put]
    exact hn _ _ he
  | .halt (.panic v) w', h => exact h.elim
theorem ops_in {P : Program} {ro : Option Nat} {m : List Nat} {ops : Array Oper} {K : Act → World → Prop} (hd : (ro.isNone || noDefer ops) = true) :
    ∀ (l : List Nat) (a : Act) (w : World), wpOps P ops (Qk K) l a w → wpOpsIn (FW ro) 0 P ops (Qk (Und m K)) l (und a m) w
  | [], a, w, h => ⟨a, rfl, h⟩
  | i :: r, a, w, h => by
    simp only [wpOps] at h
    simp only [wpOpsIn]
    cases ho : ops[i]? with
    | none =>
      rw [ho] at h
      exact ops_in hd r a w h
    | some o =>
      rw [ho] at h
      have hd' : ro = none ∨ ∀ c, o.op ≠ .defer c := by
        cases hro : ro with
        | none => exact .inl rfl
        | some l =>
          right
          rw [hro] at hd
          simp only [Option.isNone_some, Bool.false_or] at hd
          intro c e
          have hm : o ∈ ops.toList := by
            obtain ⟨hlt, he⟩ := Array.getElem?_eq_some_iff.1 ho
            exact he ▸ Array.getElem_mem_toList hlt
          have := List.all_eq_true.1 hd o hm
          rw [e] at this
          cases this
      have hy : yielded ops (und a m).tmps = yielded ops a.tmps := rfl
      dsimp only at h ⊢
      rw [hy]
      by_cases hw : Region.wanted o (yielded ops a.tmps) = true
      · rw [if_pos hw] at h ⊢
        rcases h with h | h
        · exact oper_in hd' (fun a w hq => ops_in hd r a w hq) h
        · exact (not_out h.2).elim
      · rw [if_neg hw] at h ⊢
        refine ⟨fun f _ => FW_fn ro f, ?_⟩
        rw [und_put]
        exact ops_in hd r _ w h
theorem runs_of_ops {P : Program} {fid : Fid} {R : Ending → World → Prop} {k : List Item} {a : Act} {w w1 : World} {ops : Array Oper} {l : List Nat} {c : Code} (hd : (fid.ro.isNone || noDefer ops) = true)
    (hs : ∀ cs, step P (lone ((fbase fid).atR (und a fid.ds) (.code c :: k)) cs w) = .next (lone ((fbase fid).atR (und a fid.ds) (.inRegion ops l :: k)) cs w1))
    (h : wpOps P ops (Qk (Runs P fid R k)) l a w1) : Runs P fid R (.code c :: k) a w := by
  intro cs
  obtain ⟨e, a', w', hq, harr⟩ := wp_opsIn (F := FW fid.ro) (n := 0) l (und a fid.ds) w1 (ops_in hd l a w1 h) (fbase fid) k cs (FW_round _).symm (FW_fn _ _) (FW_room _ _)
  cases e with
  | normal =>
    obtain ⟨a1, rfl, hk⟩ := hq
    obtain ⟨e2, w2, hR, hD⟩ := hk cs
    exact ⟨e2, w2, hR, hD.of_steps ((Steps.one (hs cs)).trans (StepsIn.steps harr))⟩
  | exit i => exact hq.elim
  | goto i => exact hq.elim
  | ret => exact hq.elim
  | panic c => exact hq.elim
  | outgrown => exact hq.elim
theorem Runs.region {P : Program} {fid : Fid} {R : Ending → World → Prop} {k : List Item} {a : Act} {w : World} {id : Nat} {l : List Oper} (hd : (fid.ro.isNone || noDefer l.toArray) = true)
    (h : wpList P l.toArray (Qk (Runs P fid R k)) l a w) : Runs P fid R (.code (.region id l.toArray false) :: k) a w :=
  runs_of_ops hd (fun _ => stepR_region) (by rw [List.range_eq_range', show l.toArray.size = l.length from rfl, wpOps_eq_wpList l 0 (by simp)]; exact h)
theorem Runs.regionD {P : Program} {fid : Fid} {R : Ending → World → Prop} {k : List Item} {a : Act} {w : World} {id : Nat} {l : List Oper} (hd : (fid.ro.isNone || noDefer l.toArray) = true)
    (h : ∀ t, wpOps P l.toArray (Qk (Runs P fid R k)) (Region.schedule (P.follows .mixedOrders) l.toArray t) a { w with drawn := w.drawn + 1 }) : Runs P fid R (.code (.region id l.toArray true) :: k) a w :=
  runs_of_ops hd (fun _ => stepR_region_draw) (h _)

structure Run (P : Program) (fid : Fid) (n : Nat) (R : Ending → World → Prop) (w0 : World) (todo : List Item) (E : Env) (A : Asn) : Prop where
  out : ∀ a w, Ev n a E → Sat w0 w A → Runs P fid R todo a w
/-- Running the operations of a region one behind the other; behind them K. -/
structure RunL (P : Program) (n : Nat) (w0 : World) (ops : Array Oper) (l : List Oper) (K : Act → World → Prop) (E : Env) (A : Asn) : Prop where
  out : ∀ a w, Ev n a E → Sat w0 w A → wpList P ops (Qk K) l a w

section control
variable {P : Program} {fid : Fid} {n : Nat} {R : Ending → World → Prop} {w0 : World} {k : List Item} {E : Env} {A : Asn}
theorem Run.env (E' : Env) (s : Sub E' E) (h : Run P fid n R w0 k E' A) : Run P fid n R w0 k E A := ⟨fun a w he hs => h.out a w (he.sub s) hs⟩
theorem Run.mem {A' : Asn} (e : A = A') (h : Run P fid n R w0 k E A') : Run P fid n R w0 k E A := e ▸ h
theorem Run.ent {A' : Asn} (e : Ent A A') (h : Run P fid n R w0 k E A') : Run P fid n R w0 k E A := ⟨fun a w he hs => h.out a w he (hs.ent e)⟩
theorem Run.know {p : Prop} (e : ∀ w, Sat w0 w A → p) (h : p → Run P fid n R w0 k E A) : Run P fid n R w0 k E A := ⟨fun a w he hs => (h (e w hs)).out a w he hs⟩
theorem Run.ex {α : Type} {f : α → Asn} (h : ∀ x, Run P fid n R w0 k E (f x)) : Run P fid n R w0 k E (exs f) := ⟨fun a w he hs => let ⟨x, hx⟩ := hs.ex; (h x).out a w he hx⟩
theorem Run.seq {x y : Code} (h : Run P fid n R w0 (.code x :: .code y :: k) E A) : Run P fid n R w0 (.code (.seq x y) :: k) E A :=
  ⟨fun a w he hs => (h.out a w he hs).step fun _ => stepR_seq⟩
theorem Run.skip (h : Run P fid n R w0 k E A) : Run P fid n R w0 (.code .skip :: k) E A := ⟨fun a w he hs => (h.out a w he hs).step fun _ => stepR_skip⟩
theorem Run.block {id : Nat} {c : Code} (h : Run P fid n R w0 (.code c :: .inBlock id :: k) E A) : Run P fid n R w0 (.code (.block id c) :: k) E A :=
  ⟨fun a w he hs => (h.out a w he hs).step fun _ => stepR_block⟩
theorem Run.inBlock {id : Nat} (h : Run P fid n R w0 k E A) : Run P fid n R w0 (.inBlock id :: k) E A := ⟨fun a w he hs => (h.out a w he hs).step fun _ => stepR_inBlock⟩
theorem Run.exit {id : Nat} {k' : List Item} (hk : exitTo id k = some k') (h : Run P fid n R w0 k' E A) : Run P fid n R w0 (.code (.exit id) :: k) E A :=
  ⟨fun a w he hs => (h.out a w he hs).step fun _ => stepR_exit hk⟩
theorem Run.cond {c : Operand} {x y : Code} {t : Bool} (hc : ev E c = some (.bool t)) (ht : t = true → Run P fid n R w0 (.code x :: k) E A) (hf : t = false → Run P fid n R w0 (.code y :: k) E A) :
    Run P fid n R w0 (.code (.cond c x y) :: k) E A := by
  refine ⟨fun a w he hs => ?_⟩
  cases t with
  | true => exact ((ht rfl).out a w he hs).step fun _ => stepR_cond ((congrFun (und_eval _ _) c).trans (he.eval hc))
  | false => exact ((hf rfl).out a w he hs).step fun _ => stepR_cond ((congrFun (und_eval _ _) c).trans (he.eval hc))
theorem Run.condT {c : Operand} {x y : Code} (hc : ev E c = some (.bool true)) (ht : Run P fid n R w0 (.code x :: k) E A) : Run P fid n R w0 (.code (.cond c x y) :: k) E A :=
  Run.cond hc (fun _ => ht) (fun e => by cases e)
theorem Run.condF {c : Operand} {x y : Code} (hc : ev E c = some (.bool false)) (ht : Run P fid n R w0 (.code y :: k) E A) : Run P fid n R w0 (.code (.cond c x y) :: k) E A :=
  Run.cond hc (fun e => by cases e) (fun _ => ht)
theorem Run.condD {c : Operand} {x y : Code} {p : Prop} [Decidable p] (hc : ev E c = some (.bool (decide p))) (ht : p → Run P fid n R w0 (.code x :: k) E A) (hf : ¬ p → Run P fid n R w0 (.code y :: k) E A) :
    Run P fid n R w0 (.code (.cond c x y) :: k) E A :=
  Run.cond hc (fun e => ht (of_decide_eq_true e)) (fun e => hf (of_decide_eq_false e))
theorem Run.condN {c : Operand} {x y : Code} {p : Prop} [Decidable p] (hc : ev E c = some (.bool (!decide p))) (ht : ¬ p → Run P fid n R w0 (.code x :: k) E A) (hf : p → Run P fid n R w0 (.code y :: k) E A) :
    Run P fid n R w0 (.code (.cond c x y) :: k) E A :=
  Run.cond hc (fun e => ht (by simpa using e)) (fun e => hf (by simpa using e))
theorem Run.inLoop {c : Code} (h : Run P fid n R w0 (.code c :: .inLoop c :: k) E A) : Run P fid n R w0 (.inLoop c :: k) E A := ⟨fun a w he hs => (h.out a w he hs).step fun _ => stepR_inLoop⟩
theorem Run.loop {X : Type} (E' : X → Env) (A' : X → Asn) (I : X → Prop) (μ : X → Nat) (x0 : X) {c : Code} (hE : Sub (E' x0) E) (hA : A = A' x0) (hI : I x0)
    (body : ∀ x, I x → (∀ y, I y → μ y < μ x → Run P fid n R w0 (.inLoop c :: k) (E' y) (A' y)) → Run P fid n R w0 (.code c :: .inLoop c :: k) (E' x) (A' x)) :
    Run P fid n R w0 (.code (.loop c) :: k) E A := by
  have key : ∀ m x, μ x = m → I x → Run P fid n R w0 (.code c :: .inLoop c :: k) (E' x) (A' x) := by
    intro m
    induction m using Nat.strongRecOn with
    | _ m ih =>
      intro x hm hx
      exact body x hx fun y hy hlt => Run.inLoop (ih (μ y) (hm ▸ hlt) y rfl hy)
  refine ⟨fun a w he hs => ?_⟩
  exact ((key _ x0 rfl hI).out a w (he.sub hE) (hA ▸ hs)).step fun _ => stepR_loop
theorem Run.region {id : Nat} {l : List Oper} (h : RunL P n w0 l.toArray l (Runs P fid R k) E A) (hd : (fid.ro.isNone || noDefer l.toArray) = true := by rfl) : Run P fid n R w0 (.code (.region id l.toArray false) :: k) E A :=
  ⟨fun a w he hs => Runs.region hd (h.out a w he hs)⟩

/-! ### Contracts -/
def Post (w0 : World) (R : Value → Asn → Prop) : Ending → World → Prop := fun e w' => ∃ v A', R v A' ∧ e = .returned v ∧ Sat w0 w' A'
structure Spec (P : Program) (w0 : World) (f : FuncId) (args : List Value) (A : Asn) (R : Value → Asn → Prop) : Prop where
  out : ∀ w, Sat w0 w A → Calls P f args.toArray w (Post w0 R)
theorem Spec.mono {f : FuncId} {args : List Value} {R R' : Value → Asn → Prop} (h : Spec P w0 f args A R) (hr : ∀ v A', R v A' → R' v A') : Spec P w0 f args A R' :=
  ⟨fun w hs => (h.out w hs).mono fun _ _ ⟨v, A', hR, he, hs⟩ => ⟨v, A', hr _ _ hR, he, hs⟩⟩
theorem Spec.mem {f : FuncId} {args : List Value} {R : Value → Asn → Prop} {A' : Asn} (e : A = A') (h : Spec P w0 f args A' R) : Spec P w0 f args A R := e ▸ h
theorem Spec.of_run {f : FuncId} {fn : Func} {c : Code} {args : List Value} {R' : Value → Asn → Prop} (E' : Env) (hf : P.funcs[f]? = some fn) (hb : fn.body = some c) (hn : args.length ≤ fn.ntmps) (hg : Given E' args.toArray)
    (h : Run P ⟨f, none, []⟩ fn.ntmps (Post w0 R') w0 [.code c] E' A) : Spec P w0 f args A R' := by
  refine ⟨fun w hs cs => ?_⟩
  have henter : Frame.enter P f args.toArray .normal = (fbase ⟨f, none, []⟩).atR (und { tmps := args.toArray ++ Array.replicate (fn.ntmps - args.toArray.size) undef, defers := [] } []) [.code c] := by
    simp [Frame.enter, Frame.atR, hf, hb, fbase, und]
  rw [henter]
  have key : ∀ E' : Env, Given E' args.toArray → ∀ t v, lk E' t = some v → (args.toArray ++ Array.replicate (fn.ntmps - args.toArray.size) undef).getD t undef = v := by
    intro E'
    induction E' with
    | nil => intro _ t v hl; simp [lk] at hl
    | cons p r ih =>
      obtain ⟨i, u⟩ := p
      rintro ⟨g1, g2⟩ t v hl
      simp only [lk] at hl
      cases hq : Nat.beq i t with
      | false =>
        rw [hq] at hl
        exact ih g2 t v hl
      | true =>
        rw [hq] at hl
        have ht := Nat.eq_of_beq_eq_true hq
        subst ht
        simp at hl
        subst hl
        have hi := (Array.getElem?_eq_some_iff.1 g1).1
        rw [Array.getD_eq_getD_getElem?, Array.getElem?_append_left hi, g1]
        rfl
  obtain ⟨e, w', hR, hD⟩ := h.out { tmps := args.toArray ++ Array.replicate (fn.ntmps - args.toArray.size) undef, defers := [] } w ⟨rfl, by simp; omega, key E' hg⟩ hs cs
  obtain ⟨fr, hc, hx, hl⟩ := hD.1 rfl
  exact ⟨e, w', fr, hR, hc, hx, hl⟩

theorem Runs.ret {f : FuncId} {todo : List Item} {a : Act} {w : World} {fn : Func} {R' : Value → Asn → Prop} {v : Value} (hf : P.funcs[f]? = some fn) (hd : a.defers = []) (hr : (results fn a.tmps).run P w = .ok v w) (hR : R' v A) (hs : Sat w0 w A) :
    Runs P ⟨f, none, []⟩ (Post w0 R') (.code .ret :: todo) a w :=
  fun _ => ⟨.returned v, w, ⟨v, A, hR, rfl, hs⟩, fun _ => ⟨_, Steps.one (stepR_ret rfl), rfl, rfl, by simp [Frame.atR, und, hd], rfl, fn, hf, hr⟩, fun h => by cases h⟩
theorem Runs.fall {f : FuncId} {a : Act} {w : World} {fn : Func} {R' : Value → Asn → Prop} {v : Value} (hf : P.funcs[f]? = some fn) (hd : a.defers = []) (hr : (results fn a.tmps).run P w = .ok v w) (hR : R' v A) (hs : Sat w0 w A) :
    Runs P ⟨f, none, []⟩ (Post w0 R') [] a w :=
  fun _ => ⟨.returned v, w, ⟨v, A, hR, rfl, hs⟩, fun _ => ⟨_, Steps.one (stepR_end rfl), rfl, rfl, by simp [Frame.atR, und, hd], rfl, fn, hf, hr⟩, fun h => by cases h⟩
theorem Run.fall0 {f : FuncId} {fn : Func} {R' : Value → Asn → Prop} (hf : P.funcs[f]? = some fn) (hr : fn.results = #[]) (hR : R' (.tuple #[]) A) : Run P ⟨f, none, []⟩ n (Post w0 R') w0 [] E A :=
  ⟨fun _ _ he hs => Runs.fall hf he.defers (results_none hr _ _ _) hR hs⟩
theorem Run.ret0 {f : FuncId} {fn : Func} {R' : Value → Asn → Prop} {todo : List Item} (hf : P.funcs[f]? = some fn) (hr : fn.results = #[]) (hR : R' (.tuple #[]) A) : Run P ⟨f, none, []⟩ n (Post w0 R') w0 (.code .ret :: todo) E A :=
  ⟨fun _ _ he hs => Runs.ret hf he.defers (results_none hr _ _ _) hR hs⟩
theorem Run.ret1 {f : FuncId} {fn : Func} {R' : Value → Asn → Prop} {t : Tmp} {v : Value} {todo : List Item} (hf : P.funcs[f]? = some fn) (hr : fn.results = #[.tmp t]) (hv : lk E t = some v) (hR : R' v A) :
    Run P ⟨f, none, []⟩ n (Post w0 R') w0 (.code .ret :: todo) E A := by
  refine ⟨fun a w he hs => ?_⟩
  refine Runs.ret hf he.defers (v := v) ?_ hR hs
  rw [results_tmp hr, he.look t v hv]
theorem Run.ret2 {f : FuncId} {fn : Func} {R' : Value → Asn → Prop} {t u : Tmp} {v v' : Value} {todo : List Item} (hf : P.funcs[f]? = some fn) (hr : fn.results = #[.tmp t, .tmp u]) (hv : lk E t = some v) (hu : lk E u = some v') (hR : R' (.tuple #[v, v']) A) :
    Run P ⟨f, none, []⟩ n (Post w0 R') w0 (.code .ret :: todo) E A := by
  refine ⟨fun a w he hs => ?_⟩
  refine Runs.ret hf he.defers (v := .tuple #[v, v']) ?_ hR hs
  rw [results_tmp2 hr, he.look t v hv, he.look u v' hu]
theorem Run.ret3 {f : FuncId} {fn : Func} {R' : Value → Asn → Prop} {t u x : Tmp} {v v' v2 : Value} {todo : List Item} (hf : P.funcs[f]? = some fn) (hr : fn.results = #[.tmp t, .tmp u, .tmp x]) (hv : lk E t = some v) (hu : lk E u = some v') (hx : lk E x = some v2)
    (hR : R' (.tuple #[v, v', v2]) A) : Run P ⟨f, none, []⟩ n (Post w0 R') w0 (.code .ret :: todo) E A := by
  refine ⟨fun a w he hs => ?_⟩
  refine Runs.ret hf he.defers (v := .tuple #[v, v', v2]) ?_ hR hs
  simp only [results, hr]
  rw [← he.look t v hv, ← he.look u v' hu, ← he.look x v2 hx]
  simp
end control

/-! ### Operations -/
section opers
variable {P : Program} {fid : Fid} {n : Nat} {R : Ending → World → Prop} {w0 : World} {ops : Array Oper} {l : List Oper} {k : List Item} {K : Act → World → Prop} {E : Env} {A : Asn}
theorem RunL.nil (h : Run P fid n R w0 k E A) : RunL P n w0 ops [] (Runs P fid R k) E A := ⟨fun a w he hs => h.out a w he hs⟩
theorem RunL.done (h : ∀ a w, Ev n a E → Sat w0 w A → K a w) : RunL P n w0 ops [] K E A := ⟨fun a w he hs => h a w he hs⟩
theorem RunL.env (E' : Env) (s : Sub E' E) (h : RunL P n w0 ops l K E' A) : RunL P n w0 ops l K E A := ⟨fun a w he hs => h.out a w (he.sub s) hs⟩
theorem RunL.mem {A' : Asn} (e : A = A') (h : RunL P n w0 ops l K E A') : RunL P n w0 ops l K E A := e ▸ h
theorem RunL.ent {A' : Asn} (e : Ent A A') (h : RunL P n w0 ops l K E A') : RunL P n w0 ops l K E A := ⟨fun a w he hs => h.out a w he (hs.ent e)⟩
theorem RunL.know {p : Prop} (e : ∀ w, Sat w0 w A → p) (h : p → RunL P n w0 ops l K E A) : RunL P n w0 ops l K E A := ⟨fun a w he hs => (h (e w hs)).out a w he hs⟩
theorem RunL.sat (h : ∀ w, Sat w0 w A → ∃ A', Sat w0 w A' ∧ RunL P n w0 ops l K E A') : RunL P n w0 ops l K E A := ⟨fun a w he hs => let ⟨_, s, r⟩ := h w hs; r.out a w he s⟩
/-- An operation that yields a value. -/
theorem RunL.val {X : Type} {d : Nat} {op : Op} {ty : TypeId} {ps : String} {af : Array Edge} (v : X → Value) (A' : X → Asn) (hd : Nat.blt d n = true)
    (h : ∀ a w, Ev n a E → Sat w0 w A → ∃ x w', (execOp a.eval { dst := some d, op, type := ty, pos := ps, after := af, guard := none }).run P w = .ok (.value (v x)) w' ∧ Sat w0 w' (A' x))
    (r : ∀ x, RunL P n w0 ops l K ((d, v x) :: E) (A' x)) : RunL P n w0 ops ({ dst := some d, op, type := ty, pos := ps, after := af, guard := none } :: l) K E A := by
  refine ⟨fun a w he hs => ?_⟩
  refine wpList_plain rfl fun K' hK => ?_
  obtain ⟨x, w', hrun, hs'⟩ := h a w he hs
  unfold Oper.wp
  rw [hrun]
  exact hK _ _ ((r x).out _ _ (he.put (Nat.le_of_ble_eq_true hd) _) hs')
/-- An operation that yields none. -/
theorem RunL.unit {X : Type} {op : Op} {ty : TypeId} {ps : String} {af : Array Edge} (A' : X → Asn)
    (h : ∀ a w, Ev n a E → Sat w0 w A → ∃ x w', (execOp a.eval { dst := none, op, type := ty, pos := ps, after := af, guard := none }).run P w = .ok .skip w' ∧ Sat w0 w' (A' x))
    (r : ∀ x, RunL P n w0 ops l K E (A' x)) : RunL P n w0 ops ({ dst := none, op, type := ty, pos := ps, after := af, guard := none } :: l) K E A := by
  refine ⟨fun a w he hs => ?_⟩
  refine wpList_plain rfl fun K' hK => ?_
  obtain ⟨x, w', hrun, hs'⟩ := h a w he hs
  unfold Oper.wp
  rw [hrun]
  exact hK _ _ ((r x).out _ _ he hs')
/-- The operation yields v and leaves the assertion as it was. -/
structure OpOk (P : Program) (n : Nat) (w0 : World) (op : Op) (ty : TypeId) (E : Env) (A : Asn) (v : Value) : Prop where
  out : ∀ a w d ps af g, Ev n a E → Sat w0 w A → ∃ w', (execOp a.eval { dst := d, op, type := ty, pos := ps, after := af, guard := g }).run P w = .ok (.value v) w' ∧ Sat w0 w' A
theorem RunL.ok {d : Nat} {op : Op} {ty : TypeId} {ps : String} {af : Array Edge} {v : Value} (h : OpOk P n w0 op ty E A v) (hd : Nat.blt d n = true) (r : RunL P n w0 ops l K ((d, v) :: E) A) :
    RunL P n w0 ops ({ dst := some d, op, type := ty, pos := ps, after := af, guard := none } :: l) K E A :=
  RunL.val (X := Unit) (fun _ => v) (fun _ => A) hd (fun a w he hs => let ⟨w', x, y⟩ := h.out a w (some d) ps af none he hs; ⟨(), w', x, y⟩) fun _ => r
theorem RunL.on {d : Option Nat} {op : Op} {ty : TypeId} {ps : String} {af : Array Edge} {j t : Nat} {want : Bool} (hj : (ops[j]?).bind (·.dst) = some t) (hb : lk E t = some (.bool want))
    (r : RunL P n w0 ops ({ dst := d, op, type := ty, pos := ps, after := af, guard := none } :: l) K E A) : RunL P n w0 ops ({ dst := d, op, type := ty, pos := ps, after := af, guard := some (j, want) } :: l) K E A := by
  refine ⟨fun a w he hs => ?_⟩
  have h := r.out a w he hs
  unfold wpList at h ⊢
  have hl := he.look t _ hb
  have hy : yielded ops a.tmps j = some want := by
    unfold yielded
    rw [hj]
    rw [Array.getD_eq_getD_getElem?] at hl
    cases hq : a.tmps[t]? with
    | none => rw [hq] at hl; simp [undef] at hl
    | some u => rw [hq] at hl; simp at hl; subst hl; simp [hq]
  have hw : Region.wanted { dst := d, op, type := ty, pos := ps, after := af, guard := some (j, want) } (yielded ops a.tmps) = true := by simp [Region.wanted, hy]
  have hw0 : Region.wanted { dst := d, op, type := ty, pos := ps, after := af, guard := none } (yielded ops a.tmps) = true := by simp [Region.wanted]
  rw [if_pos hw0] at h
  rw [if_pos hw]
  exact h
theorem RunL.off {d : Nat} {op : Op} {ty : TypeId} {ps : String} {af : Array Edge} {j t : Nat} {want : Bool} {u : Value} (hj : (ops[j]?).bind (·.dst) = some t) (hb : lk E t = some u) (hu : (match u with | .bool b => b == want | _ => false) = false) (hd : Nat.blt d n = true)
    (r : RunL P n w0 ops l K ((d, undef) :: E) A) : RunL P n w0 ops ({ dst := some d, op, type := ty, pos := ps, after := af, guard := some (j, want) } :: l) K E A := by
  refine ⟨fun a w he hs => ?_⟩
  have hl := he.look t _ hb
  have hy : (yielded ops a.tmps j == some want) = false := by
    unfold yielded
    rw [hj]
    rw [Array.getD_eq_getD_getElem?] at hl
    cases hq : a.tmps[t]? with
    | none => simp [hq]
    | some u' =>
      rw [hq] at hl
      simp at hl
      subst hl
      simp only [Option.bind_some, hq]
      cases u' <;> simp_all
  refine wpList_skip ?_ (r.out _ w (he.put (Nat.le_of_ble_eq_true hd) _) hs)
  simp only [Region.wanted]
  exact hy
end opers
end Go.Proofs.Yteopadjihklkmaa
