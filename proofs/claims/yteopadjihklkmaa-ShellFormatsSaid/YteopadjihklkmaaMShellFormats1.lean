/- Part 1 of the proof of ShellFormats. -/
import Derived.Test.YteopadjihklkmaaMShellFormats0
import Derived.RangeFuncRecord
import Derived.RangeFuncCalls
section
namespace Go.Proofs.Yteopadjihklkmaa
open Go
abbrev Env := List (Nat × Value)
def lk : Env → Nat → Option Value
  | [], _ => none
  | (i, v) :: r, t => bif Nat.beq i t then some v else lk r t
def ev (E : Env) : Operand → Option Value
  | .tmp t => lk E t
  | .const v => some v
  | .global g => some (.pointer (some ⟨g, 0, none⟩))
  | .func f => some (.func (.func f) #[] #[])
def evs (E : Env) : List Operand → Option (List Value)
  | [] => some []
  | x :: r => match ev E x, evs E r with
    | some v, some vs => some (v :: vs)
    | _, _ => none
def Sub : Env → Env → Prop
  | [], _ => True
  | (t, v) :: r, E => lk E t = some v ∧ Sub r E
def Given : Env → Array Value → Prop
  | [], _ => True
  | (t, v) :: r, as => as[t]? = some v ∧ Given r as
structure Ev (n : Nat) (a : Act) (E : Env) : Prop where
  defers : a.defers = []
  size : a.tmps.size = n
  look : ∀ t v, lk E t = some v → a.tmps.getD t undef = v
theorem Ev.eval {n : Nat} {a : Act} {E : Env} (h : Ev n a E) {x : Operand} {v : Value} (hx : ev E x = some v) : a.eval x = v := by
  cases x with
  | tmp t => exact h.look t v hx
  | const c => exact Option.some.inj hx
  | global g => exact Option.some.inj hx
  | func f => exact Option.some.inj hx
theorem Ev.evals {n : Nat} {a : Act} {E : Env} (h : Ev n a E) : ∀ {xs : List Operand} {vs : List Value}, evs E xs = some vs → xs.map a.eval = vs
  | [], vs, hx => by simp [evs] at hx; simp [hx]
  | x :: r, vs, hx => by
    simp only [evs] at hx
    cases h1 : ev E x with
    | none => simp [h1] at hx
    | some v =>
      cases h2 : evs E r with
      | none => simp [h1, h2] at hx
      | some us =>
        simp [h1, h2] at hx
        subst hx
        simp [h.eval h1, Ev.evals h h2]
theorem Ev.put {n d : Nat} {a : Act} {E : Env} (h : Ev n a E) (hd : d < n) (v : Value) : Ev n (a.put (some d) v) ((d, v) :: E) := by
  refine ⟨h.defers, by simp [Act.put, h.size], fun t u hu => ?_⟩
  simp only [lk] at hu
  by_cases e : d = t
  · subst e
    simp at hu
    subst hu
    simp [Act.put, Array.getD_eq_getD_getElem?, h.size, hd]
  · have hb : Nat.beq d t = false := by
      cases hq : Nat.beq d t with
      | false => rfl
      | true => exact absurd (Nat.eq_of_beq_eq_true hq) e
    rw [hb] at hu
    have := h.look t u hu
    simp only [Act.put, Array.getD_eq_getD_getElem?] at *
    rw [Array.getElem?_setIfInBounds_ne e]
    exact this
theorem Sub.look {E' E : Env} (h : Sub E' E) : ∀ {t : Nat} {v : Value}, lk E' t = some v → lk E t = some v := by
  induction E' with
  | nil => intro t v hl; simp [lk] at hl
  | cons p r ih =>
    obtain ⟨i, u⟩ := p
    intro t v hl
    obtain ⟨h1, h2⟩ := h
    simp only [lk] at hl
    cases hq : Nat.beq i t with
    | true =>
      rw [hq] at hl
      simp at hl
      subst hl
      rw [← Nat.eq_of_beq_eq_true hq]
      exact h1
    | false =>
      rw [hq] at hl
      exact ih h2 hl
theorem Ev.sub {n : Nat} {a : Act} {E E' : Env} (h : Ev n a E) (s : Sub E' E) : Ev n a E' := ⟨h.defers, h.size, fun t v hl => h.look t v (s.look hl)⟩
/-! ### From a list of things to do to the function's end -/
/-- A running function: which one, in which round of a range over a function, and the marks that such ranges have left among its deferred calls. -/
structure Fid where
  fn : FuncId
  ro : Option Nat
  ds : List Nat
def mkD (d : Nat) : Deferred := { target := .collected d, args := #[] }
def und (a : Act) (m : List Nat) : Act := { a with defers := a.defers ++ m.map mkD }
def fbase (fid : Fid) : Frame := { (default : Frame) with fn := fid.fn, kind := .normal, roundOf := fid.ro }
/-- The way out: a function's frame leaves; a round hands its answer back to the one that called yield. -/
def Done (P : Program) (fid : Fid) (m : Machine) (cs : List Frame) (e : Ending) (w' : World) : Prop :=
  (fid.ro = none → ∃ fr, Comes P m (lone fr cs w') e ∧ fr.fn = fid.fn ∧ fr.leaving P w' e) ∧
  (fid.ro.isSome = true → ∀ c cs', cs = c :: cs' → ∃ v, e = .returned v ∧ Steps P m (lone (c.finish v) cs' w'))
theorem Done.of_steps {P : Program} {fid : Fid} {m m1 : Machine} {cs : List Frame} {e : Ending} {w' : World} (hs : Steps P m m1) (h : Done P fid m1 cs e w') : Done P fid m cs e w' :=
  ⟨fun hr => let ⟨fr, hc, x⟩ := h.1 hr; ⟨fr, hc.of_steps hs, x⟩, fun hr c cs' hc => let ⟨v, x, y⟩ := h.2 hr c cs' hc; ⟨v, x, hs.trans y⟩⟩
def Runs (P : Program) (fid : Fid) (R : Ending → World → Prop) (todo : List Item) (a : Act) (w : World) : Prop :=
  ∀ cs, ∃ e w', R e w' ∧ Done P fid (lone ((fbase fid).atR (und a fid.ds) todo) cs w) cs e w'
theorem Runs.step {P : Program} {fid : Fid} {R : Ending → World → Prop} {todo todo' : List Item} {a a' : Act} {w w' : World}
    (hs : ∀ cs, step P (lone ((fbase fid).atR (und a fid.ds) todo) cs w) = .next (lone ((fbase fid).atR (und a' fid.ds) todo') cs w')) (h : Runs P fid R todo' a' w') : Runs P fid R todo a w := by
  intro cs
  obtain ⟨e, w2, hR, hd⟩ := h cs
  exact ⟨e, w2, hR, hd.of_steps (.one (hs cs))⟩
theorem Runs.steps {P : Program} {fid : Fid} {R : Ending → World → Prop} {todo todo' : List Item} {a a' : Act} {w w' : World}
    (hs : ∀ cs, Steps P (lone ((fbase fid).atR (und a fid.ds) todo) cs w) (lone ((fbase fid).atR (und a' fid.ds) todo') cs w')) (h : Runs P fid R todo' a' w') : Runs P fid R todo a w := by
  intro cs
  obtain ⟨e, w2, hR, hd⟩ := h cs
  exact ⟨e, w2, hR, hd.of_steps (hs cs)⟩
theorem und_eval (a : Act) (m : List Nat) : (und a m).eval = a.eval := funext fun x => by cases x <;> rfl
theorem und_put (a : Act) (m : List Nat) (d : Option Tmp) (v : Value) : (und a m).put d v = und (a.put d v) m := by cases d <;> rfl
/-! Regions, in a function's frame or in a round's. -/
def noDefer (ops : Array Oper) : Bool := ops.toList.all fun o => match o.op with | .defer _ => false | _ => true
def FW : Option Nat → Fence
  | none => Fence.wide
  | some l => Fence.wide.inRound l
theorem FW_fn (ro : Option Nat) (f : FuncId) : (FW ro).fn f := by cases ro <;> trivial
theorem FW_depth (ro : Option Nat) : (FW ro).depth = none := by cases ro <;> rfl
theorem FW_round (ro : Option Nat) : (FW ro).round = ro := by cases ro <;> rfl
theorem FW_room (ro : Option Nat) (n : Nat) : (FW ro).room n := fun _ h => by rw [FW_depth] at h; cases h
theorem FW_calls {ro : Option Nat} {n : Nat} {P : Program} {f : FuncId} {args : Array Value} {w : World} {R : Ending → World → Prop} (h : Calls P f args w R) : CallsIn (FW ro) n P f args w R := by
  cases ro with
  | none => exact callsIn_wide.2 h
  | some l => exact CallsIn.inRound l (callsIn_wide.2 h)
theorem FW_rows {ro : Option Nat} {n : Nat} {P : Program} {row : String} {args : Array Value} {w : World} {R : Value → World → Prop} (h : Rows P row args w R) : RowsIn (FW ro) n P row args w R := by
  intro c cs _
  obtain ⟨v, w', hR, hs⟩ := h c cs
  refine ⟨v, w', hR, ?_⟩
  have h2 : StepsIn (Machine.fenced P Fence.wide) P (lone (Frame.ofRow P row args .normal) (c :: cs) w) (lone (c.finish v) cs w') := stepsIn_wide.2 hs
  cases ro <;> exact h2
def Qk (K : Act → World → Prop) : Exit → Act → World → Prop
  | .normal, a, w => K a w
  | _, _, _ => False
theorem not_out {K : Act → World → Prop} : ¬ LetsOut (Qk K) := fun ⟨_, _, h⟩ => h
/-- What holds of an activation, held of it with marks under its deferred calls. -/
def Und (m : List Nat) (K : Act → World → Prop) : Act → World → Prop := fun a w => ∃ a1, a = und a1 m ∧ K a1 w
theorem oper_in {P : Program} {ro : Option Nat} {m : List Nat} {o : Oper} {a : Act} {w : World} {K : Act → World → Prop} {next next' : Act → World → Prop} (hd : ro = none ∨ ∀ c, o.op ≠ .defer c)
    (hn : ∀ a w, next a w → next' (und a m) w) (h : o.wp P a w next (Qk K)) : o.wpIn (FW ro) 0 P (und a m) w next' (Qk (Und m K)) := by
  refine ⟨fun f _ => FW_fn ro f, ?_⟩
  have hsem : o.semAt (FW ro).round (und a m).eval = execOp a.eval o := by
    rw [FW_round, und_eval]
    rcases hd with rfl | hd
    · rfl
    · exact Oper.semAt_eq ro _ o hd
  rw [hsem]
  unfold Oper.wp at h
  have hdep : ¬ ((FW ro).depth.isSome = true) := by rw [FW_depth]; simp
  revert h
  generalize (execOp a.eval o).run P w = r
  intro h
  match r, h with
  | .ok (.value v) w', h =>
    show next' _ _
    rw [und_put]
    exact hn _ _ h
  | .ok .skip w', h =>
    show next' _ _
    rw [und_put]
    exact hn _ _ h
  | .ok (.defer d) w', h =>
    have e : ({ und a m with defers := d :: (und a m).defers } : Act).put o.dst undef = und (({ a with defers := d :: a.defers } : Act).put o.dst undef) m := by
      cases o.dst <;> rfl
    show next' _ _
    rw [e]
    exact hn _ _ h
  | .ok (.enter f args) w', h =>
    refine ⟨fun x => absurd x hdep, ?_⟩
    refine FW_calls (Calls.mono h fun e w2 he => ?_)
    cases e with
    | returned v =>
      show next' _ _
      rw [und_put]
      exact hn _ _ he
    | panicked c => exact he.elim
    | outgrown => exact (not_out he).elim
  | .ok (.row row args) w', h =>
    refine ⟨fun x => absurd x hdep, FW_rows (Rows.mono h fun v w2 he => ?_)⟩
    show next' _ _
    rw [und_put]
    exact hn _ _ he
  | .halt (.panic v) w', h => exact h.elim
theorem ops_in {P : Program} {ro : Option Nat} {m : List Nat} {ops : Array Oper} {K : Act → World → Prop} (hd : (ro.isNone || noDefer ops) = true) :
    ∀ (l : List Nat) (a : Act) (w : World), wpOps P ops (Qk K) l a w → wpOpsIn (FW ro) 0 P ops (Qk (Und m K)) l (und a m) w
  | [], a, w, h => ⟨a, rfl, h⟩
  | i :: r, a, w, h => by
    simp only [wpOps] at h
    simp only [wpOpsIn]
    cases ho : ops[i]? with
    | none =>
      rw [ho] at h
      exact ops_in hd r a w h
    | some o =>
      rw [ho] at h
      have hd' : ro = none ∨ ∀ c, o.op ≠ .defer c := by
        cases hro : ro with
        | none => exact .inl rfl
        | some l =>
          right
          rw [hro] at hd
          simp only [Option.isNone_some, Bool.false_or] at hd
          intro c e
          have hm : o ∈ ops.toList := by
            obtain ⟨hlt, he⟩ := Array.getElem?_eq_some_iff.1 ho
            exact he ▸ Array.getElem_mem_toList hlt
          have := List.all_eq_true.1 hd o hm
          rw [e] at this
          cases this
      have hy : yielded ops (und a m).tmps = yielded ops a.tmps := rfl
      dsimp only at h ⊢
      rw [hy]
      by_cases hw : Region.wanted o (yielded ops a.tmps) = true
      · rw [if_pos hw] at h ⊢
        rcases h with h | h
        · exact oper_in hd' (fun a w hq => ops_in hd r a w hq) h
        · exact (not_out h.2).elim
      · rw [if_neg hw] at h ⊢
        refine ⟨fun f _ => FW_fn ro f, ?_⟩
        rw [und_put]
        exact ops_in hd r _ w h
theorem runs_of_ops {P : Program} {fid : Fid} {R : Ending → World → Prop} {k : List Item} {a : Act} {w w1 : World} {ops : Array Oper} {l : List Nat} {c : Code} (hd : (fid.ro.isNone || noDefer ops) = true)
    (hs : ∀ cs, step P (lone ((fbase fid).atR (und a fid.ds) (.code c :: k)) cs w) = .next (lone ((fbase fid).atR (und a fid.ds) (.inRegion ops l :: k)) cs w1))
    (h : wpOps P ops (Qk (Runs P fid R k)) l a w1) : Runs P fid R (.code c :: k) a w := by
  intro cs
  obtain ⟨e, a', w', hq, harr⟩ := wp_opsIn (F := FW fid.ro) (n := 0) l (und a fid.ds) w1 (ops_in hd l a w1 h) (fbase fid) k cs (FW_round _).symm (FW_fn _ _) (FW_room _ _)
  cases e with
  | normal =>
    obtain ⟨a1, rfl, hk⟩ := hq
    obtain ⟨e2, w2, hR, hD⟩ := hk cs
    exact ⟨e2, w2, hR, hD.of_steps ((Steps.one (hs cs)).trans (StepsIn.steps harr))⟩
  | exit i => exact hq.elim
  | goto i => exact hq.elim
  | ret => exact hq.elim
  | panic c => exact hq.elim
  | outgrown => exact hq.elim
theorem Runs.region {P : Program} {fid : Fid} {R : Ending → World → Prop} {k : List Item} {a : Act} {w : World} {id : Nat} {l : List Oper} (hd : (fid.ro.isNone || noDefer l.toArray) = true)
    (h : wpList P l.toArray (Qk (Runs P fid R k)) l a w) : Runs P fid R (.code (.region id l.toArray false) :: k) a w :=
  runs_of_ops hd (fun _ => stepR_region) (by rw [List.range_eq_range', show l.toArray.size = l.length from rfl, wpOps_eq_wpList l 0 (by simp)]; exact h)
theorem Runs.regionD {P : Program} {fid : Fid} {R : Ending → World → Prop} {k : List Item} {a : Act} {w : World} {id : Nat} {l : List Oper} (hd : (fid.ro.isNone || noDefer l.toArray) = true)
    (h : ∀ t, wpOps P l.toArray (Qk (Runs P fid R k)) (Region.schedule (P.follows .mixedOrders) l.toArray t) a { w with drawn := w.drawn + 1 }) : Runs P fid R (.code (.region id l.toArray true) :: k) a w :=
  runs_of_ops hd (fun _ => stepR_region_draw) (h _)
structure Run (P : Program) (fid : Fid) (n : Nat) (R : Ending → World → Prop) (w0 : World) (todo : List Item) (E : Env) (A : Asn) : Prop where
  out : ∀ a w, Ev n a E → Sat w0 w A → Runs P fid R todo a w
/-- Running the operations of a region one behind the other; behind them K. -/
structure RunL (P : Program) (n : Nat) (w0 : World) (ops : Array Oper) (l : List Oper) (K : Act → World → Prop) (E : Env) (A : Asn) : Prop where
  out : ∀ a w, Ev n a E → Sat w0 w A → wpList P ops (Qk K) l a w
section control
variable {P : Program} {fid : Fid} {n : Nat} {R : Ending → World → Prop} {w0 : World} {k : List Item} {E : Env} {A : Asn}
theorem Run.env (E' : Env) (s : Sub E' E) (h : Run P fid n R w0 k E' A) : Run P fid n R w0 k E A := ⟨fun a w he hs => h.out a w (he.sub s) hs⟩
theorem Run.mem {A' : Asn} (e : A = A') (h : Run P fid n R w0 k E A') : Run P fid n R w0 k E A := e ▸ h
theorem Run.ent {A' : Asn} (e : Ent A A') (h : Run P fid n R w0 k E A') : Run P fid n R w0 k E A := ⟨fun a w he hs => h.out a w he (hs.ent e)⟩
theorem Run.know {p : Prop} (e : ∀ w, Sat w0 w A → p) (h : p → Run P fid n R w0 k E A) : Run P fid n R w0 k E A := ⟨fun a w he hs => (h (e w hs)).out a w he hs⟩
theorem Run.seq {x y : Code} (h : Run P fid n R w0 (.code x :: .code y :: k) E A) : Run P fid n R w0 (.code (.seq x y) :: k) E A :=
  ⟨fun a w he hs => (h.out a w he hs).step fun _ => stepR_seq⟩
theorem Run.skip (h : Run P fid n R w0 k E A) : Run P fid n R w0 (.code .skip :: k) E A := ⟨fun a w he hs => (h.out a w he hs).step fun _ => stepR_skip⟩
theorem Run.block {id : Nat} {c : Code} (h : Run P fid n R w0 (.code c :: .inBlock id :: k) E A) : Run P fid n R w0 (.code (.block id c) :: k) E A :=
  ⟨fun a w he hs => (h.out a w he hs).step fun _ => stepR_block⟩
theorem Run.inBlock {id : Nat} (h : Run P fid n R w0 k E A) : Run P fid n R w0 (.inBlock id :: k) E A := ⟨fun a w he hs => (h.out a w he hs).step fun _ => stepR_inBlock⟩
theorem Run.exit {id : Nat} {k' : List Item} (hk : exitTo id k = some k') (h : Run P fid n R w0 k' E A) : Run P fid n R w0 (.code (.exit id) :: k) E A :=
  ⟨fun a w he hs => (h.out a w he hs).step fun _ => stepR_exit hk⟩
theorem Run.cond {c : Operand} {x y : Code} {t : Bool} (hc : ev E c = some (.bool t)) (ht : t = true → Run P fid n R w0 (.code x :: k) E A) (hf : t = false → Run P fid n R w0 (.code y :: k) E A) :
    Run P fid n R w0 (.code (.cond c x y) :: k) E A := by
  refine ⟨fun a w he hs => ?_⟩
  cases t with
  | true => exact ((ht rfl).out a w he hs).step fun _ => stepR_cond ((congrFun (und_eval _ _) c).trans (he.eval hc))
  | false => exact ((hf rfl).out a w he hs).step fun _ => stepR_cond ((congrFun (und_eval _ _) c).trans (he.eval hc))
theorem Run.condT {c : Operand} {x y : Code} (hc : ev E c = some (.bool true)) (ht : Run P fid n R w0 (.code x :: k) E A) : Run P fid n R w0 (.code (.cond c x y) :: k) E A :=
  Run.cond hc (fun _ => ht) (fun e => by cases e)
theorem Run.condF {c : Operand} {x y : Code} (hc : ev E c = some (.bool false)) (ht : Run P fid n R w0 (.code y :: k) E A) : Run P fid n R w0 (.code (.cond c x y) :: k) E A :=
  Run.cond hc (fun e => by cases e) (fun _ => ht)
theorem Run.condD {c : Operand} {x y : Code} {p : Prop} [Decidable p] (hc : ev E c = some (.bool (decide p))) (ht : p → Run P fid n R w0 (.code x :: k) E A) (hf : ¬ p → Run P fid n R w0 (.code y :: k) E A) :
    Run P fid n R w0 (.code (.cond c x y) :: k) E A :=
  Run.cond hc (fun e => ht (of_decide_eq_true e)) (fun e => hf (of_decide_eq_false e))
theorem Run.condN {c : Operand} {x y : Code} {p : Prop} [Decidable p] (hc : ev E c = some (.bool (!decide p))) (ht : ¬ p → Run P fid n R w0 (.code x :: k) E A) (hf : p → Run P fid n R w0 (.code y :: k) E A) :
    Run P fid n R w0 (.code (.cond c x y) :: k) E A :=
  Run.cond hc (fun e => ht (by simpa using e)) (fun e => hf (by simpa using e))
theorem Run.inLoop {c : Code} (h : Run P fid n R w0 (.code c :: .inLoop c :: k) E A) : Run P fid n R w0 (.inLoop c :: k) E A := ⟨fun a w he hs => (h.out a w he hs).step fun _ => stepR_inLoop⟩
theorem Run.loop {X : Type} (E' : X → Env) (A' : X → Asn) (I : X → Prop) (μ : X → Nat) (x0 : X) {c : Code} (hE : Sub (E' x0) E) (hA : A = A' x0) (hI : I x0)
    (body : ∀ x, I x → (∀ y, I y → μ y < μ x → Run P fid n R w0 (.inLoop c :: k) (E' y) (A' y)) → Run P fid n R w0 (.code c :: .inLoop c :: k) (E' x) (A' x)) :
    Run P fid n R w0 (.code (.loop c) :: k) E A := by
  have key : ∀ m x, μ x = m → I x → Run P fid n R w0 (.code c :: .inLoop c :: k) (E' x) (A' x) := by
    intro m
    induction m using Nat.strongRecOn with
    | _ m ih =>
      intro x hm hx
      exact body x hx fun y hy hlt => Run.inLoop (ih (μ y) (hm ▸ hlt) y rfl hy)
  refine ⟨fun a w he hs => ?_⟩
  exact ((key _ x0 rfl hI).out a w (he.sub hE) (hA ▸ hs)).step fun _ => stepR_loop
theorem Run.region {id : Nat} {l : List Oper} (h : RunL P n w0 l.toArray l (Runs P fid R k) E A) (hd : (fid.ro.isNone || noDefer l.toArray) = true := by rfl) : Run P fid n R w0 (.code (.region id l.toArray false) :: k) E A :=
  ⟨fun a w he hs => Runs.region hd (h.out a w he hs)⟩
/-! ### Contracts -/
def Post (w0 : World) (R : Value → Asn → Prop) : Ending → World → Prop := fun e w' => ∃ v A', R v A' ∧ e = .returned v ∧ Sat w0 w' A'
structure Spec (P : Program) (w0 : World) (f : FuncId) (args : List Value) (A : Asn) (R : Value → Asn → Prop) : Prop where
  out : ∀ w, Sat w0 w A → Calls P f args.toArray w (Post w0 R)
theorem Spec.mono {f : FuncId} {args : List Value} {R R' : Value → Asn → Prop} (h : Spec P w0 f args A R) (hr : ∀ v A', R v A' → R' v A') : Spec P w0 f args A R' :=
  ⟨fun w hs => (h.out w hs).mono fun _ _ ⟨v, A', hR, he, hs⟩ => ⟨v, A', hr _ _ hR, he, hs⟩⟩
theorem Spec.mem {f : FuncId} {args : List Value} {R : Value → Asn → Prop} {A' : Asn} (e : A = A') (h : Spec P w0 f args A' R) : Spec P w0 f args A R := e ▸ h
theorem Spec.of_run {f : FuncId} {fn : Func} {c : Code} {args : List Value} {R' : Value → Asn → Prop} (E' : Env) (hf : P.funcs[f]? = some fn) (hb : fn.body = some c) (hn : args.length ≤ fn.ntmps) (hg : Given E' args.toArray)
    (h : Run P ⟨f, none, []⟩ fn.ntmps (Post w0 R') w0 [.code c] E' A) : Spec P w0 f args A R' := by
  refine ⟨fun w hs cs => ?_⟩
  have henter : Frame.enter P f args.toArray .normal = (fbase ⟨f, none, []⟩).atR (und { tmps := args.toArray ++ Array.replicate (fn.ntmps - args.toArray.size) undef, defers := [] } []) [.code c] := by
    simp [Frame.enter, Frame.atR, hf, hb, fbase, und]
  rw [henter]
  have key : ∀ E' : Env, Given E' args.toArray → ∀ t v, lk E' t = some v → (args.toArray ++ Array.replicate (fn.ntmps - args.toArray.size) undef).getD t undef = v := by
    intro E'
    induction E' with
    | nil => intro _ t v hl; simp [lk] at hl
    | cons p r ih =>
      obtain ⟨i, u⟩ := p
      rintro ⟨g1, g2⟩ t v hl
      simp only [lk] at hl
      cases hq : Nat.beq i t with
      | false =>
        rw [hq] at hl
        exact ih g2 t v hl
      | true =>
        rw [hq] at hl
        have ht := Nat.eq_of_beq_eq_true hq
        subst ht
        simp at hl
        subst hl
        have hi := (Array.getElem?_eq_some_iff.1 g1).1
        rw [Array.getD_eq_getD_getElem?, Array.getElem?_append_left hi, g1]
        rfl
  obtain ⟨e, w', hR, hD⟩ := h.out { tmps := args.toArray ++ Array.replicate (fn.ntmps - args.toArray.size) undef, defers := [] } w ⟨rfl, by simp; omega, key E' hg⟩ hs cs
  obtain ⟨fr, hc, hx, hl⟩ := hD.1 rfl
  exact ⟨e, w', fr, hR, hc, hx, hl⟩
theorem Runs.ret {f : FuncId} {todo : List Item} {a : Act} {w : World} {fn : Func} {R' : Value → Asn → Prop} {v : Value} (hf : P.funcs[f]? = some fn) (hd : a.defers = []) (hr : (results fn a.tmps).run P w = .ok v w) (hR : R' v A) (hs : Sat w0 w A) :
    Runs P ⟨f, none, []⟩ (Post w0 R') (.code .ret :: todo) a w :=
  fun _ => ⟨.returned v, w, ⟨v, A, hR, rfl, hs⟩, fun _ => ⟨_, Steps.one (stepR_ret rfl), rfl, rfl, by simp [Frame.atR, und, hd], rfl, fn, hf, hr⟩, fun h => by cases h⟩
theorem Runs.fall {f : FuncId} {a : Act} {w : World} {fn : Func} {R' : Value → Asn → Prop} {v : Value} (hf : P.funcs[f]? = some fn) (hd : a.defers = []) (hr : (results fn a.tmps).run P w = .ok v w) (hR : R' v A) (hs : Sat w0 w A) :
    Runs P ⟨f, none, []⟩ (Post w0 R') [] a w :=
  fun _ => ⟨.returned v, w, ⟨v, A, hR, rfl, hs⟩, fun _ => ⟨_, Steps.one (stepR_end rfl), rfl, rfl, by simp [Frame.atR, und, hd], rfl, fn, hf, hr⟩, fun h => by cases h⟩
theorem Run.fall0 {f : FuncId} {fn : Func} {R' : Value → Asn → Prop} (hf : P.funcs[f]? = some fn) (hr : fn.results = #[]) (hR : R' (.tuple #[]) A) : Run P ⟨f, none, []⟩ n (Post w0 R') w0 [] E A :=
  ⟨fun _ _ he hs => Runs.fall hf he.defers (results_none hr _ _ _) hR hs⟩
theorem Run.ret1 {f : FuncId} {fn : Func} {R' : Value → Asn → Prop} {t : Tmp} {v : Value} {todo : List Item} (hf : P.funcs[f]? = some fn) (hr : fn.results = #[.tmp t]) (hv : lk E t = some v) (hR : R' v A) :
    Run P ⟨f, none, []⟩ n (Post w0 R') w0 (.code .ret :: todo) E A := by
  refine ⟨fun a w he hs => ?_⟩
  refine Runs.ret hf he.defers (v := v) ?_ hR hs
  rw [results_tmp hr, he.look t v hv]
theorem Run.ret2 {f : FuncId} {fn : Func} {R' : Value → Asn → Prop} {t u : Tmp} {v v' : Value} {todo : List Item} (hf : P.funcs[f]? = some fn) (hr : fn.results = #[.tmp t, .tmp u]) (hv : lk E t = some v) (hu : lk E u = some v') (hR : R' (.tuple #[v, v']) A) :
    Run P ⟨f, none, []⟩ n (Post w0 R') w0 (.code .ret :: todo) E A := by
  refine ⟨fun a w he hs => ?_⟩
  refine Runs.ret hf he.defers (v := .tuple #[v, v']) ?_ hR hs
  rw [results_tmp2 hr, he.look t v hv, he.look u v' hu]
end control
/-! ### Operations -/
section opers
variable {P : Program} {fid : Fid} {n : Nat} {R : Ending → World → Prop} {w0 : World} {ops : Array Oper} {l : List Oper} {k : List Item} {K : Act → World → Prop} {E : Env} {A : Asn}
theorem RunL.nil (h : Run P fid n R w0 k E A) : RunL P n w0 ops [] (Runs P fid R k) E A := ⟨fun a w he hs => h.out a w he hs⟩
theorem RunL.done (h : ∀ a w, Ev n a E → Sat w0 w A → K a w) : RunL P n w0 ops [] K E A := ⟨fun a w he hs => h a w he hs⟩
theorem RunL.env (E' : Env) (s : Sub E' E) (h : RunL P n w0 ops l K E' A) : RunL P n w0 ops l K E A := ⟨fun a w he hs => h.out a w (he.sub s) hs⟩
theorem RunL.mem {A' : Asn} (e : A = A') (h : RunL P n w0 ops l K E A') : RunL P n w0 ops l K E A := e ▸ h
theorem RunL.ent {A' : Asn} (e : Ent A A') (h : RunL P n w0 ops l K E A') : RunL P n w0 ops l K E A := ⟨fun a w he hs => h.out a w he (hs.ent e)⟩
theorem RunL.know {p : Prop} (e : ∀ w, Sat w0 w A → p) (h : p → RunL P n w0 ops l K E A) : RunL P n w0 ops l K E A := ⟨fun a w he hs => (h (e w hs)).out a w he hs⟩
theorem RunL.sat (h : ∀ w, Sat w0 w A → ∃ A', Sat w0 w A' ∧ RunL P n w0 ops l K E A') : RunL P n w0 ops l K E A := ⟨fun a w he hs => let ⟨_, s, r⟩ := h w hs; r.out a w he s⟩
/-- An operation that yields a value. -/
theorem RunL.val {X : Type} {d : Nat} {op : Op} {ty : TypeId} {ps : String} {af : Array Edge} (v : X → Value) (A' : X → Asn) (hd : Nat.blt d n = true)
    (h : ∀ a w, Ev n a E → Sat w0 w A → ∃ x w', (execOp a.eval { dst := some d, op, type := ty, pos := ps, after := af, guard := none }).run P w = .ok (.value (v x)) w' ∧ Sat w0 w' (A' x))
    (r : ∀ x, RunL P n w0 ops l K ((d, v x) :: E) (A' x)) : RunL P n w0 ops ({ dst := some d, op, type := ty, pos := ps, after := af, guard := none } :: l) K E A := by
  refine ⟨fun a w he hs => ?_⟩
  refine wpList_plain rfl fun K' hK => ?_
  obtain ⟨x, w', hrun, hs'⟩ := h a w he hs
  unfold Oper.wp
  rw [hrun]
  exact hK _ _ ((r x).out _ _ (he.put (Nat.le_of_ble_eq_true hd) _) hs')
/-- An operation that yields none. -/
theorem RunL.unit {X : Type} {op : Op} {ty : TypeId} {ps : String} {af : Array Edge} (A' : X → Asn)
    (h : ∀ a w, Ev n a E → Sat w0 w A → ∃ x w', (execOp a.eval { dst := none, op, type := ty, pos := ps, after := af, guard := none }).run P w = .ok .skip w' ∧ Sat w0 w' (A' x))
    (r : ∀ x, RunL P n w0 ops l K E (A' x)) : RunL P n w0 ops ({ dst := none, op, type := ty, pos := ps, after := af, guard := none } :: l) K E A := by
  refine ⟨fun a w he hs => ?_⟩
  refine wpList_plain rfl fun K' hK => ?_
  obtain ⟨x, w', hrun, hs'⟩ := h a w he hs
  unfold Oper.wp
  rw [hrun]
  exact hK _ _ ((r x).out _ _ he hs')
/-- The operation yields v and leaves the assertion as it was. -/
structure OpOk (P : Program) (n : Nat) (w0 : World) (op : Op) (ty : TypeId) (E : Env) (A : Asn) (v : Value) : Prop where
  out : ∀ a w d ps af g, Ev n a E → Sat w0 w A → ∃ w', (execOp a.eval { dst := d, op, type := ty, pos := ps, after := af, guard := g }).run P w = .ok (.value v) w' ∧ Sat w0 w' A
theorem RunL.ok {d : Nat} {op : Op} {ty : TypeId} {ps : String} {af : Array Edge} {v : Value} (h : OpOk P n w0 op ty E A v) (hd : Nat.blt d n = true) (r : RunL P n w0 ops l K ((d, v) :: E) A) :
    RunL P n w0 ops ({ dst := some d, op, type := ty, pos := ps, after := af, guard := none } :: l) K E A :=
  RunL.val (X := Unit) (fun _ => v) (fun _ => A) hd (fun a w he hs => let ⟨w', x, y⟩ := h.out a w (some d) ps af none he hs; ⟨(), w', x, y⟩) fun _ => r
theorem RunL.on {d : Option Nat} {op : Op} {ty : TypeId} {ps : String} {af : Array Edge} {j t : Nat} {want : Bool} (hj : (ops[j]?).bind (·.dst) = some t) (hb : lk E t = some (.bool want))
    (r : RunL P n w0 ops ({ dst := d, op, type := ty, pos := ps, after := af, guard := none } :: l) K E A) : RunL P n w0 ops ({ dst := d, op, type := ty, pos := ps, after := af, guard := some (j, want) } :: l) K E A := by
  refine ⟨fun a w he hs => ?_⟩
  have h := r.out a w he hs
  unfold wpList at h ⊢
  have hl := he.look t _ hb
  have hy : yielded ops a.tmps j = some want := by
    unfold yielded
    rw [hj]
    rw [Array.getD_eq_getD_getElem?] at hl
    cases hq : a.tmps[t]? with
    | none => rw [hq] at hl; simp [undef] at hl
    | some u => rw [hq] at hl; simp at hl; subst hl; simp [hq]
  have hw : Region.wanted { dst := d, op, type := ty, pos := ps, after := af, guard := some (j, want) } (yielded ops a.tmps) = true := by simp [Region.wanted, hy]
  have hw0 : Region.wanted { dst := d, op, type := ty, pos := ps, after := af, guard := none } (yielded ops a.tmps) = true := by simp [Region.wanted]
  rw [if_pos hw0] at h
  rw [if_pos hw]
  exact h
theorem RunL.off {d : Nat} {op : Op} {ty : TypeId} {ps : String} {af : Array Edge} {j t : Nat} {want : Bool} {u : Value} (hj : (ops[j]?).bind (·.dst) = some t) (hb : lk E t = some u) (hu : (match u with | .bool b => b == want | _ => false) = false) (hd : Nat.blt d n = true)
    (r : RunL P n w0 ops l K ((d, undef) :: E) A) : RunL P n w0 ops ({ dst := some d, op, type := ty, pos := ps, after := af, guard := some (j, want) } :: l) K E A := by
  refine ⟨fun a w he hs => ?_⟩
  have hl := he.look t _ hb
  have hy : (yielded ops a.tmps j == some want) = false := by
    unfold yielded
    rw [hj]
    rw [Array.getD_eq_getD_getElem?] at hl
    cases hq : a.tmps[t]? with
    | none => simp [hq]
    | some u' =>
      rw [hq] at hl
      simp at hl
      subst hl
      simp only [Option.bind_some, hq]
      cases u' <;> simp_all
  refine wpList_skip ?_ (r.out _ w (he.put (Nat.le_of_ble_eq_true hd) _) hs)
  simp only [Region.wanted]
  exact hy
end opers
end Go.Proofs.Yteopadjihklkmaa
end

section
namespace Go.Proofs.Yteopadjihklkmaa
open Go
/-- A type's row: its zero value, its cells, its bytes. -/
structure TyI (P : Program) (t : TypeId) (z : Value) (size bytes : Nat) : Prop where
  out : (P.info? t).map (fun i => (i.zero, i.size, i.bytes)) = some (some z, size, bytes)
theorem TyI.get {P : Program} {t : TypeId} {z : Value} {size bytes : Nat} (h : TyI P t z size bytes) : ∃ f, P.info? t = some f ∧ f.zero = some z ∧ f.size = size ∧ f.bytes = bytes := by
  obtain ⟨f, hf, e⟩ := Option.map_eq_some_iff.1 h.out
  simp only [Prod.mk.injEq] at e
  exact ⟨f, hf, e.1, e.2.1, e.2.2⟩
theorem TyI.size {P : Program} {t : TypeId} {z : Value} {size bytes : Nat} (h : TyI P t z size bytes) : (P.info? t).map (·.size) = some size := by
  obtain ⟨f, hf, _, e, _⟩ := h.get
  simp [hf, e]
/-- A struct's field: where it lies, its type. -/
structure FieldAt (P : Program) (s : TypeId) (j o ft : Nat) : Prop where
  out : ∃ fs fd m, P.underlying s = some (.struct fs) ∧ fs[j]? = some fd ∧ fd.offset = o ∧ fd.type = ft ∧ (P.info? ft).map (·.size) = some (m + 1)
theorem wrapI {i : Int} (h1 : -9223372036854775808 ≤ i) (h2 : i ≤ 9223372036854775807) : IntKind.i64.wrap i = i := by rw [IntKind.wrap_i64]; omega
theorem wrapU8 {i : Int} (h1 : 0 ≤ i) (h2 : i ≤ 255) : IntKind.u8.wrap i = i := by simp [IntKind.wrap, IntKind.bits, IntKind.signed]; omega
theorem wrapU16 {i : Int} (h1 : 0 ≤ i) (h2 : i ≤ 65535) : IntKind.u16.wrap i = i := by simp [IntKind.wrap, IntKind.bits, IntKind.signed]; omega
theorem wrapU64 {i : Int} (h1 : 0 ≤ i) (h2 : i ≤ 18446744073709551615) : IntKind.u64.wrap i = i := by simp [IntKind.wrap, IntKind.bits, IntKind.signed]; omega
theorem wrapU8m (i : Int) : IntKind.u8.wrap i = i % 256 := by simp [IntKind.wrap, IntKind.bits, IntKind.signed]
theorem wrapU16m (i : Int) : IntKind.u16.wrap i = i % 65536 := by simp [IntKind.wrap, IntKind.bits, IntKind.signed]
theorem tdivI {i j : Int} (h : 0 ≤ i) : i.tdiv j = i / j := Int.tdiv_eq_ediv_of_nonneg h
theorem tmodI {i j : Int} (h : 0 ≤ i) : i.tmod j = i % j := Int.tmod_eq_emod_of_nonneg h
section
variable {P : Program} {n : Nat} {w0 : World} {E : Env} {A : Asn} {ty : TypeId}
/-- An operation that only reckons. -/
theorem OpOk.pure {op : Op} {v : Value} (h : ∀ (a : Act) (w : World) d ps af g, Ev n a E → (execOp a.eval { dst := d, op, type := ty, pos := ps, after := af, guard := g }).run P w = .ok (.value v) w) : OpOk P n w0 op ty E A v :=
  ⟨fun a w d ps af g he hs => ⟨w, h a w d ps af g he, hs⟩⟩
theorem OpOk.read {op : Op} {v : Value} (h : ∀ (a : Act) (w : World) d ps af g, Ev n a E → Sat w0 w A → (execOp a.eval { dst := d, op, type := ty, pos := ps, after := af, guard := g }).run P w = .ok (.value v) w) : OpOk P n w0 op ty E A v :=
  ⟨fun a w d ps af g he hs => ⟨w, h a w d ps af g he hs, hs⟩⟩
theorem OpOk.move {x : Operand} {v : Value} (hx : ev E x = some v) : OpOk P n w0 (.move x) ty E A v := .pure fun a w _ _ _ _ he => by simp [execOp, he.eval hx]
theorem OpOk.assign {x : Operand} {v : Value} (hx : ev E x = some v) : OpOk P n w0 (.assign x) ty E A v := .pure fun a w _ _ _ _ he => by simp [execOp, he.eval hx]
theorem OpOk.pickT {c x y : Operand} {v : Value} (hc : ev E c = some (.bool true)) (hx : ev E x = some v) : OpOk P n w0 (.pick c x y) ty E A v := .pure fun a w _ _ _ _ he => by simp [execOp, he.eval hc, he.eval hx, asBool]
theorem OpOk.pickF {c x y : Operand} {v : Value} (hc : ev E c = some (.bool false)) (hy : ev E y = some v) : OpOk P n w0 (.pick c x y) ty E A v := .pure fun a w _ _ _ _ he => by simp [execOp, he.eval hc, he.eval hy, asBool]
section ints
variable {t u : TypeId} {x y : Operand} {k k' : IntKind} {i j r : Int}
theorem OpOk.add (hx : ev E x = some (.int k i)) (hy : ev E y = some (.int k j)) (hr : k.wrap (i + j) = r) : OpOk P n w0 (.binOp .add t x y u) ty E A (.int k r) :=
  .pure fun a w _ _ _ _ he => by subst hr; simp [execOp, he.eval hx, he.eval hy, eqGuard, binOp, Op.intArith]
theorem OpOk.sub (hx : ev E x = some (.int k i)) (hy : ev E y = some (.int k j)) (hr : k.wrap (i - j) = r) : OpOk P n w0 (.binOp .sub t x y u) ty E A (.int k r) :=
  .pure fun a w _ _ _ _ he => by subst hr; simp [execOp, he.eval hx, he.eval hy, eqGuard, binOp, Op.intArith]
theorem OpOk.mul (hx : ev E x = some (.int k i)) (hy : ev E y = some (.int k j)) (hr : k.wrap (i * j) = r) : OpOk P n w0 (.binOp .mul t x y u) ty E A (.int k r) :=
  .pure fun a w _ _ _ _ he => by subst hr; simp [execOp, he.eval hx, he.eval hy, eqGuard, binOp, Op.intArith]
theorem OpOk.quo (hx : ev E x = some (.int k i)) (hy : ev E y = some (.int k j)) (hj : j ≠ 0) (hr : k.wrap (i.tdiv j) = r) : OpOk P n w0 (.binOp .quo t x y u) ty E A (.int k r) :=
  .pure fun a w _ _ _ _ he => by subst hr; simp [execOp, he.eval hx, he.eval hy, eqGuard, binOp, Op.intDiv, hj]
theorem OpOk.rem (hx : ev E x = some (.int k i)) (hy : ev E y = some (.int k j)) (hj : j ≠ 0) (hr : i.tmod j = r) : OpOk P n w0 (.binOp .rem t x y u) ty E A (.int k r) :=
  .pure fun a w _ _ _ _ he => by subst hr; simp [execOp, he.eval hx, he.eval hy, eqGuard, binOp, Op.intDiv, hj]
theorem OpOk.and (hx : ev E x = some (.int k i)) (hy : ev E y = some (.int k j)) (hr : k.wrap ((BitVec.ofInt k.bits i &&& BitVec.ofInt k.bits j).toNat : Int) = r) : OpOk P n w0 (.binOp .and t x y u) ty E A (.int k r) :=
  .pure fun a w _ _ _ _ he => by subst hr; simp [execOp, he.eval hx, he.eval hy, eqGuard, binOp, Op.intBits]
theorem OpOk.or (hx : ev E x = some (.int k i)) (hy : ev E y = some (.int k j)) (hr : k.wrap ((BitVec.ofInt k.bits i ||| BitVec.ofInt k.bits j).toNat : Int) = r) : OpOk P n w0 (.binOp .or t x y u) ty E A (.int k r) :=
  .pure fun a w _ _ _ _ he => by subst hr; simp [execOp, he.eval hx, he.eval hy, eqGuard, binOp, Op.intBits]
theorem OpOk.xor (hx : ev E x = some (.int k i)) (hy : ev E y = some (.int k j)) (hr : k.wrap ((BitVec.ofInt k.bits i ^^^ BitVec.ofInt k.bits j).toNat : Int) = r) : OpOk P n w0 (.binOp .xor t x y u) ty E A (.int k r) :=
  .pure fun a w _ _ _ _ he => by subst hr; simp [execOp, he.eval hx, he.eval hy, eqGuard, binOp, Op.intBits]
theorem OpOk.shl (hx : ev E x = some (.int k i)) (hy : ev E y = some (.int k' j)) (hj : 0 ≤ j) (hr : k.wrap (i * 2 ^ min j.toNat k.bits) = r) : OpOk P n w0 (.binOp .shl t x y u) ty E A (.int k r) :=
  .pure fun a w _ _ _ _ he => by subst hr; simp [execOp, he.eval hx, he.eval hy, eqGuard, binOp, Op.shift, show ¬ j < 0 by omega]
theorem OpOk.shr (hx : ev E x = some (.int k i)) (hy : ev E y = some (.int k' j)) (hj : 0 ≤ j) (hr : i / 2 ^ min j.toNat k.bits = r) : OpOk P n w0 (.binOp .shr t x y u) ty E A (.int k r) :=
  .pure fun a w _ _ _ _ he => by
    subst hr
    simp only [execOp, he.eval hx, he.eval hy, eqGuard, binOp, Op.shift, show ¬ j < 0 by omega]
    rw [Int.fdiv_eq_ediv_of_nonneg _ (Int.le_of_lt (Int.pow_pos (by decide)))]
    simp
theorem OpOk.eql (hx : ev E x = some (.int k i)) (hy : ev E y = some (.int k j)) : OpOk P n w0 (.binOp .eql t x y u) ty E A (.bool (decide (i = j))) :=
  .pure fun a w _ _ _ _ he => by
    have e : (i == j) = decide (i = j) := by by_cases h : i = j <;> simp [h]
    simp [execOp, he.eval hx, he.eval hy, eqGuard, binOp, Op.intCmp, e]
theorem OpOk.neq (hx : ev E x = some (.int k i)) (hy : ev E y = some (.int k j)) : OpOk P n w0 (.binOp .neq t x y u) ty E A (.bool (!decide (i = j))) :=
  .pure fun a w _ _ _ _ he => by
    have e : (i != j) = !decide (i = j) := by by_cases h : i = j <;> simp [h]
    simp [execOp, he.eval hx, he.eval hy, eqGuard, binOp, Op.intCmp, e]
theorem OpOk.lss (hx : ev E x = some (.int k i)) (hy : ev E y = some (.int k j)) : OpOk P n w0 (.binOp .lss t x y u) ty E A (.bool (decide (i < j))) :=
  .pure fun a w _ _ _ _ he => by simp [execOp, he.eval hx, he.eval hy, eqGuard, binOp, Op.intCmp]
theorem OpOk.leq (hx : ev E x = some (.int k i)) (hy : ev E y = some (.int k j)) : OpOk P n w0 (.binOp .leq t x y u) ty E A (.bool (decide (i ≤ j))) :=
  .pure fun a w _ _ _ _ he => by simp [execOp, he.eval hx, he.eval hy, eqGuard, binOp, Op.intCmp]
theorem OpOk.gtr (hx : ev E x = some (.int k i)) (hy : ev E y = some (.int k j)) : OpOk P n w0 (.binOp .gtr t x y u) ty E A (.bool (decide (j < i))) :=
  .pure fun a w _ _ _ _ he => by simp [execOp, he.eval hx, he.eval hy, eqGuard, binOp, Op.intCmp]
theorem OpOk.geq (hx : ev E x = some (.int k i)) (hy : ev E y = some (.int k j)) : OpOk P n w0 (.binOp .geq t x y u) ty E A (.bool (decide (j ≤ i))) :=
  .pure fun a w _ _ _ _ he => by simp [execOp, he.eval hx, he.eval hy, eqGuard, binOp, Op.intCmp]
theorem OpOk.neg (hx : ev E x = some (.int k i)) (hr : k.wrap (0 - i) = r) : OpOk P n w0 (.unOp .neg t x) ty E A (.int k r) :=
  .pure fun a w _ _ _ _ he => by subst hr; simp [execOp, he.eval hx, Op.unary, Op.intArith]
theorem OpOk.convInt {s d : TypeId} {ds : TypeDesc} (hs : P.underlying s = some ds) (hd : P.underlying d = some (.int k')) (hx : ev E x = some (.int k i)) (hr : k'.wrap i = r) : OpOk P n w0 (.convert s d x) ty E A (.int k' r) :=
  .pure fun a w _ _ _ _ he => by subst hr; simp [execOp, he.eval hx, convert, underlying, hs, hd, Conv.intToInt]
end ints
theorem OpOk.not {t : TypeId} {x : Operand} {b : Bool} (hx : ev E x = some (.bool b)) : OpOk P n w0 (.unOp .not t x) ty E A (.bool (!b)) :=
  .pure fun a w _ _ _ _ he => by simp [execOp, he.eval hx, Op.unary]
section bools
variable {t u : TypeId} {x y : Operand} {b c : Bool}
theorem run_equal_bool (w : World) (hu : P.underlying t = some .bool) : (Op.equal t (.bool b) (.bool c)).run P w = .ok (b == c) w := by
  show (Op.equalIn (9999 + 1) t (.bool b) (.bool c)).run P w = _
  rw [Op.equalIn]
  simp [underlying, hu]
theorem OpOk.neqB (hu : P.underlying t = some .bool) (hx : ev E x = some (.bool b)) (hy : ev E y = some (.bool c)) : OpOk P n w0 (.binOp .neq t x y u) ty E A (.bool (!(b == c))) :=
  .pure fun a w _ _ _ _ he => by simp [execOp, he.eval hx, he.eval hy, eqGuard, binOp, run_equal_bool w hu]
end bools
section strings
variable {t u : TypeId} {x y : Operand} {s z : ByteArray}
theorem toList_eq_iff (a b : ByteArray) : (a.toList == b.toList) = decide (a = b) := by
  rw [ByteArray.toList_eq, ByteArray.toList_eq]
  by_cases h : a = b
  · simp [h]
  · have : a.data.toList ≠ b.data.toList := fun e => h (by
      cases a; cases b
      simpa using Array.toList_inj.1 e)
    have h2 : ¬ a.data = b.data := fun e => this (by rw [e])
    simp [h, h2]
theorem OpOk.eqlS (hx : ev E x = some (.string s)) (hy : ev E y = some (.string z)) : OpOk P n w0 (.binOp .eql t x y u) ty E A (.bool (decide (s = z))) :=
  .pure fun a w _ _ _ _ he => by simp [execOp, he.eval hx, he.eval hy, eqGuard, binOp, Op.stringOp, toList_eq_iff]
theorem OpOk.neqS (hx : ev E x = some (.string s)) (hy : ev E y = some (.string z)) : OpOk P n w0 (.binOp .neq t x y u) ty E A (.bool (!decide (s = z))) :=
  .pure fun a w _ _ _ _ he => by simp [execOp, he.eval hx, he.eval hy, eqGuard, binOp, Op.stringOp, toList_eq_iff]
theorem OpOk.lenV {e : TypeId} {c : Array TypeId} {ad : Option Addr} {m cap : Nat} (hu : P.underlying t = some (.slice e)) (hx : ev E x = some (.slice ad m cap)) (hc : c = #[t]) : OpOk P n w0 (.call { callee := .builtin .len, args := #[x], argTypes := c }) ty E A (.int .i64 m) :=
  .pure fun a w _ _ _ _ he => by subst hc; simp [execOp, he.eval hx, resolve, invoke, builtin, Builtin.len_, underlying, hu, goInt]
theorem OpOk.capV {e : TypeId} {c : Array TypeId} {ad : Option Addr} {m cap : Nat} (hu : P.underlying t = some (.slice e)) (hx : ev E x = some (.slice ad m cap)) (hc : c = #[t]) : OpOk P n w0 (.call { callee := .builtin .cap, args := #[x], argTypes := c }) ty E A (.int .i64 cap) :=
  .pure fun a w _ _ _ _ he => by subst hc; simp [execOp, he.eval hx, resolve, invoke, builtin, Builtin.cap_, underlying, hu, goInt]
end strings
end
end Go.Proofs.Yteopadjihklkmaa
end

section
namespace Go.Proofs.Yteopadjihklkmaa
open Go
/-- Where a slice begins. -/
def adr : Value → Addr
  | .slice (some a) _ _ => a
  | .pointer (some a) => a
  | _ => ⟨0, 0, none⟩
/-- Bytes as cells. -/
def B (xs : List UInt8) : List Value := xs.map fun c => .int .u8 (c.toNat : Int)
theorem B_length (xs : List UInt8) : (B xs).length = xs.length := by simp [B]
theorem B_append (xs ys : List UInt8) : B (xs ++ ys) = B xs ++ B ys := by simp [B]
theorem B_get {xs : List UInt8} {j : Nat} (h : j < xs.length) : (B xs)[j]? = some (.int .u8 ((xs.getD j 0).toNat : Int)) := by
  simp [B, List.getElem?_eq_getElem h, List.getD_eq_getElem?_getD]
theorem B_one (xs : List UInt8) : ∀ u ∈ B xs, u.oneCell' = true := by
  intro u hu
  simp only [B, List.mem_map] at hu
  obtain ⟨_, _, rfl⟩ := hu
  rfl
def S (xs : List UInt8) : Value := .string ⟨xs.toArray⟩
/-- Whole numbers as cells. -/
def I (xs : List Int) : List Value := xs.map fun c => .int .i64 c
theorem I_length (xs : List Int) : (I xs).length = xs.length := by simp [I]
theorem I_append (xs ys : List Int) : I (xs ++ ys) = I xs ++ I ys := by simp [I]
theorem I_get {xs : List Int} {j : Nat} (h : j < xs.length) : (I xs)[j]? = some (.int .i64 (xs.getD j 0)) := by
  simp [I, List.getElem?_eq_getElem h, List.getD_eq_getElem?_getD]
theorem I_one (xs : List Int) : ∀ u ∈ I xs, u.oneCell' = true := by
  intro u hu
  simp only [I, List.mem_map] at hu
  obtain ⟨_, _, rfl⟩ := hu
  rfl
theorem Rd.cell {w0 : World} {A : Asn} {v : Value} {size n : Nat} {xs : List Value} (h : Rd w0 A v size n xs) {j : Nat} {u : Value} (hj : xs[j]? = some u) : Cell w0 A ((adr v).add j) u := by
  obtain ⟨hl, _, ad, cap, rfl, _, hc⟩ := h
  have h0 : 0 < n := by
    rcases Nat.eq_zero_or_pos n with e | e
    · subst e
      have := (List.getElem?_eq_some_iff.1 hj).1
      omega
    · exact e
  obtain ⟨a, rfl, hc'⟩ := hc h0
  exact hc' j u hj
theorem Rd.form {w0 : World} {A : Asn} {v : Value} {size n : Nat} {xs : List Value} (h : Rd w0 A v size n xs) : ∃ ad cap, v = .slice ad n cap ∧ n ≤ cap ∧ (0 < n → ad = some (adr v)) := by
  obtain ⟨hl, _, ad, cap, rfl, hcap, hc⟩ := h
  refine ⟨ad, cap, rfl, hcap, fun h0 => ?_⟩
  obtain ⟨a, rfl, _⟩ := hc h0
  rfl
theorem Rd.max {w0 : World} {A : Asn} {v : Value} {size n : Nat} {xs : List Value} (h : Rd w0 A v size n xs) : n ≤ 9223372036854775807 := by
  have := h.max0
  simpa [maxLen] using this
theorem Rd.nil {w0 : World} {A : Asn} (size : Nat) : Rd w0 A (.slice none 0 0) size 0 [] := ⟨by simp, by simp [maxLen], none, 0, rfl, Nat.le_refl _, fun h => absurd h (Nat.lt_irrefl _)⟩
/-- Slices of bytes in a row: each can be read. -/
structure RdL (w0 : World) (A : Asn) (vs : List Value) (bss : List (List UInt8)) : Prop where
  len : vs.length = bss.length
  at_ : ∀ i, i < bss.length → Rd w0 A (vs.getD i (.bool false)) 1 (bss.getD i []).length (B (bss.getD i []))
theorem RdL.left {w0 : World} {A C : Asn} {vs : List Value} {bss : List (List UInt8)} (h : RdL w0 A vs bss) : RdL w0 (A * C) vs bss := ⟨h.len, fun i hi => (h.at_ i hi).left⟩
theorem RdL.conv {w0 : World} {A C : Asn} {vs : List Value} {bss : List (List UInt8)} (h : RdL w0 A vs bss) (e : A = C) : RdL w0 C vs bss := e ▸ h
theorem RdL.nil {w0 : World} {A : Asn} : RdL w0 A [] [] := ⟨rfl, fun i hi => by simp at hi⟩
theorem RdL.cons {w0 : World} {A : Asn} {v : Value} {vs : List Value} {bs : List UInt8} {bss : List (List UInt8)} (h : Rd w0 A v 1 bs.length (B bs)) (k : RdL w0 A vs bss) : RdL w0 A (v :: vs) (bs :: bss) :=
  ⟨by simp [k.len], fun i hi => by cases i with | zero => exact h | succ i => exact k.at_ i (by simpa using hi)⟩
theorem getD_at {α : Type} {xs : List α} {i : Nat} {d : α} (h : i < xs.length) : xs[i]? = some (xs.getD i d) := by
  rw [List.getD_eq_getElem?_getD, List.getElem?_eq_getElem h]
  rfl
section
variable {P : Program} {n : Nat} {w0 : World} {ops : Array Oper} {l : List Oper} {K : Act → World → Prop} {E : Env} {A : Asn} {ty : TypeId}
/-! ### Reading -/
theorem run_equal_sliceNil {t e : TypeId} (w : World) (hu : P.underlying t = some (.slice e)) (ad : Option Addr) (m c : Nat) : (Op.equal t (.slice ad m c) (.slice none 0 0)).run P w = .ok ad.isNone w := by
  show (Op.equalIn (9999 + 1) t (.slice ad m c) (.slice none 0 0)).run P w = _
  rw [Op.equalIn]
  cases ad <;> simp [underlying, hu]
theorem OpOk.eqlNil {t e u : TypeId} {x : Operand} {ad : Option Addr} {m c : Nat} (hu : P.underlying t = some (.slice e)) (hx : ev E x = some (.slice ad m c)) : OpOk P n w0 (.binOp .eql t x (.const (.slice none 0 0)) u) ty E A (.bool ad.isNone) :=
  .pure fun a w _ _ _ _ he => by
    have e : a.eval (.const (.slice none 0 0)) = .slice none 0 0 := rfl
    simp [execOp, he.eval hx, e, eqGuard, binOp, run_equal_sliceNil w hu]
theorem OpOk.lenR {t e : TypeId} {c : Array TypeId} {x : Operand} {v : Value} {size m : Nat} {xs : List Value} (hu : P.underlying t = some (.slice e)) (hx : ev E x = some v) (rd : Rd w0 A v size m xs) (hc : c = #[t]) :
    OpOk P n w0 (.call { callee := .builtin .len, args := #[x], argTypes := c }) ty E A (.int .i64 m) := by
  obtain ⟨ad, cap, rfl, _⟩ := rd.form
  exact OpOk.lenV hu hx hc
theorem OpOk.idx {t e : TypeId} {x y : Operand} {v : Value} {size m : Nat} {xs : List Value} {q : IntKind} {i : Int} (hu : P.underlying t = some (.slice e)) {zz : Value} {bb : Nat} (hz : TyI P e zz size bb) (hx : ev E x = some v) (rd : Rd w0 A v size m xs)
    (hy : ev E y = some (.int q i)) (h0 : 0 ≤ i) (h1 : i < m) : OpOk P n w0 (.indexAddr t x y) ty E A (.pointer (some ((adr v).add (i.toNat * size)))) := by
  obtain ⟨ad, cap, hv, _, ha⟩ := rd.form
  have ha := ha (by omega)
  obtain ⟨f, hf, hs⟩ := Option.map_eq_some_iff.1 hz.size
  refine .pure fun a w _ _ _ _ he => ?_
  have hx' := he.eval hx
  rw [hv] at hx'
  rw [ha] at hx'
  have h0' : ¬ i < 0 := by omega
  simp [execOp, hx', he.eval hy, Instr.indexAt, asIntOf, underlying, hu, h0, h1, sizeOf, typeInfo, hf, hs]
theorem OpOk.idx1 {t e : TypeId} {x y : Operand} {v : Value} {m : Nat} {xs : List Value} {q : IntKind} {i : Int} (hu : P.underlying t = some (.slice e)) {zz : Value} {bb : Nat} (hz : TyI P e zz 1 bb) (hx : ev E x = some v) (rd : Rd w0 A v 1 m xs)
    (hy : ev E y = some (.int q i)) (h0 : 0 ≤ i) (h1 : i < m) : OpOk P n w0 (.indexAddr t x y) ty E A (.pointer (some ((adr v).add i.toNat))) := by
  have := OpOk.idx (ty := ty) (n := n) hu hz hx rd hy h0 h1
  rwa [Nat.mul_one] at this
def aggD : TypeDesc → Bool
  | .struct _ => true
  | .array _ _ => true
  | _ => false
theorem run_isAgg {t : TypeId} {d : TypeDesc} (w : World) (hu : P.underlying t = some d) : (isAgg t).run P w = .ok (aggD d) w := by
  simp only [isAgg, Sem.run_bind, underlying, hu, run_program, Sem.run_pure, Result.andThen_ok]
  cases d <;> rfl
theorem run_load_cell {w : World} {a : Addr} {v : Value} (h : w.cell? a = some v) : (load a).run P w = .ok v w := by simp [h]
theorem OpOk.load {t : TypeId} {d : TypeDesc} {x : Operand} {a : Addr} {u : Value} (hu : P.underlying t = some d) (hd : aggD d = false) (hx : ev E x = some (.pointer (some a))) (hc : Cell w0 A a u) : OpOk P n w0 (.load t x) ty E A u :=
  .read fun b w _ _ _ _ he hs => by
    simp only [execOp, he.eval hx, Instr.loadAt, Instr.sureAddr, loadVar, Sem.run_bind, Sem.run_pure, Result.andThen_ok, run_isAgg w hu, hd, Bool.false_eq_true, if_false, run_load_cell (hc.out w hs)]
theorem OpOk.loadG {t : TypeId} {d : TypeDesc} {x : Operand} {a : Addr} {cs : List Value} {m : Nat} (hu : P.underlying t = some d) (hd : aggD d = true) {zz : Value} {bb : Nat} (hz : TyI P t zz m bb) (hx : ev E x = some (.pointer (some a)))
    (hl : cs.length = m) (hc : ∀ j u, cs[j]? = some u → Cell w0 A (a.add j) u) : OpOk P n w0 (.load t x) ty E A (.agg cs.toArray) :=
  .read fun b w _ _ _ _ he hs => by
    obtain ⟨f, hf, hsz⟩ := Option.map_eq_some_iff.1 hz.size
    have h := run_loadCells_list (P := P) w a cs (fun j v hj => (hc j v hj).out w hs)
    simp only [execOp, he.eval hx, Instr.loadAt, Instr.sureAddr, loadVar, Sem.run_bind, Sem.run_pure, Result.andThen_ok, run_isAgg w hu, hd, if_true, sizeOf, typeInfo, hf, run_program, hsz, ← hl, h]
theorem OpOk.fieldAddr {s : TypeId} {x : Operand} {j b off o ft : Nat} (hf : FieldAt P s j o ft) (hx : ev E x = some (.pointer (some ⟨b, off, none⟩))) :
    OpOk P n w0 (.fieldAddr s x j) ty E A (.pointer (some ⟨b, off + o, none⟩)) :=
  .pure fun a w _ _ _ _ he => by
    obtain ⟨fs, fd, m, hu, hj, rfl, rfl, hz⟩ := hf.out
    obtain ⟨f, hg, hsz⟩ := Option.map_eq_some_iff.1 hz
    have e : (⟨b, off, none⟩ : Addr).add fd.offset = ⟨b, off + fd.offset, none⟩ := by unfold Addr.add; split <;> simp_all
    simp [execOp, he.eval hx, Instr.fieldAt, underlying, hu, hj, Instr.sureAddr, fieldPlace, sizeOf, typeInfo, hg, hsz, e]
theorem OpOk.fieldAddrA {s : TypeId} {x : Operand} {j o ft : Nat} {ad : Addr} {i : Nat} (hf : FieldAt P s j o ft) (hx : ev E x = some (.pointer (some (ad.add i)))) :
    OpOk P n w0 (.fieldAddr s x j) ty E A (.pointer (some (ad.add (i + o)))) :=
  .pure fun a w _ _ _ _ he => by
    obtain ⟨fs, fd, m, hu, hj, rfl, rfl, hz⟩ := hf.out
    obtain ⟨f, hg, hsz⟩ := Option.map_eq_some_iff.1 hz
    have e : (ad.add i).add fd.offset = ad.add (i + fd.offset) := by
      unfold Addr.add
      by_cases e1 : i = 0
      · simp [e1]
      · by_cases e2 : fd.offset = 0
        · simp [e1, e2]
        · simp [e1, e2, Nat.add_assoc]
    simp [execOp, he.eval hx, Instr.fieldAt, underlying, hu, hj, Instr.sureAddr, fieldPlace, sizeOf, typeInfo, hg, hsz, e]
theorem OpOk.nilOk {x : Operand} {a : Addr} (hx : ev E x = some (.pointer (some a))) : OpOk P n w0 (.nilCheck x) ty E A (.pointer (some a)) := .pure fun b w _ _ _ _ he => by simp [execOp, he.eval hx]
theorem OpOk.ext20 {x : Operand} {a1 a2 : Value} (hx : ev E x = some (.tuple #[a1, a2])) : OpOk P n w0 (.extract x 0) ty E A a1 :=
  .pure fun b w _ _ _ _ he => by simp [execOp, he.eval hx, Instr.extract]
theorem OpOk.ext21 {x : Operand} {a1 a2 : Value} (hx : ev E x = some (.tuple #[a1, a2])) : OpOk P n w0 (.extract x 1) ty E A a2 :=
  .pure fun b w _ _ _ _ he => by simp [execOp, he.eval hx, Instr.extract]
theorem OpOk.extract {x : Operand} {j : Nat} {vs : Array Value} {v : Value} (hx : ev E x = some (.tuple vs)) (hv : vs[j]? = some v) : OpOk P n w0 (.extract x j) ty E A v :=
  .pure fun b w _ _ _ _ he => by simp [execOp, he.eval hx, Instr.extract, hv]
/-- A piece of what can be read. -/
theorem Rd.cut {v : Value} {size m : Nat} {xs : List Value} (rd : Rd w0 A v size m xs) {i j cap : Nat} {ad : Option Addr} (hv : v = .slice ad m cap) (h1 : i ≤ j) (h2 : j ≤ m) :
    Rd w0 A (.slice (if cap = i then ad else ad.map (·.add (i * size))) (j - i) (cap - i)) size (j - i) ((xs.drop (i * size)).take ((j - i) * size)) := by
  obtain ⟨hl, hm, ad', cap', hv', hcap, hc⟩ := rd
  rw [hv] at hv'
  simp only [Value.slice.injEq, true_and] at hv'
  obtain ⟨rfl, rfl⟩ := hv'
  refine ⟨?_, by simp only [maxLen] at *; omega, _, _, rfl, by omega, fun h0 => ?_⟩
  · rw [List.length_take, List.length_drop, hl]
    have e1 : (j - i) * size = j * size - i * size := Nat.sub_mul ..
    have e2 : j * size ≤ m * size := Nat.mul_le_mul_right _ h2
    omega
  · obtain ⟨a, rfl, hc'⟩ := hc (by omega)
    rw [if_neg (by omega)]
    refine ⟨_, rfl, fun q u hq => ?_⟩
    have hq2 : xs[i * size + q]? = some u := by
      rw [List.getElem?_take] at hq
      split at hq
      · rwa [List.getElem?_drop] at hq
      · cases hq
    have := hc' _ _ hq2
    have e : (a.add (i * size)).add q = a.add (i * size + q) := by
      unfold Addr.add
      by_cases e1 : i * size = 0
      · simp [e1]
      · by_cases e2 : q = 0
        · simp [e1, e2]
        · simp [e1, e2, Nat.add_assoc]
    rw [e]
    exact this
/-- The piece from i to j. -/
def cutV (v : Value) (i j size : Nat) : Value :=
  match v with
  | .slice ad _ cap => .slice (if cap = i then ad else ad.map (·.add (i * size))) (j - i) (cap - i)
  | v => v
theorem Rd.cutV {v : Value} {size m : Nat} {xs : List Value} (rd : Rd w0 A v size m xs) {i j : Nat} (h1 : i ≤ j) (h2 : j ≤ m) :
    Rd w0 A (cutV v i j size) size (j - i) ((xs.drop (i * size)).take ((j - i) * size)) := by
  obtain ⟨ad, cap, rfl, hcap, _⟩ := rd.form
  exact rd.cut rfl h1 h2
theorem Rd.cutB {v : Value} {m : Nat} {bs : List UInt8} (rd : Rd w0 A v 1 m (B bs)) {i j : Nat} (h1 : i ≤ j) (h2 : j ≤ m) :
    Rd w0 A (Go.Proofs.Yteopadjihklkmaa.cutV v i j 1) 1 (j - i) (B ((bs.drop i).take (j - i))) := by
  have := rd.cutV h1 h2
  simp only [Nat.mul_one] at this
  rw [show B ((bs.drop i).take (j - i)) = ((B bs).drop i).take (j - i) by simp [B]]
  exact this
theorem Rd.cutB0 {v : Value} {m : Nat} {bs : List UInt8} (rd : Rd w0 A v 1 m (B bs)) {j : Nat} (h2 : j ≤ m) :
    Rd w0 A (Go.Proofs.Yteopadjihklkmaa.cutV v 0 j 1) 1 j (B (bs.take j)) := rd.cutB (Nat.zero_le _) h2
theorem OpOk.cut {t e : TypeId} {x : Operand} {lo hi : Option Operand} {v : Value} {size m i j : Nat} {xs : List Value} (hu : P.underlying t = some (.slice e)) {zz : Value} {bb : Nat} (hz : TyI P e zz size bb)
    (hx : ev E x = some v) (rd : Rd w0 A v size m xs) (hlo : match lo with | none => i = 0 | some o => ∃ q, ev E o = some (.int q i)) (hhi : match hi with | none => j = m | some o => ∃ q, ev E o = some (.int q j)) (h1 : i ≤ j) (h2 : j ≤ m) :
    OpOk P n w0 (.slice t x lo hi none) ty E A (cutV v i j size) := by
  obtain ⟨ad, cap, hv, hcap, _⟩ := rd.form
  obtain ⟨f, hf, hs⟩ := Option.map_eq_some_iff.1 hz.size
  subst hv
  refine .pure fun a w _ _ _ _ he => ?_
  have h3 : j ≤ cap := by omega
  cases lo with
  | none =>
    obtain rfl : i = 0 := hlo
    cases hi with
    | none =>
      obtain rfl : j = m := hhi
      simp [execOp, he.eval hx, Instr.sliceAt, Instr.slice, Instr.sliceBounds, underlying, hu, sizeOf, typeInfo, hf, Go.Proofs.Yteopadjihklkmaa.cutV]
    | some o =>
      obtain ⟨q, ho⟩ := hhi
      simp [execOp, he.eval hx, he.eval ho, Instr.sliceAt, Instr.slice, Instr.sliceBounds, Instr.sliceBound, asIntOf, underlying, hu, h3, sizeOf, typeInfo, hf, Go.Proofs.Yteopadjihklkmaa.cutV]
  | some p =>
    obtain ⟨q', hp⟩ := hlo
    cases hi with
    | none =>
      obtain rfl : j = m := hhi
      simp [execOp, he.eval hx, he.eval hp, Instr.sliceAt, Instr.slice, Instr.sliceBounds, Instr.sliceBound, asIntOf, underlying, hu, h1, sizeOf, typeInfo, hf, hs, Go.Proofs.Yteopadjihklkmaa.cutV]
    | some o =>
      obtain ⟨q, ho⟩ := hhi
      simp [execOp, he.eval hx, he.eval ho, he.eval hp, Instr.sliceAt, Instr.slice, Instr.sliceBounds, Instr.sliceBound, asIntOf, underlying, hu, h3, h1, sizeOf, typeInfo, hf, hs, Go.Proofs.Yteopadjihklkmaa.cutV]
theorem RunL.cut {d : Nat} {t e : TypeId} {ps : String} {af : Array Edge} {x : Operand} {lo hi : Option Operand} {v : Value} {size m i j : Nat} {xs : List Value} (hu : P.underlying t = some (.slice e)) {zz : Value} {bb : Nat} (hz : TyI P e zz size bb) (hd : Nat.blt d n = true)
    (hx : ev E x = some v) (rd : Rd w0 A v size m xs) (hlo : match lo with | none => i = 0 | some o => ∃ q, ev E o = some (.int q i)) (hhi : match hi with | none => j = m | some o => ∃ q, ev E o = some (.int q j)) (h1 : i ≤ j) (h2 : j ≤ m)
    (r : ∀ v', Rd w0 A v' size (j - i) ((xs.drop (i * size)).take ((j - i) * size)) → RunL P n w0 ops l K ((d, v') :: E) A) :
    RunL P n w0 ops ({ dst := some d, op := .slice t x lo hi none, type := ty, pos := ps, after := af, guard := none } :: l) K E A :=
  RunL.ok (OpOk.cut hu hz hx rd hlo hhi h1 h2) hd (r _ (rd.cutV h1 h2))
/-- string(b) -/
theorem OpOk.strOf {t s e : TypeId} {x : Operand} {v : Value} {m : Nat} {bs : List UInt8} (hu : P.underlying t = some (.slice e)) (he8 : P.underlying e = some (.int .u8)) (hs : P.underlying s = some .string) (hx : ev E x = some v) (rd : Rd w0 A v 1 m (B bs)) :
    OpOk P n w0 (.convert t s x) ty E A (S bs) :=
  .read fun a w _ _ _ _ he hsat => by
    obtain ⟨ad, cap, hv, hcap, ha⟩ := rd.form
    have hm : bs.length = m := by have := rd.len; rw [B_length] at this; omega
    rcases Nat.eq_zero_or_pos m with h0 | h0
    · have hb : bs = [] := List.eq_nil_of_length_eq_zero (by omega)
      subst hb h0
      cases ad with
      | none =>
        have := run_convert_bytes_nil (P := P) w t e hu he8 0 cap s hs
        simp only [execOp, he.eval hx, hv, Sem.run_bind, this]
        rfl
      | some a' =>
        rw [hv] at hx
        have h1 := run_convert_bytes_string (P := P) w t s e (some a') 0 cap hu he8 hs
        have h2 := run_bytesToString (P := P) w a' 0 cap [] (by simp [loadCells, loadCellsFrom])
        simp only [execOp, he.eval hx, Sem.run_bind, h1, h2]
        rfl
    · have ha := ha h0
      rw [hv, ha] at hx
      have hl : (loadCells (adr v) m).run P w = .ok ((bs.map fun c => (c.toNat : Int)).map (Value.int .u8)).toArray w := by
        have := run_loadCells_list (P := P) w (adr v) (B bs) (fun j u hj => (rd.cell hj).out w hsat)
        rw [B_length, hm] at this
        rw [this]
        simp [B, Function.comp_def]
      have h1 := run_convert_bytes_string (P := P) w t s e (some (adr v)) m cap hu he8 hs
      have h2 := run_bytesToString (P := P) w (adr v) m cap _ hl
      simp only [execOp, he.eval hx, Sem.run_bind, h1, h2, foldl_push_bytes]
      simp only [Result.andThen_ok, Sem.run_pure, S, ByteArray.empty, ByteArray.emptyWithCapacity]
      simp [Function.comp_def]
      rfl
end
end Go.Proofs.Yteopadjihklkmaa
end
