/- The document's Missing; lists of journeys compared. -/
import Derived.Test.YteopadjihklkmaaAuZb
import Derived.Test.YteopadjihklkmaaMk
namespace Go.Proofs.Yteopadjihklkmaa
open Go Go.Proofs
set_option maxRecDepth 100000
set_option maxHeartbeats 4000000
set_option linter.unusedSimpArgs false
/-! Structs of ten numbers compared. -/
def jl (j : Jn) : List Int := [j.1, j.2.1, j.2.2.1, j.2.2.2.1, j.2.2.2.2.1, j.2.2.2.2.2.1, j.2.2.2.2.2.2.1, j.2.2.2.2.2.2.2.1, j.2.2.2.2.2.2.2.2.1, j.2.2.2.2.2.2.2.2.2]
theorem jl_inj {p q : Jn} : jl p = jl q ↔ p = q := by
  obtain ⟨a, b, c, d, e, f, g, h, i, j⟩ := p
  obtain ⟨a', b', c', d', e', f', g', h', i', j'⟩ := q
  simp [jl]
instance (p q : Jn) : Decidable (p = q) := decidable_of_iff _ jl_inj
def okFs (P : Program) : Nat → List Field → Prop
  | _, [] => True
  | i, f :: r => ((f.name == "_") = false ∧ f.offset = i ∧ P.underlying f.type = some (.int .i64)) ∧ okFs P (i + 1) r
structure Ints (P : Program) (t : TypeId) (n : Nat) : Prop where
  out : ∃ fs : List Field, P.underlying t = some (.struct fs.toArray) ∧ fs.length = n ∧ P.stoodInHeld t = false ∧ P.eqGuardType P.depth t = false ∧ okFs P 0 fs
theorem run_eqInts {P : Program} {w : World} {d : Nat} : ∀ (fs : List Field) (i : Nat) (xs ys : List Int), okFs P i fs → xs.length = i + fs.length → ys.length = i + fs.length →
    (Op.eqFields (d + 1) (xs.map (Value.int .i64)).toArray (ys.map (Value.int .i64)).toArray fs).run P w = .ok (decide (xs.drop i = ys.drop i)) w
  | [], i, xs, ys, _, h1, h2 => by
    rw [List.drop_eq_nil_of_le (by simp at h1; omega), List.drop_eq_nil_of_le (by simp at h2; omega)]
    simp [Op.eqFields]
  | f :: r, i, xs, ys, h, h1, h2 => by
    obtain ⟨⟨hn, ho, hu⟩, hr⟩ := h
    simp only [List.length_cons] at h1 h2
    have hx : i < xs.length := by omega
    have hy : i < ys.length := by omega
    rw [step_int (a := xs[i]) (b := ys[i]) hn hu (by rw [ho]; simp [hx]) (by rw [ho]; simp [hy]), run_eqInts r (i + 1) xs ys hr (by omega) (by omega)]
    rw [List.drop_eq_getElem_cons hx, List.drop_eq_getElem_cons hy]
    by_cases e : xs[i] = ys[i]
    · rw [if_pos e, e]
      congr 1
      exact decide_eq_decide.2 ⟨fun h => by rw [h], fun h => (List.cons.inj h).2⟩
    · rw [if_neg e]
      congr 1
      exact (decide_eq_false (fun h => e (List.cons.inj h).1)).symm
section
variable {P : Program} {n : Nat} {w0 w : World} {E : Env} {A : Asn} {ty t : TypeId}
theorem run_equal_ints {d m : Nat} {xs ys : List Int} (h : Ints P t m) (h1 : xs.length = m) (h2 : ys.length = m) : (Op.equalIn (d + 2) t (.agg (xs.map (Value.int .i64)).toArray) (.agg (ys.map (Value.int .i64)).toArray)).run P w = .ok (decide (xs = ys)) w := by
  obtain ⟨fs, hu, hl, hp, _, hf⟩ := h.out
  have he : P.fieldsOf t = fs.toArray := by simp [Program.fieldsOf, hu]
  rw [run_equalIn_struct (P := P) w (d + 1) t _ _ (by rw [he]; exact hu) hp, he]
  have := run_eqInts (P := P) (w := w) (d := d) fs 0 xs ys hf (by omega) (by omega)
  simpa using this
theorem OpOk.eqlJn {u : TypeId} {x y : Operand} {p q : Jn} (h : Ints P t 10) (hx : ev E x = some (.agg (encT47 p).toArray)) (hy : ev E y = some (.agg (encT47 q).toArray)) : OpOk P n w0 (.binOp .eql t x y u) ty E A (.bool (decide (p = q))) :=
  .pure fun w' w _ _ _ _ he => by
    obtain ⟨fs, hu, hl, hp, hg, _⟩ := h.out
    have e1 : (Op.equalIn (9998 + 2) t (.agg (encT47 p).toArray) (.agg (encT47 q).toArray)).run P w = .ok (decide (jl p = jl q)) w := run_equal_ints (w := w) (d := 9998) (xs := jl p) (ys := jl q) h rfl rfl
    have e2 := run_eqGuard_agg (P := P) (w := w) .eql t x y (encT47 p).toArray (encT47 q).toArray hg
    have e3 := run_eql_struct (P := P) (w := w) t (encT47 p).toArray (encT47 q).toArray
    rw [e1] at e3
    have e4 : decide (jl p = jl q) = decide (p = q) := decide_eq_decide.2 jl_inj
    rw [e4] at e3
    simp only [execOp, he.eval hx, he.eval hy, Sem.run_bind, e2, e3, Result.andThen_ok]
    rfl
theorem OpOk.neqJn {u : TypeId} {x y : Operand} {p q : Jn} (h : Ints P t 10) (hx : ev E x = some (.agg (encT47 p).toArray)) (hy : ev E y = some (.agg (encT47 q).toArray)) : OpOk P n w0 (.binOp .neq t x y u) ty E A (.bool (!decide (p = q))) :=
  .pure fun w' w _ _ _ _ he => by
    obtain ⟨fs, hu, hl, hp, hg, _⟩ := h.out
    have e1 : (Op.equalIn (9998 + 2) t (.agg (encT47 p).toArray) (.agg (encT47 q).toArray)).run P w = .ok (decide (jl p = jl q)) w := run_equal_ints (w := w) (d := 9998) (xs := jl p) (ys := jl q) h rfl rfl
    have e2 := run_eqGuard_agg (P := P) (w := w) .neq t x y (encT47 p).toArray (encT47 q).toArray hg
    have e3 := run_neq_struct (P := P) (w := w) t (encT47 p).toArray (encT47 q).toArray
    rw [e1] at e3
    have e4 : decide (jl p = jl q) = decide (p = q) := decide_eq_decide.2 jl_inj
    rw [e4] at e3
    simp only [execOp, he.eval hx, he.eval hy, Sem.run_bind, e2, e3, Result.andThen_ok]
    rfl
end
theorem jnT47 : Ints Try.prog 47 10 := ⟨_, Try.underlying47, by rfl, by kernel_rfl, by kernel_rfl, by repeat (first | exact trivial | refine ⟨⟨by rfl, by rfl, by rfl⟩, ?_⟩)⟩
section
variable {w0 : World} {A : Asn}
theorem s21 {u1 u2 : Value} {a b : List Jn} {m k : Nat} (rd : Rd w0 A u1 10 m (Fl encT47 a)) (rd2 : Rd w0 A u2 10 k (Fl encT47 b)) :
    Spec Try.prog w0 21 [u1, u2] A (fun v' A' => v' = .bool (decide (a = b)) ∧ A' = A) := by
  have hl0 := rd.lenFl (fun _ => rfl) (by decide)
  have hl1 := rd2.lenFl (fun _ => rfl) (by decide)
  subst hl0 hl1
  have hm1 := rd.max
  refine Spec.of_run [(0, u1), (1, u2)] Try.func21 rfl (Nat.le_of_ble_eq_true rfl) (by repeat (first | exact trivial | refine ⟨rfl, ?_⟩)) ?_
  refine Run.seq ?_
  refine Run.region ?_
  refine RunL.ok (OpOk.assign rfl) rfl ?_
  refine RunL.nil ?_
  refine Run.seq ?_
  refine Run.seq ?_
  refine Run.region ?_
  refine RunL.ok (OpOk.move rfl) rfl ?_
  refine RunL.ok (OpOk.lenR rfl rfl rd rfl) rfl ?_
  refine RunL.ok (OpOk.move rfl) rfl ?_
  refine RunL.ok (OpOk.lenR rfl rfl rd2 rfl) rfl ?_
  refine RunL.ok (OpOk.neq rfl rfl) rfl ?_
  refine RunL.nil ?_
  refine Run.condN rfl (fun x1 => ?_) (fun x1 => ?_)
  · refine Run.seq ?_
    refine Run.region ?_
    refine RunL.ok (OpOk.assign rfl) rfl ?_
    refine RunL.nil ?_
    refine Run.ret1 Try.func21 rfl rfl ?_
    have hne : a ≠ b := fun e => x1 (by rw [e])
    exact ⟨by rw [decide_eq_false hne], rfl⟩
  refine Run.skip ?_
  refine Run.seq ?_
  refine Run.seq ?_
  refine Run.region ?_
  refine RunL.ok (OpOk.assign rfl) rfl ?_
  refine RunL.nil ?_
  refine Run.block ?_
  refine Run.jump ((Run.loopJ (X := Nat) (fun i => [(0, u1), (1, u2), (5, .int .i64 (i : Int))]) (fun _ => A) (fun i => i ≤ a.length ∧ a.take i = b.take i) (fun i => a.length - i) 0 ⟨Nat.zero_le _, by simp⟩ (fun i hi ih => ?_))) ⟨rfl, rfl, rfl, trivial⟩ ((Grew.refl _))
  obtain ⟨hi1, hi2⟩ := hi
  have hlen : a.length = b.length := by omega
  rcases Nat.lt_or_ge i a.length with hlt | hge
  · rcases Decidable.em (a.getD i default = b.getD i default) with hc | hc
    · have e : a.take (i + 1) = b.take (i + 1) := by
        rw [take_next hlt, take_next (by omega : i < b.length), hi2, hc]
      refine Run.seq ?_
      refine Run.seq ?_
      refine Run.region ?_
      refine RunL.ok (OpOk.move rfl) rfl ?_
      refine RunL.ok (OpOk.move rfl) rfl ?_
      refine RunL.ok (OpOk.lenR rfl rfl rd rfl) rfl ?_
      refine RunL.ok (OpOk.asT (OpOk.lss rfl rfl) (by omega)) rfl ?_
      refine RunL.nil ?_
      refine Run.condT rfl ?_
      refine Run.skip ?_
      refine Run.seq ?_
      refine Run.block ?_
      refine Run.seq ?_
      (apply Run.drawD [] (by rfl) (sep_emp _).symm; case hchk => kernel_rfl)
      refine Sd.quiet 0 _ _ rfl rfl rfl rfl rfl (QOp.ok (fun X => OpOk.move rfl)) ?_
      refine Sd.quiet 1 _ _ rfl rfl rfl rfl rfl (QOp.ok (fun X => OpOk.move rfl)) ?_
      refine Sd.quiet 2 _ _ rfl rfl rfl rfl rfl (QOp.ok (fun X => OpOk.idxN rfl ti47 rfl rd.left.left rfl (by omega))) ?_
      refine Sd.quiet 3 _ _ rfl rfl rfl rfl rfl (QOp.ok (fun X => OpOk.loadFlE (by assumption) rfl rfl ti47 rfl rd.left.left (fun _ => rfl) rfl (by omega))) ?_
      refine Sd.quiet 4 _ _ rfl rfl rfl rfl rfl (QOp.ok (fun X => OpOk.move rfl)) ?_
      refine Sd.quiet 5 _ _ rfl rfl rfl rfl rfl (QOp.ok (fun X => OpOk.move rfl)) ?_
      refine Sd.quiet 6 _ _ rfl rfl rfl rfl rfl (QOp.ok (fun X => OpOk.idxN rfl ti47 rfl rd2.left.left rfl (by omega))) ?_
      refine Sd.quiet 7 _ _ rfl rfl rfl rfl rfl (QOp.ok (fun X => OpOk.loadFl default rfl rfl ti47 rfl rd2.left.left (fun _ => rfl) rfl (by omega))) ?_
      refine Sd.quiet 8 _ _ rfl rfl rfl rfl rfl (QOp.ok (fun X => OpOk.neqJn jnT47 rfl rfl)) ?_
      (apply Sd.tail; case hall => kernel_rfl)
      refine RunL.mem (fl2 (sep_emp _) (sep_emp _)) ?_
      refine RunL.nil ?_
      refine Run.condNF rfl (by first | omega | with_reducible rfl | assumption) ?_
      refine Run.skip ?_
      refine Run.inBlock ?_
      refine Run.region ?_
      refine RunL.ok (OpOk.move rfl) rfl ?_
      refine RunL.ok (OpOk.addN _ 1 rfl rfl rfl rfl (by omega)) rfl ?_
      refine RunL.ok (OpOk.assign rfl) rfl ?_
      refine RunL.nil ?_
      refine Run.jump ((ih (i + 1) ⟨by omega, e⟩ (by omega))) ⟨rfl, rfl, rfl, trivial⟩ ((Grew.refl _))
    · have hne : a ≠ b := fun e => hc (by rw [e])
      refine Run.seq ?_
      refine Run.seq ?_
      refine Run.region ?_
      refine RunL.ok (OpOk.move rfl) rfl ?_
      refine RunL.ok (OpOk.move rfl) rfl ?_
      refine RunL.ok (OpOk.lenR rfl rfl rd rfl) rfl ?_
      refine RunL.ok (OpOk.asT (OpOk.lss rfl rfl) (by omega)) rfl ?_
      refine RunL.nil ?_
      refine Run.condT rfl ?_
      refine Run.skip ?_
      refine Run.seq ?_
      refine Run.block ?_
      refine Run.seq ?_
      (apply Run.drawD [] (by rfl) (sep_emp _).symm; case hchk => kernel_rfl)
      refine Sd.quiet 0 _ _ rfl rfl rfl rfl rfl (QOp.ok (fun X => OpOk.move rfl)) ?_
      refine Sd.quiet 1 _ _ rfl rfl rfl rfl rfl (QOp.ok (fun X => OpOk.move rfl)) ?_
      refine Sd.quiet 2 _ _ rfl rfl rfl rfl rfl (QOp.ok (fun X => OpOk.idxN rfl ti47 rfl rd.left.left rfl (by omega))) ?_
      refine Sd.quiet 3 _ _ rfl rfl rfl rfl rfl (QOp.ok (fun X => OpOk.loadFl default rfl rfl ti47 rfl rd.left.left (fun _ => rfl) rfl (by omega))) ?_
      refine Sd.quiet 4 _ _ rfl rfl rfl rfl rfl (QOp.ok (fun X => OpOk.move rfl)) ?_
      refine Sd.quiet 5 _ _ rfl rfl rfl rfl rfl (QOp.ok (fun X => OpOk.move rfl)) ?_
      refine Sd.quiet 6 _ _ rfl rfl rfl rfl rfl (QOp.ok (fun X => OpOk.idxN rfl ti47 rfl rd2.left.left rfl (by omega))) ?_
      refine Sd.quiet 7 _ _ rfl rfl rfl rfl rfl (QOp.ok (fun X => OpOk.loadFl default rfl rfl ti47 rfl rd2.left.left (fun _ => rfl) rfl (by omega))) ?_
      refine Sd.quiet 8 _ _ rfl rfl rfl rfl rfl (QOp.ok (fun X => OpOk.neqJn jnT47 rfl rfl)) ?_
      (apply Sd.tail; case hall => kernel_rfl)
      refine RunL.mem (fl2 (sep_emp _) (sep_emp _)) ?_
      refine RunL.nil ?_
      refine Run.condNT rfl (by first | omega | assumption) ?_
      refine Run.seq ?_
      refine Run.region ?_
      refine RunL.ok (OpOk.assign rfl) rfl ?_
      refine RunL.nil ?_
      refine Run.ret1 Try.func21 rfl rfl ?_
      exact ⟨by rw [decide_eq_false hne], rfl⟩
  · obtain rfl : i = a.length := by omega
    clear ih
    rw [List.take_length, hlen, List.take_length] at hi2
    refine Run.seq ?_
    refine Run.seq ?_
    refine Run.region ?_
    refine RunL.ok (OpOk.move rfl) rfl ?_
    refine RunL.ok (OpOk.move rfl) rfl ?_
    refine RunL.ok (OpOk.lenR rfl rfl rd rfl) rfl ?_
    refine RunL.ok (OpOk.asF (OpOk.lss rfl rfl) (by omega)) rfl ?_
    refine RunL.nil ?_
    refine Run.condF rfl ?_
    refine Run.exit rfl ?_
    refine Run.seq ?_
    refine Run.region ?_
    refine RunL.ok (OpOk.assign rfl) rfl ?_
    refine RunL.nil ?_
    refine Run.ret1 Try.func21 rfl rfl ?_
    rw [decide_eq_true (by first | omega | with_reducible rfl | assumption)]
    exact ⟨rfl, rfl⟩
end
end Go.Proofs.Yteopadjihklkmaa
