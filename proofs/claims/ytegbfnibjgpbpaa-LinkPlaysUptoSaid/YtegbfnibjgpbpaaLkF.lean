/- The pool's Sweep. -/
import Derived.Test.YtegbfnibjgpbpaaLkE
namespace Go.Proofs.Ytegbfnibjgpbpaa
open Go Go.Proofs
set_option maxRecDepth 100000
set_option maxHeartbeats 4000000
section
variable {w0 : World} {A : Asn} {p : Nat} {v : Value} {ss : List (List UInt8)}
theorem sweep {Y : Type} (I : Nat → Y → Prop) (M : Y → Asn) (f : List UInt8 → Bool) {kf : FuncId} {cap : List Value} (hc : Callee Try.prog kf)
    (hk : ∀ i y X, i < ss.length → I i y → Spec Try.prog w0 kf (S (ss.getD i default) :: cap) (X * M y) (fun v' A' => v' = .bool (f (ss.getD i default)) ∧ ∃ y' J, I (i + 1) y' ∧ A' = X * J * M y')) (y0 : Y) (h0 : I 0 y0) (hs : ss.length ≤ 4194304) :
    Spec Try.prog w0 16 [.pointer (some ⟨p, 0, none⟩), .func (.func kf) #[] cap.toArray] (A * M y0 * pts p (.cells #[v] 26 (0, 0)) * own 9 1 v (ss).length (Fl encS (ss))) (fun v' A' => ∃ y J v2, I ss.length y ∧ A' = A * J * M y * pts p (.cells #[v2] 26 (0, 0)) * own 9 1 v2 (ss.filter f).length (Fl encS (ss.filter f)) * own 9 1 v' (ss.filter (fun x => ! f x)).length (Fl encS (ss.filter (fun x => ! f x)))) := by
  refine Spec.of_run [(0, .pointer (some ⟨p, 0, none⟩)), (1, .func (.func kf) #[] cap.toArray)] Try.func16 rfl (Nat.le_of_ble_eq_true rfl) (by repeat (first | exact trivial | refine ⟨rfl, ?_⟩)) ?_
  refine Run.seq ?_
  refine Run.region ?_
  refine RunL.ok (OpOk.assign rfl) rfl ?_
  refine RunL.nil ?_
  refine Run.seq ?_
  refine Run.region ?_
  refine RunL.ok (OpOk.assign rfl) rfl ?_
  refine RunL.ok (OpOk.assign rfl) rfl ?_
  refine RunL.nil ?_
  refine Run.seq ?_
  refine Run.seq ?_
  refine Run.region ?_
  refine RunL.ok (OpOk.move rfl) rfl ?_
  refine RunL.ok (OpOk.nilOk rfl) rfl ?_
  refine RunL.ok (OpOk.fieldAddr fld26_0 rfl) rfl ?_
  refine RunL.ok (OpOk.load rfl rfl rfl (Blk.out Blk.pts.left _ _ (by first | rfl | assumption))) rfl ?_
  refine RunL.know (fun w s => (s.conv rfl).ownRd0) (fun rdx1 => ?_)
  refine RunL.ok (OpOk.lenR rfl rfl (Rd.right rdx1) rfl) rfl ?_
  refine RunL.ok (OpOk.move rfl) rfl ?_
  refine RunL.nil ?_
  refine Run.block ?_
  refine Run.ownNilE 9 1 ?_
  refine Run.ownNilE 9 1 ?_
  refine Run.jump ((Run.loopJ (X := Nat × Asn × Y × (Value × Nat × List (List UInt8)) × (Value × Nat × List (List UInt8))) (fun x => [(14, .int .i64 (x.1 : Int)), (13, .int .i64 (ss.length : Int)), (12, v), (5, x.2.2.2.1.1), (6, x.2.2.2.2.1), (0, .pointer (some ⟨p, 0, none⟩)), (1, .func (.func kf) #[] cap.toArray)]) (fun x => A * x.2.1 * M x.2.2.1 * pts p (.cells #[v] 26 (0, 0)) * own 9 1 v ss.length (Fl encS ss) * own 9 1 x.2.2.2.1.1 x.2.2.2.1.2.1 (Fl encS x.2.2.2.1.2.2) * own 9 1 x.2.2.2.2.1 x.2.2.2.2.2.1 (Fl encS x.2.2.2.2.2.2)) (fun x => x.1 ≤ ss.length ∧ I x.1 x.2.2.1 ∧ x.2.2.2.1.2.1 = x.2.2.2.1.2.2.length ∧ x.2.2.2.1.2.2 = (ss.take x.1).filter f ∧ x.2.2.2.2.2.1 = x.2.2.2.2.2.2.length ∧ x.2.2.2.2.2.2 = (ss.take x.1).filter (fun x => ! f x)) (fun x => ss.length - x.1) (0, _, y0, (.slice none 0 0, 0, []), (.slice none 0 0, 0, [])) ⟨Nat.zero_le _, h0, rfl, rfl, rfl, rfl⟩ (fun x hx ih => ?_))) ⟨rfl, rfl, rfl, rfl, rfl, rfl, rfl, trivial⟩ (Grew.of (Eq.trans (frc rfl (frc (frl rfl) (frc (frl (frl rfl)) (frc (frl (frl rfl)) (frc (frl (frl rfl)) rfl))))) (congrArg (· * _) (congrArg (· * _) (congrArg (· * _) (congrArg (· * _) (congrArg (· * _) (asg as1))))))) (Grew.refl _))
  obtain ⟨i, J, y, ⟨v5, m5, ys5⟩, ⟨v6, m6, ys6⟩⟩ := x
  simp only at hx ih ⊢
  obtain ⟨hi, hI, hm5, hy5, hm6, hy6⟩ := hx
  have hl5 : m5 ≤ i := by
    have := List.length_filter_le f (ss.take i)
    rw [← hy5, List.length_take] at this
    omega
  have hl6 : m6 ≤ i := by
    have := List.length_filter_le (fun x => ! f x) (ss.take i)
    rw [← hy6, List.length_take] at this
    omega
  rcases Nat.lt_or_ge i ss.length with hlt | hge
  · have e5 := filter_next (f := f) hlt
    have e6 := filter_next (f := fun x => ! f x) hlt
    refine Run.seq ?_
    refine Run.region ?_
    refine RunL.ok (OpOk.asT (OpOk.lss rfl rfl) (by omega)) rfl ?_
    refine RunL.nil ?_
    refine Run.seq ?_
    refine Run.condT rfl ?_
    refine Run.skip ?_
    refine Run.seq ?_
    refine Run.block ?_
    refine Run.seq ?_
    refine Run.region ?_
    refine RunL.ok (OpOk.idx1N rfl ti9 rfl (Rd.right rdx1).left.left rfl (by omega)) rfl ?_
    refine RunL.ok (OpOk.loadStr rfl rfl rfl (Rd.right rdx1).left.left (by omega)) rfl ?_
    refine RunL.ok (OpOk.assign rfl) rfl ?_
    refine RunL.nil ?_
    refine Run.seq ?_
    refine Run.region ?_
    refine RunL.ok (OpOk.move rfl) rfl ?_
    refine RunL.ok (OpOk.move rfl) rfl ?_
    refine RunL.callV hc rfl rfl (Spec.mem (by ac_rfl) (hk i y (A * J * pts p (.cells #[v] 26 (0, 0)) * own 9 1 v ss.length (Fl encS ss) * own 9 1 v5 m5 (Fl encS ys5) * own 9 1 v6 m6 (Fl encS ys6)) hlt hI)) rfl (fun u A' h => ?_)
    obtain ⟨rfl, y', J', hI', rfl⟩ := h
    refine RunL.nil ?_
    refine Run.cond rfl (fun z1 => ?_) (fun z1 => ?_)
    · refine Run.region ?_
      refine RunL.ok (OpOk.move rfl) rfl ?_
      refine RunL.ok (OpOk.move rfl) rfl ?_
      refine RunL.litS (ss := [ss.getD i default]) rfl ti9 rfl rfl rfl (by decide) rfl (fun vz2 rdz2 => ?_)
      refine RunL.know (fun w s => (s.conv rfl).ownRd0) (fun rdz4 => ?_)
      refine RunL.appendF rfl ti9 rfl rfl rfl (frl (frl (frl (frl rfl)))) (Rd.right rdz4) rfl (by decide) (by omega) (by simp only [maxLen]; omega) rfl (fun vz3 rdz3 => ?_)
      refine RunL.ok (OpOk.assign rfl) rfl ?_
      refine RunL.nil ?_
      refine Run.inBlock ?_
      refine Run.region ?_
      refine RunL.ok (OpOk.addN _ 1 rfl rfl rfl rfl (by omega)) rfl ?_
      refine RunL.ok (OpOk.move rfl) rfl ?_
      refine RunL.nil ?_
      rw [if_pos z1] at e5
      rw [if_neg (by rw [z1]; decide), List.append_nil] at e6
      refine Run.jump ((ih (i + 1, _, y', (_, _, ys5 ++ [ss.getD i default]), (_, _, ys6)) ⟨by dsimp only; omega, hI', by simp [hm5], by dsimp only; rw [e5, hy5], hm6, by dsimp only; rw [e6, hy6]⟩ (by dsimp only; omega))) ⟨rfl, rfl, rfl, rfl, rfl, rfl, rfl, trivial⟩ (Grew.of (Eq.trans (frc (frl (frl (frl (frl rfl)))) (frc rfl (frc (frl (frl (frl rfl))) (frc (frl (frl (frl rfl))) (frc (frl rfl) rfl))))) (congrArg (· * _) (congrArg (· * _) (congrArg (· * _) (congrArg (· * _) (congrArg (· * _) (asg (asg as1)))))))) (Grew.refl _))
    refine Run.region ?_
    refine RunL.ok (OpOk.move rfl) rfl ?_
    refine RunL.ok (OpOk.move rfl) rfl ?_
    refine RunL.litS (ss := [ss.getD i default]) rfl ti9 rfl rfl rfl (by decide) rfl (fun vz5 rdz5 => ?_)
    refine RunL.know (fun w s => (s.conv rfl).ownRd0) (fun rdz7 => ?_)
    refine RunL.appendF rfl ti9 rfl rfl rfl (frl (frl (frl rfl))) (Rd.right rdz7) rfl (by decide) (by omega) (by simp only [maxLen]; omega) rfl (fun vz6 rdz6 => ?_)
    refine RunL.ok (OpOk.assign rfl) rfl ?_
    refine RunL.nil ?_
    refine Run.inBlock ?_
    refine Run.region ?_
    refine RunL.ok (OpOk.addN _ 1 rfl rfl rfl rfl (by omega)) rfl ?_
    refine RunL.ok (OpOk.move rfl) rfl ?_
    refine RunL.nil ?_
    have hf : f (ss.getD i default) = false := by assumption
    rw [if_neg (by rw [hf]; decide), List.append_nil] at e5
    rw [if_pos (by rw [hf]; decide)] at e6
    refine Run.jump ((ih (i + 1, _, y', (_, _, ys5), (_, _, ys6 ++ [ss.getD i default])) ⟨by dsimp only; omega, hI', hm5, by dsimp only; rw [e5, hy5], by simp [hm6], by dsimp only; rw [e6, hy6]⟩ (by dsimp only; omega))) ⟨rfl, rfl, rfl, rfl, rfl, rfl, rfl, trivial⟩ (Grew.of (Eq.trans (frc rfl (frc (frl (frl (frl rfl))) (frc (frl (frl (frl rfl))) (frc (frl (frl (frl rfl))) (frc (frl rfl) rfl))))) (congrArg (· * _) (congrArg (· * _) (congrArg (· * _) (congrArg (· * _) (congrArg (· * _) (asg (asg as1)))))))) (Grew.refl _))
  · obtain rfl : i = ss.length := by omega
    clear ih
    rw [List.take_of_length_le (Nat.le_refl _)] at hy5 hy6
    subst hy5 hy6 hm5 hm6
    refine Run.seq ?_
    refine Run.region ?_
    refine RunL.ok (OpOk.asF (OpOk.lss rfl rfl) (by omega)) rfl ?_
    refine RunL.nil ?_
    refine Run.seq ?_
    refine Run.condF rfl ?_
    refine Run.exit rfl ?_
    refine Run.seq ?_
    refine Run.region ?_
    refine RunL.ok (OpOk.move rfl) rfl ?_
    refine RunL.ok (OpOk.move rfl) rfl ?_
    refine RunL.ok (OpOk.nilOk rfl) rfl ?_
    refine RunL.ok (OpOk.fieldAddr fld26_0 rfl) rfl ?_
    refine RunL.know (fun w s => (s.conv (frl rfl)).ownRd0) (fun rdy1 => ?_)
    refine RunL.store ti22 rfl rfl (Rd.one rdy1) (frl (frl (frl rfl))) (by exact Nat.le_of_ble_eq_true rfl) (.inl rfl) ?_
    refine RunL.nil ?_
    refine Run.seq ?_
    refine Run.region ?_
    refine RunL.ok (OpOk.move rfl) rfl ?_
    refine RunL.ok (OpOk.assign rfl) rfl ?_
    refine RunL.nil ?_
    refine Run.ret1 Try.func16 rfl rfl ?_
    refine ⟨y, J * own 9 1 v ss.length (Fl encS ss), v5, hI, ?_⟩
    try simp only [List.setIfInBounds_toArray]
    ac_rfl
/-- A closure that reads one text. -/
theorem sweepP (f : List UInt8 → Bool) {kf : FuncId} {b : Nat} {o : List UInt8} (hc : Callee Try.prog kf)
    (hk : ∀ (X : Asn) (x : List UInt8), Spec Try.prog w0 kf [S x, .pointer (some ⟨b, 0, none⟩)] (X * pts b (.cells #[S o] 9 (0, 0))) (fun v' A' => v' = .bool (f x) ∧ A' = X * pts b (.cells #[S o] 9 (0, 0)))) (hs : ss.length ≤ 4194304) :
    Spec Try.prog w0 16 [.pointer (some ⟨p, 0, none⟩), .func (.func kf) #[] #[.pointer (some ⟨b, 0, none⟩)]] (A * pts b (.cells #[S o] 9 (0, 0)) * pts p (.cells #[v] 26 (0, 0)) * own 9 1 v (ss).length (Fl encS (ss))) (fun v' A' => ∃ J v2, A' = A * J * pts b (.cells #[S o] 9 (0, 0)) * pts p (.cells #[v2] 26 (0, 0)) * own 9 1 v2 (ss.filter f).length (Fl encS (ss.filter f)) * own 9 1 v' (ss.filter (fun x => ! f x)).length (Fl encS (ss.filter (fun x => ! f x)))) := by
  have h := sweep (w0 := w0) (A := A) (p := p) (v := v) (ss := ss) (Y := Unit) (fun _ _ => True) (fun _ => pts b (.cells #[S o] 9 (0, 0))) f (kf := kf) (cap := [.pointer (some ⟨b, 0, none⟩)]) hc (fun i y X _ _ => (hk X _).mono fun v' A' h => ⟨h.1, (), emp, trivial, by rw [sep_emp]; exact h.2⟩) () trivial hs
  exact h.mono fun v' A' ⟨_, J, v2, _, e⟩ => ⟨J, v2, e⟩
theorem s17 {x o : List UInt8} {b : Nat} : Spec Try.prog w0 17 [S x, .pointer (some ⟨b, 0, none⟩)] (A * pts b (.cells #[S o] 9 (0, 0))) (fun v' A' => v' = .bool (!decide (x = o)) ∧ A' = A * pts b (.cells #[S o] 9 (0, 0))) := by
  refine Spec.of_run [(0, S x), (1, .pointer (some ⟨b, 0, none⟩))] Try.func17 rfl (Nat.le_of_ble_eq_true rfl) (by repeat (first | exact trivial | refine ⟨rfl, ?_⟩)) ?_
  refine Run.seq ?_
  refine Run.region ?_
  refine RunL.ok (OpOk.assign rfl) rfl ?_
  refine RunL.nil ?_
  refine Run.seq ?_
  refine Run.region ?_
  refine RunL.ok (OpOk.move rfl) rfl ?_
  refine RunL.ok (OpOk.load rfl rfl rfl (Blk.out Blk.pts _ _ (by first | rfl | assumption))) rfl ?_
  refine RunL.ok (OpOk.neqSS rfl rfl) rfl ?_
  refine RunL.ok (OpOk.assign rfl) rfl ?_
  refine RunL.nil ?_
  refine Run.ret1 Try.func17 rfl rfl ?_
  exact ⟨rfl, rfl⟩
theorem s21 {x o : List UInt8} {b : Nat} : Spec Try.prog w0 21 [S x, .pointer (some ⟨b, 0, none⟩)] (A * pts b (.cells #[S o] 9 (0, 0))) (fun v' A' => v' = .bool (decide (x = o)) ∧ A' = A * pts b (.cells #[S o] 9 (0, 0))) := by
  refine Spec.of_run [(0, S x), (1, .pointer (some ⟨b, 0, none⟩))] Try.func21 rfl (Nat.le_of_ble_eq_true rfl) (by repeat (first | exact trivial | refine ⟨rfl, ?_⟩)) ?_
  refine Run.seq ?_
  refine Run.region ?_
  refine RunL.ok (OpOk.assign rfl) rfl ?_
  refine RunL.nil ?_
  refine Run.seq ?_
  refine Run.region ?_
  refine RunL.ok (OpOk.move rfl) rfl ?_
  refine RunL.ok (OpOk.load rfl rfl rfl (Blk.out Blk.pts _ _ (by first | rfl | assumption))) rfl ?_
  refine RunL.ok (OpOk.eqlSS rfl rfl) rfl ?_
  refine RunL.ok (OpOk.assign rfl) rfl ?_
  refine RunL.nil ?_
  refine Run.ret1 Try.func21 rfl rfl ?_
  exact ⟨rfl, rfl⟩
theorem s22 {x o : List UInt8} {b : Nat} : Spec Try.prog w0 22 [S x, .pointer (some ⟨b, 0, none⟩)] (A * pts b (.cells #[S o] 9 (0, 0))) (fun v' A' => v' = .bool (decide (x = o)) ∧ A' = A * pts b (.cells #[S o] 9 (0, 0))) := by
  refine Spec.of_run [(0, S x), (1, .pointer (some ⟨b, 0, none⟩))] Try.func22 rfl (Nat.le_of_ble_eq_true rfl) (by repeat (first | exact trivial | refine ⟨rfl, ?_⟩)) ?_
  refine Run.seq ?_
  refine Run.region ?_
  refine RunL.ok (OpOk.assign rfl) rfl ?_
  refine RunL.nil ?_
  refine Run.seq ?_
  refine Run.region ?_
  refine RunL.ok (OpOk.move rfl) rfl ?_
  refine RunL.ok (OpOk.load rfl rfl rfl (Blk.out Blk.pts _ _ (by first | rfl | assumption))) rfl ?_
  refine RunL.ok (OpOk.eqlSS rfl rfl) rfl ?_
  refine RunL.ok (OpOk.assign rfl) rfl ?_
  refine RunL.nil ?_
  refine Run.ret1 Try.func22 rfl rfl ?_
  exact ⟨rfl, rfl⟩
theorem s23 {x o : List UInt8} {b : Nat} : Spec Try.prog w0 23 [S x, .pointer (some ⟨b, 0, none⟩)] (A * pts b (.cells #[S o] 9 (0, 0))) (fun v' A' => v' = .bool (!decide (x = o)) ∧ A' = A * pts b (.cells #[S o] 9 (0, 0))) := by
  refine Spec.of_run [(0, S x), (1, .pointer (some ⟨b, 0, none⟩))] Try.func23 rfl (Nat.le_of_ble_eq_true rfl) (by repeat (first | exact trivial | refine ⟨rfl, ?_⟩)) ?_
  refine Run.seq ?_
  refine Run.region ?_
  refine RunL.ok (OpOk.assign rfl) rfl ?_
  refine RunL.nil ?_
  refine Run.seq ?_
  refine Run.region ?_
  refine RunL.ok (OpOk.move rfl) rfl ?_
  refine RunL.ok (OpOk.load rfl rfl rfl (Blk.out Blk.pts _ _ (by first | rfl | assumption))) rfl ?_
  refine RunL.ok (OpOk.neqSS rfl rfl) rfl ?_
  refine RunL.ok (OpOk.assign rfl) rfl ?_
  refine RunL.nil ?_
  refine Run.ret1 Try.func23 rfl rfl ?_
  exact ⟨rfl, rfl⟩
theorem s31 {x o : List UInt8} {b : Nat} : Spec Try.prog w0 31 [S x, .pointer (some ⟨b, 0, none⟩)] (A * pts b (.cells #[S o] 9 (0, 0))) (fun v' A' => v' = .bool (decide (x = o)) ∧ A' = A * pts b (.cells #[S o] 9 (0, 0))) := by
  refine Spec.of_run [(0, S x), (1, .pointer (some ⟨b, 0, none⟩))] Try.func31 rfl (Nat.le_of_ble_eq_true rfl) (by repeat (first | exact trivial | refine ⟨rfl, ?_⟩)) ?_
  refine Run.seq ?_
  refine Run.region ?_
  refine RunL.ok (OpOk.assign rfl) rfl ?_
  refine RunL.nil ?_
  refine Run.seq ?_
  refine Run.region ?_
  refine RunL.ok (OpOk.move rfl) rfl ?_
  refine RunL.ok (OpOk.load rfl rfl rfl (Blk.out Blk.pts _ _ (by first | rfl | assumption))) rfl ?_
  refine RunL.ok (OpOk.eqlSS rfl rfl) rfl ?_
  refine RunL.ok (OpOk.assign rfl) rfl ?_
  refine RunL.nil ?_
  refine Run.ret1 Try.func31 rfl rfl ?_
  exact ⟨rfl, rfl⟩
theorem only_T1 (o : List UInt8) (xs : List (List UInt8)) : xs.filter (fun x => decide (x = o)) = only o true xs := by simp [only]
theorem only_F1 (o : List UInt8) (xs : List (List UInt8)) : xs.filter (fun x => !decide (x = o)) = only o false xs := by
  simp [only]
theorem only_F2 (o : List UInt8) (xs : List (List UInt8)) : xs.filter (fun x => !!decide (x = o)) = only o true xs := by
  simp [only]
theorem s16a {b : Nat} {o : List UInt8} (hs : ss.length ≤ 4194304) : Spec Try.prog w0 16 [.pointer (some ⟨p, 0, none⟩), .func (.func 17) #[] #[.pointer (some ⟨b, 0, none⟩)]] (A * pts b (.cells #[S o] 9 (0, 0)) * pts p (.cells #[v] 26 (0, 0)) * own 9 1 v (ss).length (Fl encS (ss))) (fun v' A' => ∃ J v2, A' = A * J * pts b (.cells #[S o] 9 (0, 0)) * pts p (.cells #[v2] 26 (0, 0)) * own 9 1 v2 (only o false ss).length (Fl encS (only o false ss)) * own 9 1 v' (only o true ss).length (Fl encS (only o true ss))) := by
  have h := sweepP (w0 := w0) (A := A) (p := p) (v := v) (ss := ss) (fun x => !decide (x = o)) (kf := 17) (b := b) (o := o) cal17 (fun X x => s17) hs
  rw [only_F1, only_F2] at h
  exact h
theorem s16b {b : Nat} {o : List UInt8} (hs : ss.length ≤ 4194304) : Spec Try.prog w0 16 [.pointer (some ⟨p, 0, none⟩), .func (.func 21) #[] #[.pointer (some ⟨b, 0, none⟩)]] (A * pts b (.cells #[S o] 9 (0, 0)) * pts p (.cells #[v] 26 (0, 0)) * own 9 1 v (ss).length (Fl encS (ss))) (fun v' A' => ∃ J v2, A' = A * J * pts b (.cells #[S o] 9 (0, 0)) * pts p (.cells #[v2] 26 (0, 0)) * own 9 1 v2 (only o true ss).length (Fl encS (only o true ss)) * own 9 1 v' (only o false ss).length (Fl encS (only o false ss))) := by
  have h := sweepP (w0 := w0) (A := A) (p := p) (v := v) (ss := ss) (fun x => decide (x = o)) (kf := 21) (b := b) (o := o) cal21 (fun X x => s21) hs
  rw [only_F1, only_T1] at h
  exact h
theorem s16c {b : Nat} {o : List UInt8} (hs : ss.length ≤ 4194304) : Spec Try.prog w0 16 [.pointer (some ⟨p, 0, none⟩), .func (.func 22) #[] #[.pointer (some ⟨b, 0, none⟩)]] (A * pts b (.cells #[S o] 9 (0, 0)) * pts p (.cells #[v] 26 (0, 0)) * own 9 1 v (ss).length (Fl encS (ss))) (fun v' A' => ∃ J v2, A' = A * J * pts b (.cells #[S o] 9 (0, 0)) * pts p (.cells #[v2] 26 (0, 0)) * own 9 1 v2 (only o true ss).length (Fl encS (only o true ss)) * own 9 1 v' (only o false ss).length (Fl encS (only o false ss))) := by
  have h := sweepP (w0 := w0) (A := A) (p := p) (v := v) (ss := ss) (fun x => decide (x = o)) (kf := 22) (b := b) (o := o) cal22 (fun X x => s22) hs
  rw [only_F1, only_T1] at h
  exact h
theorem s16d {b : Nat} {o : List UInt8} (hs : ss.length ≤ 4194304) : Spec Try.prog w0 16 [.pointer (some ⟨p, 0, none⟩), .func (.func 23) #[] #[.pointer (some ⟨b, 0, none⟩)]] (A * pts b (.cells #[S o] 9 (0, 0)) * pts p (.cells #[v] 26 (0, 0)) * own 9 1 v (ss).length (Fl encS (ss))) (fun v' A' => ∃ J v2, A' = A * J * pts b (.cells #[S o] 9 (0, 0)) * pts p (.cells #[v2] 26 (0, 0)) * own 9 1 v2 (only o false ss).length (Fl encS (only o false ss)) * own 9 1 v' (only o true ss).length (Fl encS (only o true ss))) := by
  have h := sweepP (w0 := w0) (A := A) (p := p) (v := v) (ss := ss) (fun x => !decide (x = o)) (kf := 23) (b := b) (o := o) cal23 (fun X x => s23) hs
  rw [only_F1, only_F2] at h
  exact h
theorem s16e {b : Nat} {o : List UInt8} (hs : ss.length ≤ 4194304) : Spec Try.prog w0 16 [.pointer (some ⟨p, 0, none⟩), .func (.func 31) #[] #[.pointer (some ⟨b, 0, none⟩)]] (A * pts b (.cells #[S o] 9 (0, 0)) * pts p (.cells #[v] 26 (0, 0)) * own 9 1 v (ss).length (Fl encS (ss))) (fun v' A' => ∃ J v2, A' = A * J * pts b (.cells #[S o] 9 (0, 0)) * pts p (.cells #[v2] 26 (0, 0)) * own 9 1 v2 (only o true ss).length (Fl encS (only o true ss)) * own 9 1 v' (only o false ss).length (Fl encS (only o false ss))) := by
  have h := sweepP (w0 := w0) (A := A) (p := p) (v := v) (ss := ss) (fun x => decide (x = o)) (kf := 31) (b := b) (o := o) cal31 (fun X x => s31) hs
  rw [only_F1, only_T1] at h
  exact h
end
end Go.Proofs.Ytegbfnibjgpbpaa
