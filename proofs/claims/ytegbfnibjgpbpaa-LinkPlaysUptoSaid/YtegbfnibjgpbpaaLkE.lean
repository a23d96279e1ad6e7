/- The pool's iterator. -/
import Derived.Test.YtegbfnibjgpbpaaLkD
namespace Go.Proofs.Ytegbfnibjgpbpaa
open Go Go.Proofs
set_option maxRecDepth 100000
set_option maxHeartbeats 4000000
section
variable {w0 : World} {A : Asn} {p : Nat} {v : Value} {ss : List (List UInt8)}
theorem valuesS0 {u : Value} : Spec Try.prog w0 59 [u] A (fun v' A' => ∃ b, v' = .func (.func 76) #[] #[.pointer (some ⟨b, 0, none⟩)] ∧ A' = A * pts b (.cells u.cells 22 (0, 0))) := by
  refine Spec.of_run [(0, u)] Try.func59 rfl (Nat.le_of_ble_eq_true rfl) (by repeat (first | exact trivial | refine ⟨rfl, ?_⟩)) ?_
  refine Run.seq ?_
  refine Run.region ?_
  refine RunL.box rfl rfl (fun bx1 => ?_)
  refine RunL.ok (OpOk.assign rfl) rfl ?_
  refine RunL.nil ?_
  refine Run.seq ?_
  refine Run.region ?_
  refine RunL.ok (OpOk.makeFunc rfl rfl) rfl ?_
  refine RunL.ok (OpOk.assign rfl) rfl ?_
  refine RunL.nil ?_
  refine Run.ret1 Try.func59 rfl rfl ?_
  exact ⟨_, rfl, rfl⟩
theorem s59 {u : Value} {m : Nat} {xs : List Value} (rd : Rd w0 A u 1 m xs) : Spec Try.prog w0 59 [u] A (fun v' A' => ∃ b, v' = .func (.func 76) #[] #[.pointer (some ⟨b, 0, none⟩)] ∧ A' = A * pts b (.cells #[u] 22 (0, 0))) := by
  have h := valuesS0 (w0 := w0) (A := A) (u := u)
  rw [Rd.cells1 rd] at h
  exact h
theorem iterS {b : Nat} (hmx : ss.length ≤ 4611686018427387904) : IterOk Try.prog w0 76 [.pointer (some ⟨b, 0, none⟩)] ss.length (fun i => S (ss.getD i default)) (pts b (.cells #[v] 22 (0, 0)) * own 9 1 v ss.length (Fl encS ss)) := by
  refine ⟨cal76, fun l Y I M St hY y0 h0 => ?_⟩
  rw [← sep_assoc]
  refine Spec.of_run [(0, .func (.yield l) #[] #[]), (1, .pointer (some ⟨b, 0, none⟩))] Try.func76 rfl (Nat.le_of_ble_eq_true rfl) (by repeat (first | exact trivial | refine ⟨rfl, ?_⟩)) ?_
  refine Run.seq ?_
  refine Run.region ?_
  refine RunL.ok (OpOk.load rfl rfl rfl (Blk.out Blk.pts.left _ _ (by first | rfl | assumption))) rfl ?_
  refine RunL.know (fun w s => (s.conv rfl).ownRd0) (fun rdx1 => ?_)
  refine RunL.ok (OpOk.lenR rfl rfl (Rd.right rdx1) rfl) rfl ?_
  refine RunL.ok (OpOk.move rfl) rfl ?_
  refine RunL.nil ?_
  refine Run.block ?_
  refine Run.jump ((Run.loopJ (X := Nat × Asn × Y) (fun x => [(7, .int .i64 (x.1 : Int)), (6, .int .i64 (ss.length : Int)), (5, v), (0, .func (.yield l) #[] #[])]) (fun x => x.2.1 * M x.2.2 * own 9 1 v ss.length (Fl encS ss)) (fun x => x.1 ≤ ss.length ∧ I x.1 x.2.2) (fun x => ss.length - x.1) (0, _, y0) ⟨Nat.zero_le _, h0⟩ (fun x hx ih => ?_))) ⟨rfl, rfl, rfl, rfl, trivial⟩ (Grew.of (Eq.trans (frc rfl (frc (sep_comm _ _) rfl)) (congrArg (· * _) (congrArg (· * _) rfl))) (Grew.refl _))
  obtain ⟨i, J, y⟩ := x
  simp only at hx ih ⊢
  obtain ⟨hi, hI⟩ := hx
  rcases Nat.lt_or_ge i ss.length with hlt | hge
  · refine Run.seq ?_
    refine Run.region ?_
    refine RunL.ok (OpOk.asT (OpOk.lss rfl rfl) (by omega)) rfl ?_
    refine RunL.nil ?_
    refine Run.seq ?_
    refine Run.condT rfl ?_
    refine Run.skip ?_
    refine Run.seq ?_
    refine Run.block ?_
    refine Run.seq ?_
    refine Run.region ?_
    refine RunL.ok (OpOk.idx1N rfl ti9 rfl (Rd.right rdx1) rfl (by omega)) rfl ?_
    refine RunL.ok (OpOk.loadStr rfl rfl rfl (Rd.right rdx1) (by omega)) rfl ?_
    refine RunL.ok (OpOk.assign rfl) rfl ?_
    refine RunL.nil ?_
    refine Run.seq ?_
    refine Run.regionY ?_
    refine RunY.ok (OpOk.move rfl) rfl ?_
    refine RunY.ok (OpOk.move rfl) rfl ?_
    refine RunY.yield rfl rfl (fun w hs => hY i y (J * own 9 1 v ss.length (Fl encS ss)) hlt hI w (hs.conv (by ac_rfl))) rfl (fun u A' h => ?_)
    rcases h with ⟨rfl, y', hI', rfl⟩ | ⟨rfl, y', hS, rfl⟩
    · refine RunY.of ?_
      refine RunL.ok (OpOk.not rfl) rfl ?_
      refine RunL.nil ?_
      refine Run.condF rfl ?_
      refine Run.skip ?_
      refine Run.inBlock ?_
      refine Run.region ?_
      refine RunL.ok (OpOk.addN _ 1 rfl rfl rfl rfl (by omega)) rfl ?_
      refine RunL.ok (OpOk.move rfl) rfl ?_
      refine RunL.nil ?_
      refine Run.jump ((ih (i + 1, _, y') ⟨by dsimp only; omega, hI'⟩ (by dsimp only; omega))) ⟨rfl, rfl, rfl, rfl, trivial⟩ (Grew.of (Eq.trans (frc (frl rfl) rfl) (congrArg (· * _) (congrArg (· * _) rfl))) (Grew.refl _))
    · refine RunY.of ?_
      refine RunL.ok (OpOk.not rfl) rfl ?_
      refine RunL.nil ?_
      refine Run.condT rfl ?_
      refine Run.ret0 Try.func76 rfl ?_
      exact ⟨y', J * own 9 1 v ss.length (Fl encS ss), .inr hS, by ac_rfl⟩
  · obtain rfl : i = ss.length := by omega
    clear ih
    refine Run.seq ?_
    refine Run.region ?_
    refine RunL.ok (OpOk.asF (OpOk.lss rfl rfl) (by omega)) rfl ?_
    refine RunL.nil ?_
    refine Run.seq ?_
    refine Run.condF rfl ?_
    refine Run.exit rfl ?_
    refine Run.fall0 Try.func76 rfl ?_
    exact ⟨y, J * own 9 1 v ss.length (Fl encS ss), .inl hI, by ac_rfl⟩
theorem s25 (hs : ss.length ≤ 4194304) : Spec Try.prog w0 25 [.pointer (some ⟨p, 0, none⟩)] (A * pts p (.cells #[v] 26 (0, 0)) * own 9 1 v (ss).length (Fl encS (ss))) (fun v' A' => ∃ b v2, v' = .func (.func 76) #[] #[.pointer (some ⟨b, 0, none⟩)] ∧ A' = A * pts p (.cells #[v] 26 (0, 0)) * own 9 1 v (ss).length (Fl encS (ss)) * pts b (.cells #[v2] 22 (0, 0)) * own 9 1 v2 ss.length (Fl encS ss)) := by
  refine Spec.of_run [(0, .pointer (some ⟨p, 0, none⟩))] Try.func25 rfl (Nat.le_of_ble_eq_true rfl) (by repeat (first | exact trivial | refine ⟨rfl, ?_⟩)) ?_
  refine Run.seq ?_
  refine Run.region ?_
  refine RunL.ok (OpOk.assign rfl) rfl ?_
  refine RunL.nil ?_
  refine Run.seq ?_
  refine Run.region ?_
  refine RunL.ok (OpOk.move rfl) rfl ?_
  refine RunL.ok (OpOk.nilOk rfl) rfl ?_
  refine RunL.ok (OpOk.fieldAddr fld26_0 rfl) rfl ?_
  refine RunL.ok (OpOk.load rfl rfl rfl (Blk.out Blk.pts.left _ _ (by first | rfl | assumption))) rfl ?_
  refine RunL.know (fun w s => (s.conv rfl).ownRd0) (fun rdx1 => ?_)
  refine RunL.call cal60 rfl (s60 (Rd.right rdx1) (by omega)) rfl (fun vx2 Ax2 hx2 => ?_)
  obtain rfl := hx2
  refine RunL.know (fun w s => (s.conv rfl).ownRd0) (fun rdx3 => ?_)
  refine RunL.call cal59 rfl (s59 (Rd.right rdx3)) rfl (fun vx4 Ax4 hx4 => ?_)
  obtain ⟨x5, ⟨rfl, rfl⟩⟩ := hx4
  refine RunL.ok (OpOk.assign rfl) rfl ?_
  refine RunL.nil ?_
  refine Run.ret1 Try.func25 rfl rfl ?_
  exact ⟨_, _, rfl, (frc (frl rfl) rfl)⟩
theorem s30 (hs : ss.length ≤ 4194304) : Spec Try.prog w0 30 [.pointer (some ⟨p, 0, none⟩)] (A * pts p (.cells #[v] 26 (0, 0)) * own 9 1 v (ss).length (Fl encS (ss))) (fun v' A' => ∃ J, A' = A * J * pts p (.cells #[v] 26 (0, 0)) * own 9 1 v (ss).length (Fl encS (ss)) * own 9 1 v' ss.length (Fl encS ss)) := by
  refine Spec.of_run [(0, .pointer (some ⟨p, 0, none⟩))] Try.func30 rfl (Nat.le_of_ble_eq_true rfl) (by repeat (first | exact trivial | refine ⟨rfl, ?_⟩)) ?_
  refine Run.seq ?_
  refine Run.region ?_
  refine RunL.ok (OpOk.assign rfl) rfl ?_
  refine RunL.nil ?_
  refine Run.seq ?_
  refine Run.region ?_
  refine RunL.alloc ti22 rfl (fun bx1 => ?_)
  refine RunL.nil ?_
  refine Run.seq ?_
  refine Run.seq ?_
  refine Run.region ?_
  refine RunL.ok (OpOk.move rfl) rfl ?_
  refine RunL.mem (frc (frl rfl) (frc (frl rfl) rfl)) ?_
  refine RunL.call cal25 rfl (s25 (by assumption)) rfl (fun vx2 Ax2 hx2 => ?_)
  obtain ⟨x3, ⟨x4, ⟨rfl, rfl⟩⟩⟩ := hx2
  refine RunL.nil ?_
  refine Run.block ?_
  refine Run.ent (Ent.ownNil' _ 9 1 (Fl encS []) rfl) ?_
  refine Run.range0 (Z := Asn × Value × Nat × List (List UInt8)) (iterS (v := x4) (ss := ss) (b := x3) (by omega)) rfl rfl (fun z => A * z.1 * pts p (.cells #[v] 26 (0, 0)) * own 9 1 v (ss).length (Fl encS (ss)) * pts bx1 (.cells #[z.2.1] 22 (0, 0)) * own 9 1 z.2.1 z.2.2.1 (Fl encS z.2.2.2)) (fun i z => z.2.2.1 = i ∧ z.2.2.2 = ss.take i) (fun _ _ => False) (emp, .slice none 0 0, 0, []) ⟨rfl, rfl⟩ ?_ (fun RR l rc i z J hi hz hgo _ _ => ?_) (fun z J D hz => ?_) (fun c z J D hz => hz.elim)
  · dsimp only
    rw [sep_emp]
    show A * pts bx1 (.cells #[Value.slice none 0 0] 22 (0, 0)) * _ * _ * _ * _ * _ = _
    ac_rfl
  · obtain ⟨J2, v7, m, ys⟩ := z
    simp only at hz hgo ⊢
    obtain ⟨rfl, rfl⟩ := hz
    refine Run.region ?_
    refine RunL.ok (OpOk.assign rfl) rfl ?_
    refine RunL.nil ?_
    refine Run.beginRound ?_
    refine Run.block ?_
    refine Run.region ?_
    refine RunL.ok (OpOk.load rfl rfl rfl (Blk.out Blk.pts.left.left.left _ _ (by first | rfl | assumption))) rfl ?_
    refine RunL.ok (OpOk.move rfl) rfl ?_
    refine RunL.litS (ss := [ss.getD m default]) rfl ti9 rfl rfl rfl (by decide) rfl (fun vy1 rdy1 => ?_)
    refine RunL.know (fun w s => (s.conv rfl).ownRd0) (fun rdy3 => ?_)
    refine RunL.appendF rfl ti9 rfl rfl rfl (frl (frl (frl rfl))) (Rd.right rdy3) rfl (by decide) (by omega) (by simp only [maxLen]; omega) rfl (fun vy2 rdy2 => ?_)
    refine RunL.know (fun w s => (s.conv rfl).ownRd0) (fun rdy4 => ?_)
    refine RunL.store ti22 rfl rfl (Rd.one rdy4) (frl (frl (frl (frl rfl)))) (by exact Nat.le_of_ble_eq_true rfl) (.inl rfl) ?_
    refine RunL.nil ?_
    refine Run.inBlock ?_
    refine Run.jump ((hgo (_, vy2, m + 1, ss.take m ++ [ss.getD m default]) ⟨rfl, (take_next hi).symm⟩ [])) trivial (Grew.of (Eq.trans (frc (frl (frl (frl rfl))) (frc (frl (frl (frl rfl))) (frc (frl rfl) (frc rfl (frc (frl rfl) (frc (frl rfl) rfl)))))) (congrArg (· * _) (congrArg (· * _) (congrArg (· * _) (congrArg (· * _) (congrArg (· * _) (congrArg (· * _) (asg as1)))))))) (Grew.refl _))
  · obtain ⟨J2, v7, m, ys⟩ := z
    simp only at hz ⊢
    obtain ⟨rfl, rfl⟩ := hz
    refine Run.inBlock ?_
    refine Run.seq ?_
    refine Run.region ?_
    refine RunL.ok (OpOk.load rfl rfl rfl (Blk.out Blk.pts.left.left.left _ _ (by first | rfl | assumption))) rfl ?_
    refine RunL.ok (OpOk.assign rfl) rfl ?_
    refine RunL.nil ?_
    refine Run.shut ?_
    refine Run.ret1 Try.func30 rfl rfl ?_
    exact ⟨J2 * pts bx1 (.cells #[v7] 22 (0, 0)) * J, by rw [List.take_length]; ac_rfl⟩
end
end Go.Proofs.Ytegbfnibjgpbpaa
