/- The law of cuts, walked. -/
import Derived.Test.YtlheianbmpgefaaBiA
namespace Go.Proofs.Ytlheianbmpgefaa
open Go Go.Proofs
set_option maxRecDepth 100000
set_option maxHeartbeats 4000000
theorem bitsCuts_spec {w0 : World} {u1 u2 : Value} {xs : List UInt8} {ws : List Int} {cut : Int} (rd : Rd w0 (old w0) u1 1 xs.length (B xs)) (rd2 : Rd w0 (old w0) u2 1 ws.length (I ws)) :
    Spec Try.prog w0 5 [u1, u2, .int .i64 cut] (old w0) (fun v' A' => v' = .bool true ∧ Grew (old w0) A') := by
  have hmax := rd.max
  have hmax2 := rd2.max
  refine Spec.of_run [(0, u1), (1, u2), (2, .int .i64 cut)] Try.func5 rfl (Nat.le_of_ble_eq_true rfl) (by repeat (first | exact trivial | refine ⟨rfl, ?_⟩)) ?_
  rcases Int.lt_or_le cut 0 with h0 | h0
  · have rdk := Rd.cutMB0 rd (Nat.le_refl _) (Nat.le_refl _)
    have htk := List.length_take (i := xs.length) (l := xs)
    refine Run.seq ?_
    refine Run.region ?_
    refine RunL.ok (OpOk.assign rfl) rfl ?_
    refine RunL.nil ?_
    refine Run.seq ?_
    refine Run.seq ?_
    refine Run.region ?_
    refine RunL.call cal15 rfl (s15) rfl (fun vx1 Ax1 hx1 => ?_)
    obtain ⟨x2, ⟨rfl, rfl⟩⟩ := hx1
    refine RunL.ok (OpOk.not rfl) rfl ?_
    refine RunL.ok (OpOk.move rfl) rfl ?_
    refine RunL.on rfl rfl ?_
    refine RunL.ok (OpOk.move rfl) rfl ?_
    refine RunL.on rfl rfl ?_
    refine RunL.ok (OpOk.lenR rfl rfl rd.left rfl) rfl ?_
    refine RunL.on rfl rfl ?_
    refine RunL.ok (OpOk.gtr rfl rfl) rfl ?_
    refine RunL.ok (OpOk.pickF rfl rfl) rfl ?_
    refine RunL.ok (OpOk.move rfl) rfl ?_
    refine RunL.splitD (t := 21) rfl (fun x3 => ?_) (fun x3 => ?_)
    · refine RunL.off rfl rfl rfl rfl ?_
      refine RunL.off rfl rfl rfl rfl ?_
      refine RunL.off rfl rfl rfl rfl ?_
      refine RunL.ok (OpOk.pickT rfl rfl) rfl ?_
      refine RunL.nil ?_
      refine Run.condT rfl ?_
      refine Run.seq ?_
      refine Run.region ?_
      refine RunL.call cal15 rfl (s15) rfl (fun vx4 Ax4 hx4 => ?_)
      obtain ⟨x5, ⟨rfl, rfl⟩⟩ := hx4
      refine RunL.ok (OpOk.assign rfl) rfl ?_
      refine RunL.nil ?_
      refine Run.ret1 Try.func5 rfl rfl ?_
      exact ⟨rfl, ⟨_, (asg as1)⟩⟩
    refine RunL.on rfl rfl ?_
    refine RunL.ok (OpOk.move rfl) rfl ?_
    refine RunL.on rfl rfl ?_
    refine RunL.ok (OpOk.lenR rfl rfl rd2.left rfl) rfl ?_
    refine RunL.on rfl rfl ?_
    refine RunL.ok (OpOk.gtr rfl rfl) rfl ?_
    refine RunL.ok (OpOk.pickF rfl rfl) rfl ?_
    refine RunL.nil ?_
    refine Run.condD rfl (fun x6 => ?_) (fun x6 => ?_)
    · refine Run.seq ?_
      refine Run.region ?_
      refine RunL.call cal15 rfl (s15) rfl (fun vx7 Ax7 hx7 => ?_)
      obtain ⟨x8, ⟨rfl, rfl⟩⟩ := hx7
      refine RunL.ok (OpOk.assign rfl) rfl ?_
      refine RunL.nil ?_
      refine Run.ret1 Try.func5 rfl rfl ?_
      exact ⟨rfl, ⟨_, (asg as1)⟩⟩
    refine Run.skip ?_
    refine Run.seq ?_
    refine Run.region ?_
    refine RunL.ok (OpOk.move rfl) rfl ?_
    refine RunL.ok (OpOk.lenR rfl rfl rd.left rfl) rfl ?_
    refine RunL.ok (OpOk.assign rfl) rfl ?_
    refine RunL.nil ?_
    refine Run.seq ?_
    refine Run.seq ?_
    refine Run.region ?_
    refine RunL.ok (OpOk.move rfl) rfl ?_
    refine RunL.ok (OpOk.asF (OpOk.geq rfl rfl) (by omega)) rfl ?_
    refine RunL.ok (OpOk.move rfl) rfl ?_
    refine RunL.off rfl rfl rfl rfl ?_
    refine RunL.off rfl rfl rfl rfl ?_
    refine RunL.off rfl rfl rfl rfl ?_
    refine RunL.off rfl rfl rfl rfl ?_
    refine RunL.ok (OpOk.pickF rfl rfl) rfl ?_
    refine RunL.nil ?_
    refine Run.condF rfl ?_
    refine Run.skip ?_
    refine Run.seq ?_
    (apply Run.drawD [] (by rfl) (sep_emp _).symm; case hchk => kernel_rfl)
    refine Sd.quiet 0 _ _ rfl rfl rfl rfl rfl (QOp.ok (fun X => OpOk.move rfl)) ?_
    refine Sd.quiet 2 _ _ rfl rfl rfl rfl rfl (QOp.ok (fun X => OpOk.move rfl)) ?_
    refine Sd.quiet 3 _ _ rfl rfl rfl rfl rfl (QOp.ok (fun X => OpOk.move rfl)) ?_
    refine Sd.quiet 4 _ _ rfl rfl rfl rfl rfl (QOp.ok (fun X => OpOk.move rfl)) ?_
    refine Sd.quiet 5 _ _ rfl rfl rfl rfl rfl (QOp.ok (fun X => OpOk.cutM0 rfl ti5 rfl rd.left.left.left ⟨_, rfl⟩ ⟨_, rfl⟩ (by omega))) ?_
    (refine Sd.exec 1 rfl rfl rfl rfl rfl ?hrest (by rfl) (fun Xx9 Kx9 hKx9 => ?_); case hrest => kernel_rfl)
    refine RunL.mem (fl2 (sep_emp _) (sep_emp _)) ?_
    refine RunL.call cal21 rfl (s21 rd.left.left (by omega)) rfl (fun vx10 Ax10 hx10 => ?_)
    obtain ⟨x11, ⟨x12, ⟨rfl, rfl⟩⟩⟩ := hx10
    refine RunL.know (fun w s => (s.conv rfl).ownRd0) (fun rdx13 => ?_)
    refine Sd.ret hKx9 (Eq.trans rfl (gp2 (sep_emp _).symm (asg rfl))) ⟨_, (emp_sep _).symm⟩ ?_
    refine Sd.quiet 7 _ _ rfl rfl rfl rfl rfl (QOp.ok (fun X => OpOk.assign rfl)) ?_
    (refine Sd.exec 6 rfl rfl rfl rfl rfl ?hrest (by rfl) (fun Xx14 Kx14 hKx14 => ?_); case hrest => kernel_rfl)
    refine RunL.mem (fl2 (flS rfl) (sep_emp _)) ?_
    refine RunL.call cal21 rfl (s21 rdk.left.left.left.left (by omega)) rfl (fun vx15 Ax15 hx15 => ?_)
    obtain ⟨x16, ⟨x17, ⟨rfl, rfl⟩⟩⟩ := hx15
    refine RunL.know (fun w s => (s.conv rfl).ownRd0) (fun rdx18 => ?_)
    refine Sd.ret hKx14 (Eq.trans rfl (gp2 (sep_emp _).symm (asg (asg (asg rfl))))) ⟨_, (asg rfl)⟩ ?_
    refine Sd.quiet 8 _ _ rfl rfl rfl rfl rfl (QOp.ok (fun X => OpOk.assign rfl)) ?_
    (apply Sd.tail; case hall => kernel_rfl)
    refine RunL.mem (fl2 (flS (flS (flS rfl))) (sep_emp _)) ?_
    refine RunL.nil ?_
    refine Run.seq ?_
    refine Run.seq ?_
    refine Run.region ?_
    refine RunL.ok (OpOk.move rfl) rfl ?_
    refine RunL.ok (OpOk.eqlPN rfl rfl) rfl ?_
    refine RunL.ok (OpOk.move rfl) rfl ?_
    refine RunL.on rfl rfl ?_
    refine RunL.ok (OpOk.move rfl) rfl ?_
    refine RunL.on rfl rfl ?_
    refine RunL.ok (OpOk.eqlPN rfl rfl) rfl ?_
    refine RunL.ok (OpOk.pickF rfl rfl) rfl ?_
    refine RunL.nil ?_
    refine Run.condF rfl ?_
    refine Run.skip ?_
    refine Run.seq ?_
    refine Run.seq ?_
    refine Run.region ?_
    refine RunL.ok (OpOk.assign rfl) rfl ?_
    refine RunL.nil ?_
    refine Run.block ?_
    refine Run.jump ((Run.loopJ (X := Nat × Asn) (fun x => [(10, .int .i64 x.1), (9, .pointer (some ⟨x16, 0, none⟩)), (8, .pointer (some ⟨x11, 0, none⟩)), (1, u2)]) (fun x => old w0 * x.2 * pts x11 (.cells #[x12, .int .i64 ((widthsN (ws.take x.1) : Nat) : Int), .int .i64 (0)] 81 (0, 0)) * own 5 1 x12 (xs).length (B (xs)) * pts x16 (.cells #[x17, .int .i64 ((widthsN (ws.take x.1) : Nat) : Int), .int .i64 (0)] 81 (0, 0)) * own 5 1 x17 (xs.take xs.length).length (B (xs.take xs.length))) (fun x => x.1 ≤ ws.length ∧ widthsN (ws.take x.1) ≤ 8 * xs.length) (fun x => ws.length - x.1) (0, x2) ⟨Nat.zero_le _, Nat.zero_le _⟩ (fun x hx ih => ?_))) ⟨rfl, rfl, rfl, rfl, trivial⟩ (Grew.of (frc rfl (frc rfl (frc rfl (frc rfl rfl)))) (Grew.refl _))
    obtain ⟨i, J⟩ := x
    simp only at hx ih ⊢
    obtain ⟨hi, ha⟩ := hx
    rcases Nat.lt_or_ge i ws.length with hlt | hge
    · have hw : widthsN (ws.take (i + 1)) = widthsN (ws.take i) + (ws.getD i default).toNat := by rw [take_next hlt, widthsN_append]; simp [widthsN]
      have hd : ws.getD i 0 = ws.getD i default := rfl
      generalize ha1 : widthsN (ws.take i) = a at *
      rcases Decidable.em (ws.getD i default < 1 ∨ 32 < ws.getD i default) with hbad | hbad
      · rcases Int.lt_or_le (ws.getD i default) 1 with hc | hc
        · refine Run.seq ?_
          refine Run.seq ?_
          refine Run.region ?_
          refine RunL.ok (OpOk.move rfl) rfl ?_
          refine RunL.ok (OpOk.move rfl) rfl ?_
          refine RunL.ok (OpOk.lenR rfl rfl rd2.left.left.left.left.left rfl) rfl ?_
          refine RunL.ok (OpOk.asT (OpOk.lss rfl rfl) (by omega)) rfl ?_
          refine RunL.nil ?_
          refine Run.condT rfl ?_
          refine Run.skip ?_
          refine Run.seq ?_
          refine Run.block ?_
          refine Run.seq ?_
          refine Run.seq ?_
          refine Run.region ?_
          refine RunL.ok (OpOk.move rfl) rfl ?_
          refine RunL.ok (OpOk.move rfl) rfl ?_
          refine RunL.ok (OpOk.idx1N rfl ti3 rfl rd2.left.left.left.left.left rfl (by omega)) rfl ?_
          refine RunL.ok (OpOk.load rfl rfl rfl (Rd.getIE (by assumption) rd2.left.left.left.left.left (by omega))) rfl ?_
          refine RunL.ok (OpOk.asT (OpOk.lss rfl rfl) (by omega)) rfl ?_
          refine RunL.ok (OpOk.move rfl) rfl ?_
          refine RunL.off rfl rfl rfl rfl ?_
          refine RunL.off rfl rfl rfl rfl ?_
          refine RunL.off rfl rfl rfl rfl ?_
          refine RunL.off rfl rfl rfl rfl ?_
          refine RunL.off rfl rfl rfl rfl ?_
          refine RunL.ok (OpOk.pickT rfl rfl) rfl ?_
          refine RunL.nil ?_
          refine Run.condT rfl ?_
          refine Run.seq ?_
          refine Run.region ?_
          refine RunL.ok (OpOk.assign rfl) rfl ?_
          refine RunL.nil ?_
          refine Run.ret1 Try.func5 rfl rfl ?_
          exact ⟨rfl, ⟨_, (asg (asg (asg (asg as1))))⟩⟩
        · refine Run.seq ?_
          refine Run.seq ?_
          refine Run.region ?_
          refine RunL.ok (OpOk.move rfl) rfl ?_
          refine RunL.ok (OpOk.move rfl) rfl ?_
          refine RunL.ok (OpOk.lenR rfl rfl rd2.left.left.left.left.left rfl) rfl ?_
          refine RunL.ok (OpOk.asT (OpOk.lss rfl rfl) (by omega)) rfl ?_
          refine RunL.nil ?_
          refine Run.condT rfl ?_
          refine Run.skip ?_
          refine Run.seq ?_
          refine Run.block ?_
          refine Run.seq ?_
          refine Run.seq ?_
          refine Run.region ?_
          refine RunL.ok (OpOk.move rfl) rfl ?_
          refine RunL.ok (OpOk.move rfl) rfl ?_
          refine RunL.ok (OpOk.idx1N rfl ti3 rfl rd2.left.left.left.left.left rfl (by omega)) rfl ?_
          refine RunL.ok (OpOk.load rfl rfl rfl (Rd.getIE (by assumption) rd2.left.left.left.left.left (by omega))) rfl ?_
          refine RunL.ok (OpOk.asF (OpOk.lss rfl rfl) (by omega)) rfl ?_
          refine RunL.ok (OpOk.move rfl) rfl ?_
          refine RunL.on rfl rfl ?_
          refine RunL.ok (OpOk.move rfl) rfl ?_
          refine RunL.on rfl rfl ?_
          refine RunL.ok (OpOk.move rfl) rfl ?_
          refine RunL.on rfl rfl ?_
          refine RunL.ok (OpOk.idx1N rfl ti3 rfl rd2.left.left.left.left.left rfl (by omega)) rfl ?_
          refine RunL.on rfl rfl ?_
          refine RunL.ok (OpOk.load rfl rfl rfl (Rd.getIE (by assumption) rd2.left.left.left.left.left (by omega))) rfl ?_
          refine RunL.on rfl rfl ?_
          refine RunL.ok (OpOk.asT (OpOk.gtr rfl rfl) (by omega)) rfl ?_
          refine RunL.ok (OpOk.pickF rfl rfl) rfl ?_
          refine RunL.nil ?_
          refine Run.condT rfl ?_
          refine Run.seq ?_
          refine Run.region ?_
          refine RunL.ok (OpOk.assign rfl) rfl ?_
          refine RunL.nil ?_
          refine Run.ret1 Try.func5 rfl rfl ?_
          exact ⟨rfl, ⟨_, (asg (asg (asg (asg as1))))⟩⟩
      · have hb : badW (ws.getD i default) = false := by simp only [badW, decide_eq_false_iff_not]; exact hbad
        rcases Nat.lt_or_ge (8 * xs.length - a) (ws.getD i default).toNat with hs | hs
        · obtain ⟨g1, g2, g3⟩ := take1_short (xs := xs.take xs.length) (a := a) hb (by omega)
          have g4 := congrArg List.length g2
          simp only [List.length_nil] at g4
          refine Run.seq ?_
          refine Run.seq ?_
          refine Run.region ?_
          refine RunL.ok (OpOk.move rfl) rfl ?_
          refine RunL.ok (OpOk.move rfl) rfl ?_
          refine RunL.ok (OpOk.lenR rfl rfl rd2.left.left.left.left.left rfl) rfl ?_
          refine RunL.ok (OpOk.asT (OpOk.lss rfl rfl) (by omega)) rfl ?_
          refine RunL.nil ?_
          refine Run.condT rfl ?_
          refine Run.skip ?_
          refine Run.seq ?_
          refine Run.block ?_
          refine Run.seq ?_
          refine Run.seq ?_
          refine Run.region ?_
          refine RunL.ok (OpOk.move rfl) rfl ?_
          refine RunL.ok (OpOk.move rfl) rfl ?_
          refine RunL.ok (OpOk.idx1N rfl ti3 rfl rd2.left.left.left.left.left rfl (by omega)) rfl ?_
          refine RunL.ok (OpOk.load rfl rfl rfl (Rd.getIE (by assumption) rd2.left.left.left.left.left (by omega))) rfl ?_
          refine RunL.ok (OpOk.asF (OpOk.lss rfl rfl) (by omega)) rfl ?_
          refine RunL.ok (OpOk.move rfl) rfl ?_
          refine RunL.on rfl rfl ?_
          refine RunL.ok (OpOk.move rfl) rfl ?_
          refine RunL.on rfl rfl ?_
          refine RunL.ok (OpOk.move rfl) rfl ?_
          refine RunL.on rfl rfl ?_
          refine RunL.ok (OpOk.idx1N rfl ti3 rfl rd2.left.left.left.left.left rfl (by omega)) rfl ?_
          refine RunL.on rfl rfl ?_
          refine RunL.ok (OpOk.load rfl rfl rfl (Rd.getIE (by assumption) rd2.left.left.left.left.left (by omega))) rfl ?_
          refine RunL.on rfl rfl ?_
          refine RunL.ok (OpOk.asF (OpOk.gtr rfl rfl) (by omega)) rfl ?_
          refine RunL.ok (OpOk.pickF rfl rfl) rfl ?_
          refine RunL.nil ?_
          refine Run.condF rfl ?_
          refine Run.skip ?_
          refine Run.seq ?_
          (apply Run.drawD [] (by rfl) (Eq.trans rfl (asg rfl)); case hchk => kernel_rfl)
          refine Sd.quiet 0 _ _ rfl rfl rfl rfl rfl (QOp.ok (fun X => OpOk.move rfl)) ?_
          refine Sd.quiet 2 _ _ rfl rfl rfl rfl rfl (QOp.ok (fun X => OpOk.move rfl)) ?_
          refine Sd.quiet 3 _ _ rfl rfl rfl rfl rfl (QOp.ok (fun X => OpOk.move rfl)) ?_
          refine Sd.quiet 4 _ _ rfl rfl rfl rfl rfl (QOp.ok (fun X => OpOk.idx1N rfl ti3 rfl rd2.left.left.left.left.left rfl (by omega))) ?_
          refine Sd.quiet 5 _ _ rfl rfl rfl rfl rfl (QOp.ok (fun X => OpOk.load rfl rfl rfl (Rd.getIE (by assumption) rd2.left.left.left.left.left (by omega)))) ?_
          (refine Sd.exec 1 rfl rfl rfl rfl rfl ?hrest (by rfl) (fun Xy1 Ky1 hKy1 => ?_); case hrest => kernel_rfl)
          refine RunL.mem (fl2 (sep_emp _) (flS rfl)) ?_
          refine RunL.call cal26 rfl (s26 (by omega) (by omega)) rfl (fun vy2 Ay2 hy2 => ?_)
          obtain ⟨rfl, rfl⟩ := hy2
          refine Sd.ret hKy1 (Eq.trans rfl (gp2 (sep_emp _).symm (asg rfl))) ⟨_, (emp_sep _).symm⟩ ?_
          refine Sd.quiet 6 _ _ rfl rfl rfl rfl rfl (QOp.ok (fun X => OpOk.asF (OpOk.geq rfl rfl) (by omega))) ?_
          refine Sd.quiet 7 _ _ rfl rfl rfl rfl rfl (QOp.ok (fun X => OpOk.assign rfl)) ?_
          (apply Sd.tail; case hall => kernel_rfl)
          refine RunL.mem (fl2 (flS rfl) (sep_emp _)) ?_
          refine RunL.nil ?_
          refine Run.seq ?_
          (apply Run.drawD [] (by rfl) (Eq.trans rfl (asg (asg (asg rfl)))); case hchk => kernel_rfl)
          refine Sd.quiet 0 _ _ rfl rfl rfl rfl rfl (QOp.ok (fun X => OpOk.move rfl)) ?_
          refine Sd.quiet 1 _ _ rfl rfl rfl rfl rfl (QOp.ok (fun X => OpOk.move rfl)) ?_
          refine Sd.quiet 2 _ _ rfl rfl rfl rfl rfl (QOp.ok (fun X => OpOk.move rfl)) ?_
          refine Sd.quiet 3 _ _ rfl rfl rfl rfl rfl (QOp.ok (fun X => OpOk.idx1N rfl ti3 rfl rd2.left.left.left rfl (by omega))) ?_
          refine Sd.quiet 4 _ _ rfl rfl rfl rfl rfl (QOp.ok (fun X => OpOk.load rfl rfl rfl (Rd.getIE (by assumption) rd2.left.left.left (by omega)))) ?_
          refine Sd.quiet 7 _ _ rfl rfl rfl rfl rfl (QOp.ok (fun X => OpOk.move rfl)) ?_
          refine Sd.quiet 8 _ _ rfl rfl rfl rfl rfl (QOp.ok (fun X => OpOk.move rfl)) ?_
          refine Sd.quiet 9 _ _ rfl rfl rfl rfl rfl (QOp.ok (fun X => OpOk.move rfl)) ?_
          refine Sd.quiet 10 _ _ rfl rfl rfl rfl rfl (QOp.ok (fun X => OpOk.idx1N rfl ti3 rfl rd2.left.left.left rfl (by omega))) ?_
          refine Sd.quiet 11 _ _ rfl rfl rfl rfl rfl (QOp.ok (fun X => OpOk.load rfl rfl rfl (Rd.getIE (by assumption) rd2.left.left.left (by omega)))) ?_
          apply Sd.make 12 (by rfl) (by rfl) (by rfl) (by rfl) (by rfl) (by rfl)
          case h =>
            intro Xy5 Ky5 hKy5
            refine RunL.mem (sep_emp _) ?_
            refine RunL.litI (xs := [ws.getD i default]) rfl ti3 rfl rfl rfl (by decide) rfl (fun vy6 rdy6 => ?_)
            exact RunL.mem (Eq.trans rfl (gp2 rfl (sep_emp _).symm)) (hKy5 _)
          (refine Sd.exec 5 rfl rfl rfl rfl rfl ?hrest (by rfl) (fun Xy8 Ky8 hKy8 => ?_); case hrest => kernel_rfl)
          refine RunL.mem (fl2 (sep_emp _) (flS (flS (flS rfl)))) ?_
          refine RunL.litI (xs := [ws.getD i default]) rfl ti3 rfl rfl rfl (by decide) rfl (fun vy9 rdy9 => ?_)
          refine RunL.know (fun w s => (s.conv rfl).ownRd0) (fun rdy10 => ?_)
          refine Sd.ret hKy8 (Eq.trans (frc (frl rfl) (frc (frl rfl) (frc (frl rfl) (frc (frl rfl) rfl)))) (gp2 (asg (asg (asg rfl))) rfl)) ⟨_, (emp_sep _).symm⟩ ?_
          (refine Sd.exec 6 rfl rfl rfl rfl rfl ?hrest (by rfl) (fun Xy12 Ky12 hKy12 => ?_); case hrest => kernel_rfl)
          refine RunL.mem (fl2 rfl (flS (flS (flS rfl)))) ?_
          refine RunL.mem (frc (frl (frl rfl)) (frc (frl (frl rfl)) rfl)) ?_
          refine RunL.call cal23 rfl (s23 (Rd.right rdy10).left.left (by omega) (by assumption) (by omega)) rfl (fun vy13 Ay13 hy13 => ?_)
          obtain rfl := hy13
          refine RunL.know (fun w s => (s.conv rfl).ownRd0) (fun rdy14 => ?_)
          refine Sd.ret hKy12 (Eq.trans (frc (frl (frl (frl rfl))) (frc (frl (frl (frl rfl))) rfl)) (gp2 (asg rfl) (asg (asg (asg rfl))))) ⟨_, (asg (asg rfl))⟩ ?_
          refine Sd.quiet 14 _ _ rfl rfl rfl rfl rfl (QOp.ok (fun X => OpOk.assign rfl)) ?_
          (refine Sd.take 12 _ ?hrest (fun vy15 hvy15 => ?_); case hrest => kernel_rfl)
          have rdy15 := rdOf hvy15
          (refine Sd.exec 13 rfl rfl rfl rfl rfl ?hrest (by rfl) (fun Xy16 Ky16 hKy16 => ?_); case hrest => kernel_rfl)
          refine RunL.mem (fl2 (flS (flS (flS (flS rfl)))) (flS rfl)) ?_
          refine RunL.call cal23 rfl (s23 (Rd.right rdy15) (by omega) (by omega) (by omega)) rfl (fun vy17 Ay17 hy17 => ?_)
          obtain rfl := hy17
          refine RunL.know (fun w s => (s.conv rfl).ownRd0) (fun rdy18 => ?_)
          refine Sd.ret hKy16 (Eq.trans rfl (gp2 (sep_emp _).symm (asg (asg (asg (asg (asg (asg (asg rfl))))))))) ⟨_, (asg (asg rfl))⟩ ?_
          refine Sd.quiet 15 _ _ rfl rfl rfl rfl rfl (QOp.ok (fun X => OpOk.assign rfl)) ?_
          (apply Sd.tail; case hall => kernel_rfl)
          refine RunL.mem (fl2 (flS (flS (flS (flS (flS (flS (flS rfl))))))) (sep_emp _)) ?_
          refine RunL.nil ?_
          refine Run.seq ?_
          refine Run.seq ?_
          refine Run.region ?_
          refine RunL.ok (OpOk.move rfl) rfl ?_
          refine RunL.ok (OpOk.not rfl) rfl ?_
          refine RunL.nil ?_
          refine Run.condT rfl ?_
          refine Run.seq ?_
          refine Run.region ?_
          refine RunL.ok (OpOk.move rfl) rfl ?_
          refine RunL.ok (OpOk.lenR rfl rfl (Rd.right rdy18) rfl) rfl ?_
          refine RunL.ok (OpOk.asT (OpOk.eql rfl rfl) (by omega)) rfl ?_
          refine RunL.ok (OpOk.move rfl) rfl ?_
          refine RunL.on rfl rfl ?_
          refine RunL.ok (OpOk.move rfl) rfl ?_
          refine RunL.on rfl rfl ?_
          refine RunL.mem (frc (frl rfl) (frc (frl rfl) rfl)) ?_
          refine RunL.call cal25 rfl (s25) rfl (fun vy19 Ay19 hy19 => ?_)
          obtain ⟨rfl, rfl⟩ := hy19
          refine RunL.on rfl rfl ?_
          refine RunL.ok (OpOk.asT (OpOk.eql rfl rfl) (by omega)) rfl ?_
          refine RunL.ok (OpOk.pickT rfl rfl) rfl ?_
          refine RunL.ok (OpOk.assign rfl) rfl ?_
          refine RunL.nil ?_
          refine Run.ret1 Try.func5 rfl rfl ?_
          exact ⟨rfl, ⟨_, (asg (asg (asg (asg (asg (asg (asg (asg as1))))))))⟩⟩
        · obtain ⟨g1, g2, g3⟩ := take1_ok (xs := xs.take xs.length) (a := a) hb (by omega)
          obtain ⟨e1, e2, e3⟩ := take1_ok (xs := xs) (a := a) hb (by omega)
          have hnn := numAt_take (xs := xs) (k := xs.length) (a := a) (w := (ws.getD i default).toNat) (by omega)
          have g4 := congrArg List.length g2
          have e4 := congrArg List.length e2
          have g5 : (takeL (xs.take xs.length) a 0 [ws.getD i default]).getD (Int.toNat 0) 0 = (takeL xs a 0 [ws.getD i default]).getD (Int.toNat 0) 0 := by rw [g2, e2, hnn]
          simp only [List.length_singleton] at g4 e4
          refine Run.seq ?_
          refine Run.seq ?_
          refine Run.region ?_
          refine RunL.ok (OpOk.move rfl) rfl ?_
          refine RunL.ok (OpOk.move rfl) rfl ?_
          refine RunL.ok (OpOk.lenR rfl rfl rd2.left.left.left.left.left rfl) rfl ?_
          refine RunL.ok (OpOk.asT (OpOk.lss rfl rfl) (by omega)) rfl ?_
          refine RunL.nil ?_
          refine Run.condT rfl ?_
          refine Run.skip ?_
          refine Run.seq ?_
          refine Run.block ?_
          refine Run.seq ?_
          refine Run.seq ?_
          refine Run.region ?_
          refine RunL.ok (OpOk.move rfl) rfl ?_
          refine RunL.ok (OpOk.move rfl) rfl ?_
          refine RunL.ok (OpOk.idx1N rfl ti3 rfl rd2.left.left.left.left.left rfl (by omega)) rfl ?_
          refine RunL.ok (OpOk.load rfl rfl rfl (Rd.getIE (by assumption) rd2.left.left.left.left.left (by omega))) rfl ?_
          refine RunL.ok (OpOk.asF (OpOk.lss rfl rfl) (by omega)) rfl ?_
          refine RunL.ok (OpOk.move rfl) rfl ?_
          refine RunL.on rfl rfl ?_
          refine RunL.ok (OpOk.move rfl) rfl ?_
          refine RunL.on rfl rfl ?_
          refine RunL.ok (OpOk.move rfl) rfl ?_
          refine RunL.on rfl rfl ?_
          refine RunL.ok (OpOk.idx1N rfl ti3 rfl rd2.left.left.left.left.left rfl (by omega)) rfl ?_
          refine RunL.on rfl rfl ?_
          refine RunL.ok (OpOk.load rfl rfl rfl (Rd.getIE (by assumption) rd2.left.left.left.left.left (by omega))) rfl ?_
          refine RunL.on rfl rfl ?_
          refine RunL.ok (OpOk.asF (OpOk.gtr rfl rfl) (by omega)) rfl ?_
          refine RunL.ok (OpOk.pickF rfl rfl) rfl ?_
          refine RunL.nil ?_
          refine Run.condF rfl ?_
          refine Run.skip ?_
          refine Run.seq ?_
          (apply Run.drawD [] (by rfl) (Eq.trans rfl (asg rfl)); case hchk => kernel_rfl)
          refine Sd.quiet 0 _ _ rfl rfl rfl rfl rfl (QOp.ok (fun X => OpOk.move rfl)) ?_
          refine Sd.quiet 2 _ _ rfl rfl rfl rfl rfl (QOp.ok (fun X => OpOk.move rfl)) ?_
          refine Sd.quiet 3 _ _ rfl rfl rfl rfl rfl (QOp.ok (fun X => OpOk.move rfl)) ?_
          refine Sd.quiet 4 _ _ rfl rfl rfl rfl rfl (QOp.ok (fun X => OpOk.idx1N rfl ti3 rfl rd2.left.left.left.left.left rfl (by omega))) ?_
          refine Sd.quiet 5 _ _ rfl rfl rfl rfl rfl (QOp.ok (fun X => OpOk.load rfl rfl rfl (Rd.getIE (by assumption) rd2.left.left.left.left.left (by omega)))) ?_
          (refine Sd.exec 1 rfl rfl rfl rfl rfl ?hrest (by rfl) (fun Xy1 Ky1 hKy1 => ?_); case hrest => kernel_rfl)
          refine RunL.mem (fl2 (sep_emp _) (flS rfl)) ?_
          refine RunL.call cal26 rfl (s26 (by omega) (by omega)) rfl (fun vy2 Ay2 hy2 => ?_)
          obtain ⟨rfl, rfl⟩ := hy2
          refine Sd.ret hKy1 (Eq.trans rfl (gp2 (sep_emp _).symm (asg rfl))) ⟨_, (emp_sep _).symm⟩ ?_
          refine Sd.quiet 6 _ _ rfl rfl rfl rfl rfl (QOp.ok (fun X => OpOk.asT (OpOk.geq rfl rfl) (by omega))) ?_
          refine Sd.quiet 7 _ _ rfl rfl rfl rfl rfl (QOp.ok (fun X => OpOk.assign rfl)) ?_
          (apply Sd.tail; case hall => kernel_rfl)
          refine RunL.mem (fl2 (flS rfl) (sep_emp _)) ?_
          refine RunL.nil ?_
          refine Run.seq ?_
          (apply Run.drawD [] (by rfl) (Eq.trans rfl (asg (asg (asg rfl)))); case hchk => kernel_rfl)
          refine Sd.quiet 0 _ _ rfl rfl rfl rfl rfl (QOp.ok (fun X => OpOk.move rfl)) ?_
          refine Sd.quiet 1 _ _ rfl rfl rfl rfl rfl (QOp.ok (fun X => OpOk.move rfl)) ?_
          refine Sd.quiet 2 _ _ rfl rfl rfl rfl rfl (QOp.ok (fun X => OpOk.move rfl)) ?_
          refine Sd.quiet 3 _ _ rfl rfl rfl rfl rfl (QOp.ok (fun X => OpOk.idx1N rfl ti3 rfl rd2.left.left.left rfl (by omega))) ?_
          refine Sd.quiet 4 _ _ rfl rfl rfl rfl rfl (QOp.ok (fun X => OpOk.load rfl rfl rfl (Rd.getIE (by assumption) rd2.left.left.left (by omega)))) ?_
          refine Sd.quiet 7 _ _ rfl rfl rfl rfl rfl (QOp.ok (fun X => OpOk.move rfl)) ?_
          refine Sd.quiet 8 _ _ rfl rfl rfl rfl rfl (QOp.ok (fun X => OpOk.move rfl)) ?_
          refine Sd.quiet 9 _ _ rfl rfl rfl rfl rfl (QOp.ok (fun X => OpOk.move rfl)) ?_
          refine Sd.quiet 10 _ _ rfl rfl rfl rfl rfl (QOp.ok (fun X => OpOk.idx1N rfl ti3 rfl rd2.left.left.left rfl (by omega))) ?_
          refine Sd.quiet 11 _ _ rfl rfl rfl rfl rfl (QOp.ok (fun X => OpOk.load rfl rfl rfl (Rd.getIE (by assumption) rd2.left.left.left (by omega)))) ?_
          apply Sd.make 12 (by rfl) (by rfl) (by rfl) (by rfl) (by rfl) (by rfl)
          case h =>
            intro Xy5 Ky5 hKy5
            refine RunL.mem (sep_emp _) ?_
            refine RunL.litI (xs := [ws.getD i default]) rfl ti3 rfl rfl rfl (by decide) rfl (fun vy6 rdy6 => ?_)
            exact RunL.mem (Eq.trans rfl (gp2 rfl (sep_emp _).symm)) (hKy5 _)
          (refine Sd.exec 5 rfl rfl rfl rfl rfl ?hrest (by rfl) (fun Xy8 Ky8 hKy8 => ?_); case hrest => kernel_rfl)
          refine RunL.mem (fl2 (sep_emp _) (flS (flS (flS rfl)))) ?_
          refine RunL.litI (xs := [ws.getD i default]) rfl ti3 rfl rfl rfl (by decide) rfl (fun vy9 rdy9 => ?_)
          refine RunL.know (fun w s => (s.conv rfl).ownRd0) (fun rdy10 => ?_)
          refine Sd.ret hKy8 (Eq.trans (frc (frl rfl) (frc (frl rfl) (frc (frl rfl) (frc (frl rfl) rfl)))) (gp2 (asg (asg (asg rfl))) rfl)) ⟨_, (emp_sep _).symm⟩ ?_
          (refine Sd.exec 6 rfl rfl rfl rfl rfl ?hrest (by rfl) (fun Xy12 Ky12 hKy12 => ?_); case hrest => kernel_rfl)
          refine RunL.mem (fl2 rfl (flS (flS (flS rfl)))) ?_
          refine RunL.mem (frc (frl (frl rfl)) (frc (frl (frl rfl)) rfl)) ?_
          refine RunL.call cal23 rfl (s23 (Rd.right rdy10).left.left (by omega) (by assumption) (by omega)) rfl (fun vy13 Ay13 hy13 => ?_)
          obtain rfl := hy13
          refine RunL.know (fun w s => (s.conv rfl).ownRd0) (fun rdy14 => ?_)
          refine Sd.ret hKy12 (Eq.trans (frc (frl (frl (frl rfl))) (frc (frl (frl (frl rfl))) rfl)) (gp2 (asg rfl) (asg (asg (asg rfl))))) ⟨_, (asg (asg rfl))⟩ ?_
          refine Sd.quiet 14 _ _ rfl rfl rfl rfl rfl (QOp.ok (fun X => OpOk.assign rfl)) ?_
          (refine Sd.take 12 _ ?hrest (fun vy15 hvy15 => ?_); case hrest => kernel_rfl)
          have rdy15 := rdOf hvy15
          (refine Sd.exec 13 rfl rfl rfl rfl rfl ?hrest (by rfl) (fun Xy16 Ky16 hKy16 => ?_); case hrest => kernel_rfl)
          refine RunL.mem (fl2 (flS (flS (flS (flS rfl)))) (flS rfl)) ?_
          refine RunL.call cal23 rfl (s23 (Rd.right rdy15) (by omega) (by omega) (by omega)) rfl (fun vy17 Ay17 hy17 => ?_)
          obtain rfl := hy17
          refine RunL.know (fun w s => (s.conv rfl).ownRd0) (fun rdy18 => ?_)
          refine Sd.ret hKy16 (Eq.trans rfl (gp2 (sep_emp _).symm (asg (asg (asg (asg (asg (asg (asg rfl))))))))) ⟨_, (asg (asg rfl))⟩ ?_
          refine Sd.quiet 15 _ _ rfl rfl rfl rfl rfl (QOp.ok (fun X => OpOk.assign rfl)) ?_
          (apply Sd.tail; case hall => kernel_rfl)
          refine RunL.mem (fl2 (flS (flS (flS (flS (flS (flS (flS rfl))))))) (sep_emp _)) ?_
          refine RunL.nil ?_
          refine Run.seq ?_
          refine Run.seq ?_
          refine Run.region ?_
          refine RunL.ok (OpOk.move rfl) rfl ?_
          refine RunL.ok (OpOk.not rfl) rfl ?_
          refine RunL.nil ?_
          refine Run.condF rfl ?_
          refine Run.skip ?_
          refine Run.seq ?_
          (apply Run.drawD [] (by rfl) (sep_emp _).symm; case hchk => kernel_rfl)
          refine Sd.quiet 0 _ _ rfl rfl rfl rfl rfl (QOp.ok (fun X => OpOk.move rfl)) ?_
          refine Sd.quiet 1 _ _ rfl rfl rfl rfl rfl (QOp.ok (fun X => OpOk.lenR rfl rfl (Rd.right rdy14).left.left.left.left.left.left rfl)) ?_
          refine Sd.quiet 2 _ _ rfl rfl rfl rfl rfl (QOp.ok (fun X => OpOk.as (c := false) (OpOk.neq rfl rfl) (by rw [decide_eq_true (by omega)]; rfl))) ?_
          refine Sd.quiet 3 _ _ rfl rfl rfl rfl rfl (QOp.ok (fun X => OpOk.move rfl)) ?_
          refine Sd.quiet 4 _ _ rfl rfl rfl rfl rfl (QOp.ok (fun X => OpOk.move rfl)) ?_
          refine Sd.quiet 5 _ _ rfl rfl rfl rfl rfl (QOp.ok (fun X => OpOk.lenR rfl rfl (Rd.right rdy18).left.left rfl)) ?_
          refine Sd.quiet 6 _ _ rfl rfl rfl rfl rfl (QOp.ok (fun X => OpOk.as (c := false) (OpOk.neq rfl rfl) (by rw [decide_eq_true (by omega)]; rfl))) ?_
          refine Sd.quiet 7 _ _ rfl rfl rfl rfl rfl (QOp.ok (fun X => OpOk.pickF rfl rfl)) ?_
          refine Sd.quiet 8 _ _ rfl rfl rfl rfl rfl (QOp.ok (fun X => OpOk.move rfl)) ?_
          refine Sd.quiet 9 _ _ rfl rfl rfl rfl rfl (QOp.ok (fun X => OpOk.move rfl)) ?_
          refine Sd.quiet 10 _ _ rfl rfl rfl rfl rfl (QOp.ok (fun X => OpOk.idx1 rfl ti3 rfl (Rd.right rdy14).left.left.left.left.left.left rfl (by omega) (by omega))) ?_
          refine Sd.quiet 11 _ _ rfl rfl rfl rfl rfl (QOp.ok (fun X => OpOk.load rfl rfl rfl (Rd.getI (Rd.right rdy14).left.left.left.left.left.left (by omega)))) ?_
          refine Sd.quiet 12 _ _ rfl rfl rfl rfl rfl (QOp.ok (fun X => OpOk.move rfl)) ?_
          refine Sd.quiet 13 _ _ rfl rfl rfl rfl rfl (QOp.ok (fun X => OpOk.idx1 rfl ti3 rfl (Rd.right rdy18).left.left rfl (by omega) (by omega))) ?_
          refine Sd.quiet 14 _ _ rfl rfl rfl rfl rfl (QOp.ok (fun X => OpOk.load rfl rfl rfl (Rd.getIE (by assumption) (Rd.right rdy18).left.left (by omega)))) ?_
          refine Sd.quiet 15 _ _ rfl rfl rfl rfl rfl (QOp.ok (fun X => OpOk.as (c := false) (OpOk.neq rfl rfl) (by rw [decide_eq_true (by omega)]; rfl))) ?_
          refine Sd.quiet 16 _ _ rfl rfl rfl rfl rfl (QOp.ok (fun X => OpOk.pickF rfl rfl)) ?_
          (apply Sd.tail; case hall => kernel_rfl)
          refine RunL.mem (fl2 (sep_emp _) (sep_emp _)) ?_
          refine RunL.nil ?_
          refine Run.condF rfl ?_
          refine Run.skip ?_
          refine Run.inBlock ?_
          refine Run.region ?_
          refine RunL.ok (OpOk.move rfl) rfl ?_
          refine RunL.ok (OpOk.addN _ 1 rfl rfl rfl rfl (by omega)) rfl ?_
          refine RunL.ok (OpOk.assign rfl) rfl ?_
          refine RunL.nil ?_
          rw [g1, g3, e1, e3, ← hw]
          refine Run.jump ((ih (i + 1, J) ⟨by simp; omega, by show widthsN (ws.take (i + 1)) ≤ 8 * xs.length; omega⟩ (by simp; omega))) ⟨rfl, rfl, rfl, rfl, trivial⟩ (Grew.of (frc rfl (frc (frl (frl rfl)) (frc (frl (frl rfl)) (frc (frl (frl (frl (frl rfl)))) rfl)))) (Grew.mul (Grew.mul (Grew.mul (Grew.mul (Grew.refl _) _) _) _) _))
    · obtain rfl : i = ws.length := by omega
      clear ih
      refine Run.seq ?_
      refine Run.seq ?_
      refine Run.region ?_
      refine RunL.ok (OpOk.move rfl) rfl ?_
      refine RunL.ok (OpOk.move rfl) rfl ?_
      refine RunL.ok (OpOk.lenR rfl rfl rd2.left.left.left.left.left rfl) rfl ?_
      refine RunL.ok (OpOk.asF (OpOk.lss rfl rfl) (by omega)) rfl ?_
      refine RunL.nil ?_
      refine Run.condF rfl ?_
      refine Run.exit rfl ?_
      refine Run.seq ?_
      refine Run.region ?_
      refine RunL.ok (OpOk.move rfl) rfl ?_
      refine RunL.call cal25 rfl (s25) rfl (fun vy1 Ay1 hy1 => ?_)
      obtain ⟨rfl, rfl⟩ := hy1
      refine RunL.ok (OpOk.asT (OpOk.eql rfl rfl) (by omega)) rfl ?_
      refine RunL.ok (OpOk.assign rfl) rfl ?_
      refine RunL.nil ?_
      refine Run.ret1 Try.func5 rfl rfl ?_
      exact ⟨rfl, ⟨_, (asg (asg (asg (asg as1))))⟩⟩
  · obtain ⟨c, rfl⟩ := Int.eq_ofNat_of_zero_le h0
    rcases Nat.lt_or_ge c xs.length with h1 | h1
    · have rdk := Rd.cutMB0 rd (Nat.le_of_lt h1) (Nat.le_refl _)
      have htk := List.length_take (i := c) (l := xs)
      refine Run.seq ?_
      refine Run.region ?_
      refine RunL.ok (OpOk.assign rfl) rfl ?_
      refine RunL.nil ?_
      refine Run.seq ?_
      refine Run.seq ?_
      refine Run.region ?_
      refine RunL.call cal15 rfl (s15) rfl (fun vx1 Ax1 hx1 => ?_)
      obtain ⟨x2, ⟨rfl, rfl⟩⟩ := hx1
      refine RunL.ok (OpOk.not rfl) rfl ?_
      refine RunL.ok (OpOk.move rfl) rfl ?_
      refine RunL.on rfl rfl ?_
      refine RunL.ok (OpOk.move rfl) rfl ?_
      refine RunL.on rfl rfl ?_
      refine RunL.ok (OpOk.lenR rfl rfl rd.left rfl) rfl ?_
      refine RunL.on rfl rfl ?_
      refine RunL.ok (OpOk.gtr rfl rfl) rfl ?_
      refine RunL.ok (OpOk.pickF rfl rfl) rfl ?_
      refine RunL.ok (OpOk.move rfl) rfl ?_
      refine RunL.splitD (t := 21) rfl (fun x3 => ?_) (fun x3 => ?_)
      · refine RunL.off rfl rfl rfl rfl ?_
        refine RunL.off rfl rfl rfl rfl ?_
        refine RunL.off rfl rfl rfl rfl ?_
        refine RunL.ok (OpOk.pickT rfl rfl) rfl ?_
        refine RunL.nil ?_
        refine Run.condT rfl ?_
        refine Run.seq ?_
        refine Run.region ?_
        refine RunL.call cal15 rfl (s15) rfl (fun vx4 Ax4 hx4 => ?_)
        obtain ⟨x5, ⟨rfl, rfl⟩⟩ := hx4
        refine RunL.ok (OpOk.assign rfl) rfl ?_
        refine RunL.nil ?_
        refine Run.ret1 Try.func5 rfl rfl ?_
        exact ⟨rfl, ⟨_, (asg as1)⟩⟩
      refine RunL.on rfl rfl ?_
      refine RunL.ok (OpOk.move rfl) rfl ?_
      refine RunL.on rfl rfl ?_
      refine RunL.ok (OpOk.lenR rfl rfl rd2.left rfl) rfl ?_
      refine RunL.on rfl rfl ?_
      refine RunL.ok (OpOk.gtr rfl rfl) rfl ?_
      refine RunL.ok (OpOk.pickF rfl rfl) rfl ?_
      refine RunL.nil ?_
      refine Run.condD rfl (fun x6 => ?_) (fun x6 => ?_)
      · refine Run.seq ?_
        refine Run.region ?_
        refine RunL.call cal15 rfl (s15) rfl (fun vx7 Ax7 hx7 => ?_)
        obtain ⟨x8, ⟨rfl, rfl⟩⟩ := hx7
        refine RunL.ok (OpOk.assign rfl) rfl ?_
        refine RunL.nil ?_
        refine Run.ret1 Try.func5 rfl rfl ?_
        exact ⟨rfl, ⟨_, (asg as1)⟩⟩
      refine Run.skip ?_
      refine Run.seq ?_
      refine Run.region ?_
      refine RunL.ok (OpOk.move rfl) rfl ?_
      refine RunL.ok (OpOk.lenR rfl rfl rd.left rfl) rfl ?_
      refine RunL.ok (OpOk.assign rfl) rfl ?_
      refine RunL.nil ?_
      refine Run.seq ?_
      refine Run.seq ?_
      refine Run.region ?_
      refine RunL.ok (OpOk.move rfl) rfl ?_
      refine RunL.ok (OpOk.asT (OpOk.geq rfl rfl) (by omega)) rfl ?_
      refine RunL.ok (OpOk.move rfl) rfl ?_
      refine RunL.on rfl rfl ?_
      refine RunL.ok (OpOk.move rfl) rfl ?_
      refine RunL.on rfl rfl ?_
      refine RunL.ok (OpOk.move rfl) rfl ?_
      refine RunL.on rfl rfl ?_
      refine RunL.ok (OpOk.lenR rfl rfl rd.left rfl) rfl ?_
      refine RunL.on rfl rfl ?_
      refine RunL.ok (OpOk.asT (OpOk.lss rfl rfl) (by omega)) rfl ?_
      refine RunL.ok (OpOk.pickT rfl rfl) rfl ?_
      refine RunL.nil ?_
      refine Run.condT rfl ?_
      refine Run.region ?_
      refine RunL.ok (OpOk.move rfl) rfl ?_
      refine RunL.ok (OpOk.assign rfl) rfl ?_
      refine RunL.nil ?_
      refine Run.seq ?_
      (apply Run.drawD [] (by rfl) (sep_emp _).symm; case hchk => kernel_rfl)
      refine Sd.quiet 0 _ _ rfl rfl rfl rfl rfl (QOp.ok (fun X => OpOk.move rfl)) ?_
      refine Sd.quiet 2 _ _ rfl rfl rfl rfl rfl (QOp.ok (fun X => OpOk.move rfl)) ?_
      refine Sd.quiet 3 _ _ rfl rfl rfl rfl rfl (QOp.ok (fun X => OpOk.move rfl)) ?_
      refine Sd.quiet 4 _ _ rfl rfl rfl rfl rfl (QOp.ok (fun X => OpOk.move rfl)) ?_
      refine Sd.quiet 5 _ _ rfl rfl rfl rfl rfl (QOp.ok (fun X => OpOk.cutM0 rfl ti5 rfl rd.left.left.left ⟨_, rfl⟩ ⟨_, rfl⟩ (by omega))) ?_
      (refine Sd.exec 1 rfl rfl rfl rfl rfl ?hrest (by rfl) (fun Xx9 Kx9 hKx9 => ?_); case hrest => kernel_rfl)
      refine RunL.mem (fl2 (sep_emp _) (sep_emp _)) ?_
      refine RunL.call cal21 rfl (s21 rd.left.left (by omega)) rfl (fun vx10 Ax10 hx10 => ?_)
      obtain ⟨x11, ⟨x12, ⟨rfl, rfl⟩⟩⟩ := hx10
      refine RunL.know (fun w s => (s.conv rfl).ownRd0) (fun rdx13 => ?_)
      refine Sd.ret hKx9 (Eq.trans rfl (gp2 (sep_emp _).symm (asg rfl))) ⟨_, (emp_sep _).symm⟩ ?_
      refine Sd.quiet 7 _ _ rfl rfl rfl rfl rfl (QOp.ok (fun X => OpOk.assign rfl)) ?_
      (refine Sd.exec 6 rfl rfl rfl rfl rfl ?hrest (by rfl) (fun Xx14 Kx14 hKx14 => ?_); case hrest => kernel_rfl)
      refine RunL.mem (fl2 (flS rfl) (sep_emp _)) ?_
      refine RunL.call cal21 rfl (s21 rdk.left.left.left.left (by omega)) rfl (fun vx15 Ax15 hx15 => ?_)
      obtain ⟨x16, ⟨x17, ⟨rfl, rfl⟩⟩⟩ := hx15
      refine RunL.know (fun w s => (s.conv rfl).ownRd0) (fun rdx18 => ?_)
      refine Sd.ret hKx14 (Eq.trans rfl (gp2 (sep_emp _).symm (asg (asg (asg rfl))))) ⟨_, (asg rfl)⟩ ?_
      refine Sd.quiet 8 _ _ rfl rfl rfl rfl rfl (QOp.ok (fun X => OpOk.assign rfl)) ?_
      (apply Sd.tail; case hall => kernel_rfl)
      refine RunL.mem (fl2 (flS (flS (flS rfl))) (sep_emp _)) ?_
      refine RunL.nil ?_
      refine Run.seq ?_
      refine Run.seq ?_
      refine Run.region ?_
      refine RunL.ok (OpOk.move rfl) rfl ?_
      refine RunL.ok (OpOk.eqlPN rfl rfl) rfl ?_
      refine RunL.ok (OpOk.move rfl) rfl ?_
      refine RunL.on rfl rfl ?_
      refine RunL.ok (OpOk.move rfl) rfl ?_
      refine RunL.on rfl rfl ?_
      refine RunL.ok (OpOk.eqlPN rfl rfl) rfl ?_
      refine RunL.ok (OpOk.pickF rfl rfl) rfl ?_
      refine RunL.nil ?_
      refine Run.condF rfl ?_
      refine Run.skip ?_
      refine Run.seq ?_
      refine Run.seq ?_
      refine Run.region ?_
      refine RunL.ok (OpOk.assign rfl) rfl ?_
      refine RunL.nil ?_
      refine Run.block ?_
      refine Run.jump ((Run.loopJ (X := Nat × Asn) (fun x => [(10, .int .i64 x.1), (9, .pointer (some ⟨x16, 0, none⟩)), (8, .pointer (some ⟨x11, 0, none⟩)), (1, u2)]) (fun x => old w0 * x.2 * pts x11 (.cells #[x12, .int .i64 ((widthsN (ws.take x.1) : Nat) : Int), .int .i64 (0)] 81 (0, 0)) * own 5 1 x12 (xs).length (B (xs)) * pts x16 (.cells #[x17, .int .i64 ((widthsN (ws.take x.1) : Nat) : Int), .int .i64 (0)] 81 (0, 0)) * own 5 1 x17 (xs.take c).length (B (xs.take c))) (fun x => x.1 ≤ ws.length ∧ widthsN (ws.take x.1) ≤ 8 * c) (fun x => ws.length - x.1) (0, x2) ⟨Nat.zero_le _, Nat.zero_le _⟩ (fun x hx ih => ?_))) ⟨rfl, rfl, rfl, rfl, trivial⟩ (Grew.of (frc rfl (frc rfl (frc rfl (frc rfl rfl)))) (Grew.refl _))
      obtain ⟨i, J⟩ := x
      simp only at hx ih ⊢
      obtain ⟨hi, ha⟩ := hx
      rcases Nat.lt_or_ge i ws.length with hlt | hge
      · have hw : widthsN (ws.take (i + 1)) = widthsN (ws.take i) + (ws.getD i default).toNat := by rw [take_next hlt, widthsN_append]; simp [widthsN]
        have hd : ws.getD i 0 = ws.getD i default := rfl
        generalize ha1 : widthsN (ws.take i) = a at *
        rcases Decidable.em (ws.getD i default < 1 ∨ 32 < ws.getD i default) with hbad | hbad
        · rcases Int.lt_or_le (ws.getD i default) 1 with hc | hc
          · refine Run.seq ?_
            refine Run.seq ?_
            refine Run.region ?_
            refine RunL.ok (OpOk.move rfl) rfl ?_
            refine RunL.ok (OpOk.move rfl) rfl ?_
            refine RunL.ok (OpOk.lenR rfl rfl rd2.left.left.left.left.left rfl) rfl ?_
            refine RunL.ok (OpOk.asT (OpOk.lss rfl rfl) (by omega)) rfl ?_
            refine RunL.nil ?_
            refine Run.condT rfl ?_
            refine Run.skip ?_
            refine Run.seq ?_
            refine Run.block ?_
            refine Run.seq ?_
            refine Run.seq ?_
            refine Run.region ?_
            refine RunL.ok (OpOk.move rfl) rfl ?_
            refine RunL.ok (OpOk.move rfl) rfl ?_
            refine RunL.ok (OpOk.idx1N rfl ti3 rfl rd2.left.left.left.left.left rfl (by omega)) rfl ?_
            refine RunL.ok (OpOk.load rfl rfl rfl (Rd.getIE (by assumption) rd2.left.left.left.left.left (by omega))) rfl ?_
            refine RunL.ok (OpOk.asT (OpOk.lss rfl rfl) (by omega)) rfl ?_
            refine RunL.ok (OpOk.move rfl) rfl ?_
            refine RunL.off rfl rfl rfl rfl ?_
            refine RunL.off rfl rfl rfl rfl ?_
            refine RunL.off rfl rfl rfl rfl ?_
            refine RunL.off rfl rfl rfl rfl ?_
            refine RunL.off rfl rfl rfl rfl ?_
            refine RunL.ok (OpOk.pickT rfl rfl) rfl ?_
            refine RunL.nil ?_
            refine Run.condT rfl ?_
            refine Run.seq ?_
            refine Run.region ?_
            refine RunL.ok (OpOk.assign rfl) rfl ?_
            refine RunL.nil ?_
            refine Run.ret1 Try.func5 rfl rfl ?_
            exact ⟨rfl, ⟨_, (asg (asg (asg (asg as1))))⟩⟩
          · refine Run.seq ?_
            refine Run.seq ?_
            refine Run.region ?_
            refine RunL.ok (OpOk.move rfl) rfl ?_
            refine RunL.ok (OpOk.move rfl) rfl ?_
            refine RunL.ok (OpOk.lenR rfl rfl rd2.left.left.left.left.left rfl) rfl ?_
            refine RunL.ok (OpOk.asT (OpOk.lss rfl rfl) (by omega)) rfl ?_
            refine RunL.nil ?_
            refine Run.condT rfl ?_
            refine Run.skip ?_
            refine Run.seq ?_
            refine Run.block ?_
            refine Run.seq ?_
            refine Run.seq ?_
            refine Run.region ?_
            refine RunL.ok (OpOk.move rfl) rfl ?_
            refine RunL.ok (OpOk.move rfl) rfl ?_
            refine RunL.ok (OpOk.idx1N rfl ti3 rfl rd2.left.left.left.left.left rfl (by omega)) rfl ?_
            refine RunL.ok (OpOk.load rfl rfl rfl (Rd.getIE (by assumption) rd2.left.left.left.left.left (by omega))) rfl ?_
            refine RunL.ok (OpOk.asF (OpOk.lss rfl rfl) (by omega)) rfl ?_
            refine RunL.ok (OpOk.move rfl) rfl ?_
            refine RunL.on rfl rfl ?_
            refine RunL.ok (OpOk.move rfl) rfl ?_
            refine RunL.on rfl rfl ?_
            refine RunL.ok (OpOk.move rfl) rfl ?_
            refine RunL.on rfl rfl ?_
            refine RunL.ok (OpOk.idx1N rfl ti3 rfl rd2.left.left.left.left.left rfl (by omega)) rfl ?_
            refine RunL.on rfl rfl ?_
            refine RunL.ok (OpOk.load rfl rfl rfl (Rd.getIE (by assumption) rd2.left.left.left.left.left (by omega))) rfl ?_
            refine RunL.on rfl rfl ?_
            refine RunL.ok (OpOk.asT (OpOk.gtr rfl rfl) (by omega)) rfl ?_
            refine RunL.ok (OpOk.pickF rfl rfl) rfl ?_
            refine RunL.nil ?_
            refine Run.condT rfl ?_
            refine Run.seq ?_
            refine Run.region ?_
            refine RunL.ok (OpOk.assign rfl) rfl ?_
            refine RunL.nil ?_
            refine Run.ret1 Try.func5 rfl rfl ?_
            exact ⟨rfl, ⟨_, (asg (asg (asg (asg as1))))⟩⟩
        · have hb : badW (ws.getD i default) = false := by simp only [badW, decide_eq_false_iff_not]; exact hbad
          rcases Nat.lt_or_ge (8 * c - a) (ws.getD i default).toNat with hs | hs
          · obtain ⟨g1, g2, g3⟩ := take1_short (xs := xs.take c) (a := a) hb (by omega)
            have g4 := congrArg List.length g2
            simp only [List.length_nil] at g4
            refine Run.seq ?_
            refine Run.seq ?_
            refine Run.region ?_
            refine RunL.ok (OpOk.move rfl) rfl ?_
            refine RunL.ok (OpOk.move rfl) rfl ?_
            refine RunL.ok (OpOk.lenR rfl rfl rd2.left.left.left.left.left rfl) rfl ?_
            refine RunL.ok (OpOk.asT (OpOk.lss rfl rfl) (by omega)) rfl ?_
            refine RunL.nil ?_
            refine Run.condT rfl ?_
            refine Run.skip ?_
            refine Run.seq ?_
            refine Run.block ?_
            refine Run.seq ?_
            refine Run.seq ?_
            refine Run.region ?_
            refine RunL.ok (OpOk.move rfl) rfl ?_
            refine RunL.ok (OpOk.move rfl) rfl ?_
            refine RunL.ok (OpOk.idx1N rfl ti3 rfl rd2.left.left.left.left.left rfl (by omega)) rfl ?_
            refine RunL.ok (OpOk.load rfl rfl rfl (Rd.getIE (by assumption) rd2.left.left.left.left.left (by omega))) rfl ?_
            refine RunL.ok (OpOk.asF (OpOk.lss rfl rfl) (by omega)) rfl ?_
            refine RunL.ok (OpOk.move rfl) rfl ?_
            refine RunL.on rfl rfl ?_
            refine RunL.ok (OpOk.move rfl) rfl ?_
            refine RunL.on rfl rfl ?_
            refine RunL.ok (OpOk.move rfl) rfl ?_
            refine RunL.on rfl rfl ?_
            refine RunL.ok (OpOk.idx1N rfl ti3 rfl rd2.left.left.left.left.left rfl (by omega)) rfl ?_
            refine RunL.on rfl rfl ?_
            refine RunL.ok (OpOk.load rfl rfl rfl (Rd.getIE (by assumption) rd2.left.left.left.left.left (by omega))) rfl ?_
            refine RunL.on rfl rfl ?_
            refine RunL.ok (OpOk.asF (OpOk.gtr rfl rfl) (by omega)) rfl ?_
            refine RunL.ok (OpOk.pickF rfl rfl) rfl ?_
            refine RunL.nil ?_
            refine Run.condF rfl ?_
            refine Run.skip ?_
            refine Run.seq ?_
            (apply Run.drawD [] (by rfl) (Eq.trans rfl (asg rfl)); case hchk => kernel_rfl)
            refine Sd.quiet 0 _ _ rfl rfl rfl rfl rfl (QOp.ok (fun X => OpOk.move rfl)) ?_
            refine Sd.quiet 2 _ _ rfl rfl rfl rfl rfl (QOp.ok (fun X => OpOk.move rfl)) ?_
            refine Sd.quiet 3 _ _ rfl rfl rfl rfl rfl (QOp.ok (fun X => OpOk.move rfl)) ?_
            refine Sd.quiet 4 _ _ rfl rfl rfl rfl rfl (QOp.ok (fun X => OpOk.idx1N rfl ti3 rfl rd2.left.left.left.left.left rfl (by omega))) ?_
            refine Sd.quiet 5 _ _ rfl rfl rfl rfl rfl (QOp.ok (fun X => OpOk.load rfl rfl rfl (Rd.getIE (by assumption) rd2.left.left.left.left.left (by omega)))) ?_
            (refine Sd.exec 1 rfl rfl rfl rfl rfl ?hrest (by rfl) (fun Xy1 Ky1 hKy1 => ?_); case hrest => kernel_rfl)
            refine RunL.mem (fl2 (sep_emp _) (flS rfl)) ?_
            refine RunL.call cal26 rfl (s26 (by omega) (by omega)) rfl (fun vy2 Ay2 hy2 => ?_)
            obtain ⟨rfl, rfl⟩ := hy2
            refine Sd.ret hKy1 (Eq.trans rfl (gp2 (sep_emp _).symm (asg rfl))) ⟨_, (emp_sep _).symm⟩ ?_
            refine Sd.quiet 6 _ _ rfl rfl rfl rfl rfl (QOp.ok (fun X => OpOk.asF (OpOk.geq rfl rfl) (by omega))) ?_
            refine Sd.quiet 7 _ _ rfl rfl rfl rfl rfl (QOp.ok (fun X => OpOk.assign rfl)) ?_
            (apply Sd.tail; case hall => kernel_rfl)
            refine RunL.mem (fl2 (flS rfl) (sep_emp _)) ?_
            refine RunL.nil ?_
            refine Run.seq ?_
            (apply Run.drawD [] (by rfl) (Eq.trans rfl (asg (asg (asg rfl)))); case hchk => kernel_rfl)
            refine Sd.quiet 0 _ _ rfl rfl rfl rfl rfl (QOp.ok (fun X => OpOk.move rfl)) ?_
            refine Sd.quiet 1 _ _ rfl rfl rfl rfl rfl (QOp.ok (fun X => OpOk.move rfl)) ?_
            refine Sd.quiet 2 _ _ rfl rfl rfl rfl rfl (QOp.ok (fun X => OpOk.move rfl)) ?_
            refine Sd.quiet 3 _ _ rfl rfl rfl rfl rfl (QOp.ok (fun X => OpOk.idx1N rfl ti3 rfl rd2.left.left.left rfl (by omega))) ?_
            refine Sd.quiet 4 _ _ rfl rfl rfl rfl rfl (QOp.ok (fun X => OpOk.load rfl rfl rfl (Rd.getIE (by assumption) rd2.left.left.left (by omega)))) ?_
            refine Sd.quiet 7 _ _ rfl rfl rfl rfl rfl (QOp.ok (fun X => OpOk.move rfl)) ?_
            refine Sd.quiet 8 _ _ rfl rfl rfl rfl rfl (QOp.ok (fun X => OpOk.move rfl)) ?_
            refine Sd.quiet 9 _ _ rfl rfl rfl rfl rfl (QOp.ok (fun X => OpOk.move rfl)) ?_
            refine Sd.quiet 10 _ _ rfl rfl rfl rfl rfl (QOp.ok (fun X => OpOk.idx1N rfl ti3 rfl rd2.left.left.left rfl (by omega))) ?_
            refine Sd.quiet 11 _ _ rfl rfl rfl rfl rfl (QOp.ok (fun X => OpOk.load rfl rfl rfl (Rd.getIE (by assumption) rd2.left.left.left (by omega)))) ?_
            apply Sd.make 12 (by rfl) (by rfl) (by rfl) (by rfl) (by rfl) (by rfl)
            case h =>
              intro Xy5 Ky5 hKy5
              refine RunL.mem (sep_emp _) ?_
              refine RunL.litI (xs := [ws.getD i default]) rfl ti3 rfl rfl rfl (by decide) rfl (fun vy6 rdy6 => ?_)
              exact RunL.mem (Eq.trans rfl (gp2 rfl (sep_emp _).symm)) (hKy5 _)
            (refine Sd.exec 5 rfl rfl rfl rfl rfl ?hrest (by rfl) (fun Xy8 Ky8 hKy8 => ?_); case hrest => kernel_rfl)
            refine RunL.mem (fl2 (sep_emp _) (flS (flS (flS rfl)))) ?_
            refine RunL.litI (xs := [ws.getD i default]) rfl ti3 rfl rfl rfl (by decide) rfl (fun vy9 rdy9 => ?_)
            refine RunL.know (fun w s => (s.conv rfl).ownRd0) (fun rdy10 => ?_)
            refine Sd.ret hKy8 (Eq.trans (frc (frl rfl) (frc (frl rfl) (frc (frl rfl) (frc (frl rfl) rfl)))) (gp2 (asg (asg (asg rfl))) rfl)) ⟨_, (emp_sep _).symm⟩ ?_
            (refine Sd.exec 6 rfl rfl rfl rfl rfl ?hrest (by rfl) (fun Xy12 Ky12 hKy12 => ?_); case hrest => kernel_rfl)
            refine RunL.mem (fl2 rfl (flS (flS (flS rfl)))) ?_
            refine RunL.mem (frc (frl (frl rfl)) (frc (frl (frl rfl)) rfl)) ?_
            refine RunL.call cal23 rfl (s23 (Rd.right rdy10).left.left (by omega) (by omega) (by omega)) rfl (fun vy13 Ay13 hy13 => ?_)
            obtain rfl := hy13
            refine RunL.know (fun w s => (s.conv rfl).ownRd0) (fun rdy14 => ?_)
            refine Sd.ret hKy12 (Eq.trans (frc (frl (frl (frl rfl))) (frc (frl (frl (frl rfl))) rfl)) (gp2 (asg rfl) (asg (asg (asg rfl))))) ⟨_, (asg (asg rfl))⟩ ?_
            refine Sd.quiet 14 _ _ rfl rfl rfl rfl rfl (QOp.ok (fun X => OpOk.assign rfl)) ?_
            (refine Sd.take 12 _ ?hrest (fun vy15 hvy15 => ?_); case hrest => kernel_rfl)
            have rdy15 := rdOf hvy15
            (refine Sd.exec 13 rfl rfl rfl rfl rfl ?hrest (by rfl) (fun Xy16 Ky16 hKy16 => ?_); case hrest => kernel_rfl)
            refine RunL.mem (fl2 (flS (flS (flS (flS rfl)))) (flS rfl)) ?_
            refine RunL.call cal23 rfl (s23 (Rd.right rdy15) (by omega) (by omega) (by omega)) rfl (fun vy17 Ay17 hy17 => ?_)
            obtain rfl := hy17
            refine RunL.know (fun w s => (s.conv rfl).ownRd0) (fun rdy18 => ?_)
            refine Sd.ret hKy16 (Eq.trans rfl (gp2 (sep_emp _).symm (asg (asg (asg (asg (asg (asg (asg rfl))))))))) ⟨_, (asg (asg rfl))⟩ ?_
            refine Sd.quiet 15 _ _ rfl rfl rfl rfl rfl (QOp.ok (fun X => OpOk.assign rfl)) ?_
            (apply Sd.tail; case hall => kernel_rfl)
            refine RunL.mem (fl2 (flS (flS (flS (flS (flS (flS (flS rfl))))))) (sep_emp _)) ?_
            refine RunL.nil ?_
            refine Run.seq ?_
            refine Run.seq ?_
            refine Run.region ?_
            refine RunL.ok (OpOk.move rfl) rfl ?_
            refine RunL.ok (OpOk.not rfl) rfl ?_
            refine RunL.nil ?_
            refine Run.condT rfl ?_
            refine Run.seq ?_
            refine Run.region ?_
            refine RunL.ok (OpOk.move rfl) rfl ?_
            refine RunL.ok (OpOk.lenR rfl rfl (Rd.right rdy18) rfl) rfl ?_
            refine RunL.ok (OpOk.asT (OpOk.eql rfl rfl) (by omega)) rfl ?_
            refine RunL.ok (OpOk.move rfl) rfl ?_
            refine RunL.on rfl rfl ?_
            refine RunL.ok (OpOk.move rfl) rfl ?_
            refine RunL.on rfl rfl ?_
            refine RunL.mem (frc (frl rfl) (frc (frl rfl) rfl)) ?_
            refine RunL.call cal25 rfl (s25) rfl (fun vy19 Ay19 hy19 => ?_)
            obtain ⟨rfl, rfl⟩ := hy19
            refine RunL.on rfl rfl ?_
            refine RunL.ok (OpOk.asT (OpOk.eql rfl rfl) (by omega)) rfl ?_
            refine RunL.ok (OpOk.pickT rfl rfl) rfl ?_
            refine RunL.ok (OpOk.assign rfl) rfl ?_
            refine RunL.nil ?_
            refine Run.ret1 Try.func5 rfl rfl ?_
            exact ⟨rfl, ⟨_, (asg (asg (asg (asg (asg (asg (asg (asg as1))))))))⟩⟩
          · obtain ⟨g1, g2, g3⟩ := take1_ok (xs := xs.take c) (a := a) hb (by omega)
            obtain ⟨e1, e2, e3⟩ := take1_ok (xs := xs) (a := a) hb (by omega)
            have hnn := numAt_take (xs := xs) (k := c) (a := a) (w := (ws.getD i default).toNat) (by omega)
            have g4 := congrArg List.length g2
            have e4 := congrArg List.length e2
            have g5 : (takeL (xs.take c) a 0 [ws.getD i default]).getD (Int.toNat 0) 0 = (takeL xs a 0 [ws.getD i default]).getD (Int.toNat 0) 0 := by rw [g2, e2, hnn]
            simp only [List.length_singleton] at g4 e4
            refine Run.seq ?_
            refine Run.seq ?_
            refine Run.region ?_
            refine RunL.ok (OpOk.move rfl) rfl ?_
            refine RunL.ok (OpOk.move rfl) rfl ?_
            refine RunL.ok (OpOk.lenR rfl rfl rd2.left.left.left.left.left rfl) rfl ?_
            refine RunL.ok (OpOk.asT (OpOk.lss rfl rfl) (by omega)) rfl ?_
            refine RunL.nil ?_
            refine Run.condT rfl ?_
            refine Run.skip ?_
            refine Run.seq ?_
            refine Run.block ?_
            refine Run.seq ?_
            refine Run.seq ?_
            refine Run.region ?_
            refine RunL.ok (OpOk.move rfl) rfl ?_
            refine RunL.ok (OpOk.move rfl) rfl ?_
            refine RunL.ok (OpOk.idx1N rfl ti3 rfl rd2.left.left.left.left.left rfl (by omega)) rfl ?_
            refine RunL.ok (OpOk.load rfl rfl rfl (Rd.getIE (by assumption) rd2.left.left.left.left.left (by omega))) rfl ?_
            refine RunL.ok (OpOk.asF (OpOk.lss rfl rfl) (by omega)) rfl ?_
            refine RunL.ok (OpOk.move rfl) rfl ?_
            refine RunL.on rfl rfl ?_
            refine RunL.ok (OpOk.move rfl) rfl ?_
            refine RunL.on rfl rfl ?_
            refine RunL.ok (OpOk.move rfl) rfl ?_
            refine RunL.on rfl rfl ?_
            refine RunL.ok (OpOk.idx1N rfl ti3 rfl rd2.left.left.left.left.left rfl (by omega)) rfl ?_
            refine RunL.on rfl rfl ?_
            refine RunL.ok (OpOk.load rfl rfl rfl (Rd.getIE (by assumption) rd2.left.left.left.left.left (by omega))) rfl ?_
            refine RunL.on rfl rfl ?_
            refine RunL.ok (OpOk.asF (OpOk.gtr rfl rfl) (by omega)) rfl ?_
            refine RunL.ok (OpOk.pickF rfl rfl) rfl ?_
            refine RunL.nil ?_
            refine Run.condF rfl ?_
            refine Run.skip ?_
            refine Run.seq ?_
            (apply Run.drawD [] (by rfl) (Eq.trans rfl (asg rfl)); case hchk => kernel_rfl)
            refine Sd.quiet 0 _ _ rfl rfl rfl rfl rfl (QOp.ok (fun X => OpOk.move rfl)) ?_
            refine Sd.quiet 2 _ _ rfl rfl rfl rfl rfl (QOp.ok (fun X => OpOk.move rfl)) ?_
            refine Sd.quiet 3 _ _ rfl rfl rfl rfl rfl (QOp.ok (fun X => OpOk.move rfl)) ?_
            refine Sd.quiet 4 _ _ rfl rfl rfl rfl rfl (QOp.ok (fun X => OpOk.idx1N rfl ti3 rfl rd2.left.left.left.left.left rfl (by omega))) ?_
            refine Sd.quiet 5 _ _ rfl rfl rfl rfl rfl (QOp.ok (fun X => OpOk.load rfl rfl rfl (Rd.getIE (by assumption) rd2.left.left.left.left.left (by omega)))) ?_
            (refine Sd.exec 1 rfl rfl rfl rfl rfl ?hrest (by rfl) (fun Xy1 Ky1 hKy1 => ?_); case hrest => kernel_rfl)
            refine RunL.mem (fl2 (sep_emp _) (flS rfl)) ?_
            refine RunL.call cal26 rfl (s26 (by omega) (by omega)) rfl (fun vy2 Ay2 hy2 => ?_)
            obtain ⟨rfl, rfl⟩ := hy2
            refine Sd.ret hKy1 (Eq.trans rfl (gp2 (sep_emp _).symm (asg rfl))) ⟨_, (emp_sep _).symm⟩ ?_
            refine Sd.quiet 6 _ _ rfl rfl rfl rfl rfl (QOp.ok (fun X => OpOk.asT (OpOk.geq rfl rfl) (by omega))) ?_
            refine Sd.quiet 7 _ _ rfl rfl rfl rfl rfl (QOp.ok (fun X => OpOk.assign rfl)) ?_
            (apply Sd.tail; case hall => kernel_rfl)
            refine RunL.mem (fl2 (flS rfl) (sep_emp _)) ?_
            refine RunL.nil ?_
            refine Run.seq ?_
            (apply Run.drawD [] (by rfl) (Eq.trans rfl (asg (asg (asg rfl)))); case hchk => kernel_rfl)
            refine Sd.quiet 0 _ _ rfl rfl rfl rfl rfl (QOp.ok (fun X => OpOk.move rfl)) ?_
            refine Sd.quiet 1 _ _ rfl rfl rfl rfl rfl (QOp.ok (fun X => OpOk.move rfl)) ?_
            refine Sd.quiet 2 _ _ rfl rfl rfl rfl rfl (QOp.ok (fun X => OpOk.move rfl)) ?_
            refine Sd.quiet 3 _ _ rfl rfl rfl rfl rfl (QOp.ok (fun X => OpOk.idx1N rfl ti3 rfl rd2.left.left.left rfl (by omega))) ?_
            refine Sd.quiet 4 _ _ rfl rfl rfl rfl rfl (QOp.ok (fun X => OpOk.load rfl rfl rfl (Rd.getIE (by assumption) rd2.left.left.left (by omega)))) ?_
            refine Sd.quiet 7 _ _ rfl rfl rfl rfl rfl (QOp.ok (fun X => OpOk.move rfl)) ?_
            refine Sd.quiet 8 _ _ rfl rfl rfl rfl rfl (QOp.ok (fun X => OpOk.move rfl)) ?_
            refine Sd.quiet 9 _ _ rfl rfl rfl rfl rfl (QOp.ok (fun X => OpOk.move rfl)) ?_
            refine Sd.quiet 10 _ _ rfl rfl rfl rfl rfl (QOp.ok (fun X => OpOk.idx1N rfl ti3 rfl rd2.left.left.left rfl (by omega))) ?_
            refine Sd.quiet 11 _ _ rfl rfl rfl rfl rfl (QOp.ok (fun X => OpOk.load rfl rfl rfl (Rd.getIE (by assumption) rd2.left.left.left (by omega)))) ?_
            apply Sd.make 12 (by rfl) (by rfl) (by rfl) (by rfl) (by rfl) (by rfl)
            case h =>
              intro Xy5 Ky5 hKy5
              refine RunL.mem (sep_emp _) ?_
              refine RunL.litI (xs := [ws.getD i default]) rfl ti3 rfl rfl rfl (by decide) rfl (fun vy6 rdy6 => ?_)
              exact RunL.mem (Eq.trans rfl (gp2 rfl (sep_emp _).symm)) (hKy5 _)
            (refine Sd.exec 5 rfl rfl rfl rfl rfl ?hrest (by rfl) (fun Xy8 Ky8 hKy8 => ?_); case hrest => kernel_rfl)
            refine RunL.mem (fl2 (sep_emp _) (flS (flS (flS rfl)))) ?_
            refine RunL.litI (xs := [ws.getD i default]) rfl ti3 rfl rfl rfl (by decide) rfl (fun vy9 rdy9 => ?_)
            refine RunL.know (fun w s => (s.conv rfl).ownRd0) (fun rdy10 => ?_)
            refine Sd.ret hKy8 (Eq.trans (frc (frl rfl) (frc (frl rfl) (frc (frl rfl) (frc (frl rfl) rfl)))) (gp2 (asg (asg (asg rfl))) rfl)) ⟨_, (emp_sep _).symm⟩ ?_
            (refine Sd.exec 6 rfl rfl rfl rfl rfl ?hrest (by rfl) (fun Xy12 Ky12 hKy12 => ?_); case hrest => kernel_rfl)
            refine RunL.mem (fl2 rfl (flS (flS (flS rfl)))) ?_
            refine RunL.mem (frc (frl (frl rfl)) (frc (frl (frl rfl)) rfl)) ?_
            refine RunL.call cal23 rfl (s23 (Rd.right rdy10).left.left (by omega) (by omega) (by omega)) rfl (fun vy13 Ay13 hy13 => ?_)
            obtain rfl := hy13
            refine RunL.know (fun w s => (s.conv rfl).ownRd0) (fun rdy14 => ?_)
            refine Sd.ret hKy12 (Eq.trans (frc (frl (frl (frl rfl))) (frc (frl (frl (frl rfl))) rfl)) (gp2 (asg rfl) (asg (asg (asg rfl))))) ⟨_, (asg (asg rfl))⟩ ?_
            refine Sd.quiet 14 _ _ rfl rfl rfl rfl rfl (QOp.ok (fun X => OpOk.assign rfl)) ?_
            (refine Sd.take 12 _ ?hrest (fun vy15 hvy15 => ?_); case hrest => kernel_rfl)
            have rdy15 := rdOf hvy15
            (refine Sd.exec 13 rfl rfl rfl rfl rfl ?hrest (by rfl) (fun Xy16 Ky16 hKy16 => ?_); case hrest => kernel_rfl)
            refine RunL.mem (fl2 (flS (flS (flS (flS rfl)))) (flS rfl)) ?_
            refine RunL.call cal23 rfl (s23 (Rd.right rdy15) (by omega) (by omega) (by omega)) rfl (fun vy17 Ay17 hy17 => ?_)
            obtain rfl := hy17
            refine RunL.know (fun w s => (s.conv rfl).ownRd0) (fun rdy18 => ?_)
            refine Sd.ret hKy16 (Eq.trans rfl (gp2 (sep_emp _).symm (asg (asg (asg (asg (asg (asg (asg rfl))))))))) ⟨_, (asg (asg rfl))⟩ ?_
            refine Sd.quiet 15 _ _ rfl rfl rfl rfl rfl (QOp.ok (fun X => OpOk.assign rfl)) ?_
            (apply Sd.tail; case hall => kernel_rfl)
            refine RunL.mem (fl2 (flS (flS (flS (flS (flS (flS (flS rfl))))))) (sep_emp _)) ?_
            refine RunL.nil ?_
            refine Run.seq ?_
            refine Run.seq ?_
            refine Run.region ?_
            refine RunL.ok (OpOk.move rfl) rfl ?_
            refine RunL.ok (OpOk.not rfl) rfl ?_
            refine RunL.nil ?_
            refine Run.condF rfl ?_
            refine Run.skip ?_
            refine Run.seq ?_
            (apply Run.drawD [] (by rfl) (sep_emp _).symm; case hchk => kernel_rfl)
            refine Sd.quiet 0 _ _ rfl rfl rfl rfl rfl (QOp.ok (fun X => OpOk.move rfl)) ?_
            refine Sd.quiet 1 _ _ rfl rfl rfl rfl rfl (QOp.ok (fun X => OpOk.lenR rfl rfl (Rd.right rdy14).left.left.left.left.left.left rfl)) ?_
            refine Sd.quiet 2 _ _ rfl rfl rfl rfl rfl (QOp.ok (fun X => OpOk.as (c := false) (OpOk.neq rfl rfl) (by rw [decide_eq_true (by omega)]; rfl))) ?_
            refine Sd.quiet 3 _ _ rfl rfl rfl rfl rfl (QOp.ok (fun X => OpOk.move rfl)) ?_
            refine Sd.quiet 4 _ _ rfl rfl rfl rfl rfl (QOp.ok (fun X => OpOk.move rfl)) ?_
            refine Sd.quiet 5 _ _ rfl rfl rfl rfl rfl (QOp.ok (fun X => OpOk.lenR rfl rfl (Rd.right rdy18).left.left rfl)) ?_
            refine Sd.quiet 6 _ _ rfl rfl rfl rfl rfl (QOp.ok (fun X => OpOk.as (c := false) (OpOk.neq rfl rfl) (by rw [decide_eq_true (by omega)]; rfl))) ?_
            refine Sd.quiet 7 _ _ rfl rfl rfl rfl rfl (QOp.ok (fun X => OpOk.pickF rfl rfl)) ?_
            refine Sd.quiet 8 _ _ rfl rfl rfl rfl rfl (QOp.ok (fun X => OpOk.move rfl)) ?_
            refine Sd.quiet 9 _ _ rfl rfl rfl rfl rfl (QOp.ok (fun X => OpOk.move rfl)) ?_
            refine Sd.quiet 10 _ _ rfl rfl rfl rfl rfl (QOp.ok (fun X => OpOk.idx1 rfl ti3 rfl (Rd.right rdy14).left.left.left.left.left.left rfl (by omega) (by omega))) ?_
            refine Sd.quiet 11 _ _ rfl rfl rfl rfl rfl (QOp.ok (fun X => OpOk.load rfl rfl rfl (Rd.getI (Rd.right rdy14).left.left.left.left.left.left (by omega)))) ?_
            refine Sd.quiet 12 _ _ rfl rfl rfl rfl rfl (QOp.ok (fun X => OpOk.move rfl)) ?_
            refine Sd.quiet 13 _ _ rfl rfl rfl rfl rfl (QOp.ok (fun X => OpOk.idx1 rfl ti3 rfl (Rd.right rdy18).left.left rfl (by omega) (by omega))) ?_
            refine Sd.quiet 14 _ _ rfl rfl rfl rfl rfl (QOp.ok (fun X => OpOk.load rfl rfl rfl (Rd.getIE (by assumption) (Rd.right rdy18).left.left (by omega)))) ?_
            refine Sd.quiet 15 _ _ rfl rfl rfl rfl rfl (QOp.ok (fun X => OpOk.as (c := false) (OpOk.neq rfl rfl) (by rw [decide_eq_true (by omega)]; rfl))) ?_
            refine Sd.quiet 16 _ _ rfl rfl rfl rfl rfl (QOp.ok (fun X => OpOk.pickF rfl rfl)) ?_
            (apply Sd.tail; case hall => kernel_rfl)
            refine RunL.mem (fl2 (sep_emp _) (sep_emp _)) ?_
            refine RunL.nil ?_
            refine Run.condF rfl ?_
            refine Run.skip ?_
            refine Run.inBlock ?_
            refine Run.region ?_
            refine RunL.ok (OpOk.move rfl) rfl ?_
            refine RunL.ok (OpOk.addN _ 1 rfl rfl rfl rfl (by omega)) rfl ?_
            refine RunL.ok (OpOk.assign rfl) rfl ?_
            refine RunL.nil ?_
            rw [g1, g3, e1, e3, ← hw]
            refine Run.jump ((ih (i + 1, J) ⟨by simp; omega, by show widthsN (ws.take (i + 1)) ≤ 8 * c; omega⟩ (by simp; omega))) ⟨rfl, rfl, rfl, rfl, trivial⟩ (Grew.of (frc rfl (frc (frl (frl rfl)) (frc (frl (frl rfl)) (frc (frl (frl (frl (frl rfl)))) rfl)))) (Grew.mul (Grew.mul (Grew.mul (Grew.mul (Grew.refl _) _) _) _) _))
      · obtain rfl : i = ws.length := by omega
        clear ih
        refine Run.seq ?_
        refine Run.seq ?_
        refine Run.region ?_
        refine RunL.ok (OpOk.move rfl) rfl ?_
        refine RunL.ok (OpOk.move rfl) rfl ?_
        refine RunL.ok (OpOk.lenR rfl rfl rd2.left.left.left.left.left rfl) rfl ?_
        refine RunL.ok (OpOk.asF (OpOk.lss rfl rfl) (by omega)) rfl ?_
        refine RunL.nil ?_
        refine Run.condF rfl ?_
        refine Run.exit rfl ?_
        refine Run.seq ?_
        refine Run.region ?_
        refine RunL.ok (OpOk.move rfl) rfl ?_
        refine RunL.call cal25 rfl (s25) rfl (fun vy1 Ay1 hy1 => ?_)
        obtain ⟨rfl, rfl⟩ := hy1
        refine RunL.ok (OpOk.asT (OpOk.eql rfl rfl) (by omega)) rfl ?_
        refine RunL.ok (OpOk.assign rfl) rfl ?_
        refine RunL.nil ?_
        refine Run.ret1 Try.func5 rfl rfl ?_
        exact ⟨rfl, ⟨_, (asg (asg (asg (asg as1))))⟩⟩
    · have rdk := Rd.cutMB0 rd (Nat.le_refl _) (Nat.le_refl _)
      have htk := List.length_take (i := xs.length) (l := xs)
      refine Run.seq ?_
      refine Run.region ?_
      refine RunL.ok (OpOk.assign rfl) rfl ?_
      refine RunL.nil ?_
      refine Run.seq ?_
      refine Run.seq ?_
      refine Run.region ?_
      refine RunL.call cal15 rfl (s15) rfl (fun vx1 Ax1 hx1 => ?_)
      obtain ⟨x2, ⟨rfl, rfl⟩⟩ := hx1
      refine RunL.ok (OpOk.not rfl) rfl ?_
      refine RunL.ok (OpOk.move rfl) rfl ?_
      refine RunL.on rfl rfl ?_
      refine RunL.ok (OpOk.move rfl) rfl ?_
      refine RunL.on rfl rfl ?_
      refine RunL.ok (OpOk.lenR rfl rfl rd.left rfl) rfl ?_
      refine RunL.on rfl rfl ?_
      refine RunL.ok (OpOk.gtr rfl rfl) rfl ?_
      refine RunL.ok (OpOk.pickF rfl rfl) rfl ?_
      refine RunL.ok (OpOk.move rfl) rfl ?_
      refine RunL.splitD (t := 21) rfl (fun x3 => ?_) (fun x3 => ?_)
      · refine RunL.off rfl rfl rfl rfl ?_
        refine RunL.off rfl rfl rfl rfl ?_
        refine RunL.off rfl rfl rfl rfl ?_
        refine RunL.ok (OpOk.pickT rfl rfl) rfl ?_
        refine RunL.nil ?_
        refine Run.condT rfl ?_
        refine Run.seq ?_
        refine Run.region ?_
        refine RunL.call cal15 rfl (s15) rfl (fun vx4 Ax4 hx4 => ?_)
        obtain ⟨x5, ⟨rfl, rfl⟩⟩ := hx4
        refine RunL.ok (OpOk.assign rfl) rfl ?_
        refine RunL.nil ?_
        refine Run.ret1 Try.func5 rfl rfl ?_
        exact ⟨rfl, ⟨_, (asg as1)⟩⟩
      refine RunL.on rfl rfl ?_
      refine RunL.ok (OpOk.move rfl) rfl ?_
      refine RunL.on rfl rfl ?_
      refine RunL.ok (OpOk.lenR rfl rfl rd2.left rfl) rfl ?_
      refine RunL.on rfl rfl ?_
      refine RunL.ok (OpOk.gtr rfl rfl) rfl ?_
      refine RunL.ok (OpOk.pickF rfl rfl) rfl ?_
      refine RunL.nil ?_
      refine Run.condD rfl (fun x6 => ?_) (fun x6 => ?_)
      · refine Run.seq ?_
        refine Run.region ?_
        refine RunL.call cal15 rfl (s15) rfl (fun vx7 Ax7 hx7 => ?_)
        obtain ⟨x8, ⟨rfl, rfl⟩⟩ := hx7
        refine RunL.ok (OpOk.assign rfl) rfl ?_
        refine RunL.nil ?_
        refine Run.ret1 Try.func5 rfl rfl ?_
        exact ⟨rfl, ⟨_, (asg as1)⟩⟩
      refine Run.skip ?_
      refine Run.seq ?_
      refine Run.region ?_
      refine RunL.ok (OpOk.move rfl) rfl ?_
      refine RunL.ok (OpOk.lenR rfl rfl rd.left rfl) rfl ?_
      refine RunL.ok (OpOk.assign rfl) rfl ?_
      refine RunL.nil ?_
      refine Run.seq ?_
      refine Run.seq ?_
      refine Run.region ?_
      refine RunL.ok (OpOk.move rfl) rfl ?_
      refine RunL.ok (OpOk.asT (OpOk.geq rfl rfl) (by omega)) rfl ?_
      refine RunL.ok (OpOk.move rfl) rfl ?_
      refine RunL.on rfl rfl ?_
      refine RunL.ok (OpOk.move rfl) rfl ?_
      refine RunL.on rfl rfl ?_
      refine RunL.ok (OpOk.move rfl) rfl ?_
      refine RunL.on rfl rfl ?_
      refine RunL.ok (OpOk.lenR rfl rfl rd.left rfl) rfl ?_
      refine RunL.on rfl rfl ?_
      refine RunL.ok (OpOk.asF (OpOk.lss rfl rfl) (by omega)) rfl ?_
      refine RunL.ok (OpOk.pickT rfl rfl) rfl ?_
      refine RunL.nil ?_
      refine Run.condF rfl ?_
      refine Run.skip ?_
      refine Run.seq ?_
      (apply Run.drawD [] (by rfl) (sep_emp _).symm; case hchk => kernel_rfl)
      refine Sd.quiet 0 _ _ rfl rfl rfl rfl rfl (QOp.ok (fun X => OpOk.move rfl)) ?_
      refine Sd.quiet 2 _ _ rfl rfl rfl rfl rfl (QOp.ok (fun X => OpOk.move rfl)) ?_
      refine Sd.quiet 3 _ _ rfl rfl rfl rfl rfl (QOp.ok (fun X => OpOk.move rfl)) ?_
      refine Sd.quiet 4 _ _ rfl rfl rfl rfl rfl (QOp.ok (fun X => OpOk.move rfl)) ?_
      refine Sd.quiet 5 _ _ rfl rfl rfl rfl rfl (QOp.ok (fun X => OpOk.cutM0 rfl ti5 rfl rd.left.left.left ⟨_, rfl⟩ ⟨_, rfl⟩ (by omega))) ?_
      (refine Sd.exec 1 rfl rfl rfl rfl rfl ?hrest (by rfl) (fun Xx9 Kx9 hKx9 => ?_); case hrest => kernel_rfl)
      refine RunL.mem (fl2 (sep_emp _) (sep_emp _)) ?_
      refine RunL.call cal21 rfl (s21 rd.left.left (by omega)) rfl (fun vx10 Ax10 hx10 => ?_)
      obtain ⟨x11, ⟨x12, ⟨rfl, rfl⟩⟩⟩ := hx10
      refine RunL.know (fun w s => (s.conv rfl).ownRd0) (fun rdx13 => ?_)
      refine Sd.ret hKx9 (Eq.trans rfl (gp2 (sep_emp _).symm (asg rfl))) ⟨_, (emp_sep _).symm⟩ ?_
      refine Sd.quiet 7 _ _ rfl rfl rfl rfl rfl (QOp.ok (fun X => OpOk.assign rfl)) ?_
      (refine Sd.exec 6 rfl rfl rfl rfl rfl ?hrest (by rfl) (fun Xx14 Kx14 hKx14 => ?_); case hrest => kernel_rfl)
      refine RunL.mem (fl2 (flS rfl) (sep_emp _)) ?_
      refine RunL.call cal21 rfl (s21 rdk.left.left.left.left (by omega)) rfl (fun vx15 Ax15 hx15 => ?_)
      obtain ⟨x16, ⟨x17, ⟨rfl, rfl⟩⟩⟩ := hx15
      refine RunL.know (fun w s => (s.conv rfl).ownRd0) (fun rdx18 => ?_)
      refine Sd.ret hKx14 (Eq.trans rfl (gp2 (sep_emp _).symm (asg (asg (asg rfl))))) ⟨_, (asg rfl)⟩ ?_
      refine Sd.quiet 8 _ _ rfl rfl rfl rfl rfl (QOp.ok (fun X => OpOk.assign rfl)) ?_
      (apply Sd.tail; case hall => kernel_rfl)
      refine RunL.mem (fl2 (flS (flS (flS rfl))) (sep_emp _)) ?_
      refine RunL.nil ?_
      refine Run.seq ?_
      refine Run.seq ?_
      refine Run.region ?_
      refine RunL.ok (OpOk.move rfl) rfl ?_
      refine RunL.ok (OpOk.eqlPN rfl rfl) rfl ?_
      refine RunL.ok (OpOk.move rfl) rfl ?_
      refine RunL.on rfl rfl ?_
      refine RunL.ok (OpOk.move rfl) rfl ?_
      refine RunL.on rfl rfl ?_
      refine RunL.ok (OpOk.eqlPN rfl rfl) rfl ?_
      refine RunL.ok (OpOk.pickF rfl rfl) rfl ?_
      refine RunL.nil ?_
      refine Run.condF rfl ?_
      refine Run.skip ?_
      refine Run.seq ?_
      refine Run.seq ?_
      refine Run.region ?_
      refine RunL.ok (OpOk.assign rfl) rfl ?_
      refine RunL.nil ?_
      refine Run.block ?_
      refine Run.jump ((Run.loopJ (X := Nat × Asn) (fun x => [(10, .int .i64 x.1), (9, .pointer (some ⟨x16, 0, none⟩)), (8, .pointer (some ⟨x11, 0, none⟩)), (1, u2)]) (fun x => old w0 * x.2 * pts x11 (.cells #[x12, .int .i64 ((widthsN (ws.take x.1) : Nat) : Int), .int .i64 (0)] 81 (0, 0)) * own 5 1 x12 (xs).length (B (xs)) * pts x16 (.cells #[x17, .int .i64 ((widthsN (ws.take x.1) : Nat) : Int), .int .i64 (0)] 81 (0, 0)) * own 5 1 x17 (xs.take xs.length).length (B (xs.take xs.length))) (fun x => x.1 ≤ ws.length ∧ widthsN (ws.take x.1) ≤ 8 * xs.length) (fun x => ws.length - x.1) (0, x2) ⟨Nat.zero_le _, Nat.zero_le _⟩ (fun x hx ih => ?_))) ⟨rfl, rfl, rfl, rfl, trivial⟩ (Grew.of (frc rfl (frc rfl (frc rfl (frc rfl rfl)))) (Grew.refl _))
      obtain ⟨i, J⟩ := x
      simp only at hx ih ⊢
      obtain ⟨hi, ha⟩ := hx
      rcases Nat.lt_or_ge i ws.length with hlt | hge
      · have hw : widthsN (ws.take (i + 1)) = widthsN (ws.take i) + (ws.getD i default).toNat := by rw [take_next hlt, widthsN_append]; simp [widthsN]
        have hd : ws.getD i 0 = ws.getD i default := rfl
        generalize ha1 : widthsN (ws.take i) = a at *
        rcases Decidable.em (ws.getD i default < 1 ∨ 32 < ws.getD i default) with hbad | hbad
        · rcases Int.lt_or_le (ws.getD i default) 1 with hc | hc
          · refine Run.seq ?_
            refine Run.seq ?_
            refine Run.region ?_
            refine RunL.ok (OpOk.move rfl) rfl ?_
            refine RunL.ok (OpOk.move rfl) rfl ?_
            refine RunL.ok (OpOk.lenR rfl rfl rd2.left.left.left.left.left rfl) rfl ?_
            refine RunL.ok (OpOk.asT (OpOk.lss rfl rfl) (by omega)) rfl ?_
            refine RunL.nil ?_
            refine Run.condT rfl ?_
            refine Run.skip ?_
            refine Run.seq ?_
            refine Run.block ?_
            refine Run.seq ?_
            refine Run.seq ?_
            refine Run.region ?_
            refine RunL.ok (OpOk.move rfl) rfl ?_
            refine RunL.ok (OpOk.move rfl) rfl ?_
            refine RunL.ok (OpOk.idx1N rfl ti3 rfl rd2.left.left.left.left.left rfl (by omega)) rfl ?_
            refine RunL.ok (OpOk.load rfl rfl rfl (Rd.getIE (by assumption) rd2.left.left.left.left.left (by omega))) rfl ?_
            refine RunL.ok (OpOk.asT (OpOk.lss rfl rfl) (by omega)) rfl ?_
            refine RunL.ok (OpOk.move rfl) rfl ?_
            refine RunL.off rfl rfl rfl rfl ?_
            refine RunL.off rfl rfl rfl rfl ?_
            refine RunL.off rfl rfl rfl rfl ?_
            refine RunL.off rfl rfl rfl rfl ?_
            refine RunL.off rfl rfl rfl rfl ?_
            refine RunL.ok (OpOk.pickT rfl rfl) rfl ?_
            refine RunL.nil ?_
            refine Run.condT rfl ?_
            refine Run.seq ?_
            refine Run.region ?_
            refine RunL.ok (OpOk.assign rfl) rfl ?_
            refine RunL.nil ?_
            refine Run.ret1 Try.func5 rfl rfl ?_
            exact ⟨rfl, ⟨_, (asg (asg (asg (asg as1))))⟩⟩
          · refine Run.seq ?_
            refine Run.seq ?_
            refine Run.region ?_
            refine RunL.ok (OpOk.move rfl) rfl ?_
            refine RunL.ok (OpOk.move rfl) rfl ?_
            refine RunL.ok (OpOk.lenR rfl rfl rd2.left.left.left.left.left rfl) rfl ?_
            refine RunL.ok (OpOk.asT (OpOk.lss rfl rfl) (by omega)) rfl ?_
            refine RunL.nil ?_
            refine Run.condT rfl ?_
            refine Run.skip ?_
            refine Run.seq ?_
            refine Run.block ?_
            refine Run.seq ?_
            refine Run.seq ?_
            refine Run.region ?_
            refine RunL.ok (OpOk.move rfl) rfl ?_
            refine RunL.ok (OpOk.move rfl) rfl ?_
            refine RunL.ok (OpOk.idx1N rfl ti3 rfl rd2.left.left.left.left.left rfl (by omega)) rfl ?_
            refine RunL.ok (OpOk.load rfl rfl rfl (Rd.getIE (by assumption) rd2.left.left.left.left.left (by omega))) rfl ?_
            refine RunL.ok (OpOk.asF (OpOk.lss rfl rfl) (by omega)) rfl ?_
            refine RunL.ok (OpOk.move rfl) rfl ?_
            refine RunL.on rfl rfl ?_
            refine RunL.ok (OpOk.move rfl) rfl ?_
            refine RunL.on rfl rfl ?_
            refine RunL.ok (OpOk.move rfl) rfl ?_
            refine RunL.on rfl rfl ?_
            refine RunL.ok (OpOk.idx1N rfl ti3 rfl rd2.left.left.left.left.left rfl (by omega)) rfl ?_
            refine RunL.on rfl rfl ?_
            refine RunL.ok (OpOk.load rfl rfl rfl (Rd.getIE (by assumption) rd2.left.left.left.left.left (by omega))) rfl ?_
            refine RunL.on rfl rfl ?_
            refine RunL.ok (OpOk.asT (OpOk.gtr rfl rfl) (by omega)) rfl ?_
            refine RunL.ok (OpOk.pickF rfl rfl) rfl ?_
            refine RunL.nil ?_
            refine Run.condT rfl ?_
            refine Run.seq ?_
            refine Run.region ?_
            refine RunL.ok (OpOk.assign rfl) rfl ?_
            refine RunL.nil ?_
            refine Run.ret1 Try.func5 rfl rfl ?_
            exact ⟨rfl, ⟨_, (asg (asg (asg (asg as1))))⟩⟩
        · have hb : badW (ws.getD i default) = false := by simp only [badW, decide_eq_false_iff_not]; exact hbad
          rcases Nat.lt_or_ge (8 * xs.length - a) (ws.getD i default).toNat with hs | hs
          · obtain ⟨g1, g2, g3⟩ := take1_short (xs := xs.take xs.length) (a := a) hb (by omega)
            have g4 := congrArg List.length g2
            simp only [List.length_nil] at g4
            refine Run.seq ?_
            refine Run.seq ?_
            refine Run.region ?_
            refine RunL.ok (OpOk.move rfl) rfl ?_
            refine RunL.ok (OpOk.move rfl) rfl ?_
            refine RunL.ok (OpOk.lenR rfl rfl rd2.left.left.left.left.left rfl) rfl ?_
            refine RunL.ok (OpOk.asT (OpOk.lss rfl rfl) (by omega)) rfl ?_
            refine RunL.nil ?_
            refine Run.condT rfl ?_
            refine Run.skip ?_
            refine Run.seq ?_
            refine Run.block ?_
            refine Run.seq ?_
            refine Run.seq ?_
            refine Run.region ?_
            refine RunL.ok (OpOk.move rfl) rfl ?_
            refine RunL.ok (OpOk.move rfl) rfl ?_
            refine RunL.ok (OpOk.idx1N rfl ti3 rfl rd2.left.left.left.left.left rfl (by omega)) rfl ?_
            refine RunL.ok (OpOk.load rfl rfl rfl (Rd.getIE (by assumption) rd2.left.left.left.left.left (by omega))) rfl ?_
            refine RunL.ok (OpOk.asF (OpOk.lss rfl rfl) (by omega)) rfl ?_
            refine RunL.ok (OpOk.move rfl) rfl ?_
            refine RunL.on rfl rfl ?_
            refine RunL.ok (OpOk.move rfl) rfl ?_
            refine RunL.on rfl rfl ?_
            refine RunL.ok (OpOk.move rfl) rfl ?_
            refine RunL.on rfl rfl ?_
            refine RunL.ok (OpOk.idx1N rfl ti3 rfl rd2.left.left.left.left.left rfl (by omega)) rfl ?_
            refine RunL.on rfl rfl ?_
            refine RunL.ok (OpOk.load rfl rfl rfl (Rd.getIE (by assumption) rd2.left.left.left.left.left (by omega))) rfl ?_
            refine RunL.on rfl rfl ?_
            refine RunL.ok (OpOk.asF (OpOk.gtr rfl rfl) (by omega)) rfl ?_
            refine RunL.ok (OpOk.pickF rfl rfl) rfl ?_
            refine RunL.nil ?_
            refine Run.condF rfl ?_
            refine Run.skip ?_
            refine Run.seq ?_
            (apply Run.drawD [] (by rfl) (Eq.trans rfl (asg rfl)); case hchk => kernel_rfl)
            refine Sd.quiet 0 _ _ rfl rfl rfl rfl rfl (QOp.ok (fun X => OpOk.move rfl)) ?_
            refine Sd.quiet 2 _ _ rfl rfl rfl rfl rfl (QOp.ok (fun X => OpOk.move rfl)) ?_
            refine Sd.quiet 3 _ _ rfl rfl rfl rfl rfl (QOp.ok (fun X => OpOk.move rfl)) ?_
            refine Sd.quiet 4 _ _ rfl rfl rfl rfl rfl (QOp.ok (fun X => OpOk.idx1N rfl ti3 rfl rd2.left.left.left.left.left rfl (by omega))) ?_
            refine Sd.quiet 5 _ _ rfl rfl rfl rfl rfl (QOp.ok (fun X => OpOk.load rfl rfl rfl (Rd.getIE (by assumption) rd2.left.left.left.left.left (by omega)))) ?_
            (refine Sd.exec 1 rfl rfl rfl rfl rfl ?hrest (by rfl) (fun Xy1 Ky1 hKy1 => ?_); case hrest => kernel_rfl)
            refine RunL.mem (fl2 (sep_emp _) (flS rfl)) ?_
            refine RunL.call cal26 rfl (s26 (by omega) (by omega)) rfl (fun vy2 Ay2 hy2 => ?_)
            obtain ⟨rfl, rfl⟩ := hy2
            refine Sd.ret hKy1 (Eq.trans rfl (gp2 (sep_emp _).symm (asg rfl))) ⟨_, (emp_sep _).symm⟩ ?_
            refine Sd.quiet 6 _ _ rfl rfl rfl rfl rfl (QOp.ok (fun X => OpOk.asF (OpOk.geq rfl rfl) (by omega))) ?_
            refine Sd.quiet 7 _ _ rfl rfl rfl rfl rfl (QOp.ok (fun X => OpOk.assign rfl)) ?_
            (apply Sd.tail; case hall => kernel_rfl)
            refine RunL.mem (fl2 (flS rfl) (sep_emp _)) ?_
            refine RunL.nil ?_
            refine Run.seq ?_
            (apply Run.drawD [] (by rfl) (Eq.trans rfl (asg (asg (asg rfl)))); case hchk => kernel_rfl)
            refine Sd.quiet 0 _ _ rfl rfl rfl rfl rfl (QOp.ok (fun X => OpOk.move rfl)) ?_
            refine Sd.quiet 1 _ _ rfl rfl rfl rfl rfl (QOp.ok (fun X => OpOk.move rfl)) ?_
            refine Sd.quiet 2 _ _ rfl rfl rfl rfl rfl (QOp.ok (fun X => OpOk.move rfl)) ?_
            refine Sd.quiet 3 _ _ rfl rfl rfl rfl rfl (QOp.ok (fun X => OpOk.idx1N rfl ti3 rfl rd2.left.left.left rfl (by omega))) ?_
            refine Sd.quiet 4 _ _ rfl rfl rfl rfl rfl (QOp.ok (fun X => OpOk.load rfl rfl rfl (Rd.getIE (by assumption) rd2.left.left.left (by omega)))) ?_
            refine Sd.quiet 7 _ _ rfl rfl rfl rfl rfl (QOp.ok (fun X => OpOk.move rfl)) ?_
            refine Sd.quiet 8 _ _ rfl rfl rfl rfl rfl (QOp.ok (fun X => OpOk.move rfl)) ?_
            refine Sd.quiet 9 _ _ rfl rfl rfl rfl rfl (QOp.ok (fun X => OpOk.move rfl)) ?_
            refine Sd.quiet 10 _ _ rfl rfl rfl rfl rfl (QOp.ok (fun X => OpOk.idx1N rfl ti3 rfl rd2.left.left.left rfl (by omega))) ?_
            refine Sd.quiet 11 _ _ rfl rfl rfl rfl rfl (QOp.ok (fun X => OpOk.load rfl rfl rfl (Rd.getIE (by assumption) rd2.left.left.left (by omega)))) ?_
            apply Sd.make 12 (by rfl) (by rfl) (by rfl) (by rfl) (by rfl) (by rfl)
            case h =>
              intro Xy5 Ky5 hKy5
              refine RunL.mem (sep_emp _) ?_
              refine RunL.litI (xs := [ws.getD i default]) rfl ti3 rfl rfl rfl (by decide) rfl (fun vy6 rdy6 => ?_)
              exact RunL.mem (Eq.trans rfl (gp2 rfl (sep_emp _).symm)) (hKy5 _)
            (refine Sd.exec 5 rfl rfl rfl rfl rfl ?hrest (by rfl) (fun Xy8 Ky8 hKy8 => ?_); case hrest => kernel_rfl)
            refine RunL.mem (fl2 (sep_emp _) (flS (flS (flS rfl)))) ?_
            refine RunL.litI (xs := [ws.getD i default]) rfl ti3 rfl rfl rfl (by decide) rfl (fun vy9 rdy9 => ?_)
            refine RunL.know (fun w s => (s.conv rfl).ownRd0) (fun rdy10 => ?_)
            refine Sd.ret hKy8 (Eq.trans (frc (frl rfl) (frc (frl rfl) (frc (frl rfl) (frc (frl rfl) rfl)))) (gp2 (asg (asg (asg rfl))) rfl)) ⟨_, (emp_sep _).symm⟩ ?_
            (refine Sd.exec 6 rfl rfl rfl rfl rfl ?hrest (by rfl) (fun Xy12 Ky12 hKy12 => ?_); case hrest => kernel_rfl)
            refine RunL.mem (fl2 rfl (flS (flS (flS rfl)))) ?_
            refine RunL.mem (frc (frl (frl rfl)) (frc (frl (frl rfl)) rfl)) ?_
            refine RunL.call cal23 rfl (s23 (Rd.right rdy10).left.left (by omega) (by assumption) (by omega)) rfl (fun vy13 Ay13 hy13 => ?_)
            obtain rfl := hy13
            refine RunL.know (fun w s => (s.conv rfl).ownRd0) (fun rdy14 => ?_)
            refine Sd.ret hKy12 (Eq.trans (frc (frl (frl (frl rfl))) (frc (frl (frl (frl rfl))) rfl)) (gp2 (asg rfl) (asg (asg (asg rfl))))) ⟨_, (asg (asg rfl))⟩ ?_
            refine Sd.quiet 14 _ _ rfl rfl rfl rfl rfl (QOp.ok (fun X => OpOk.assign rfl)) ?_
            (refine Sd.take 12 _ ?hrest (fun vy15 hvy15 => ?_); case hrest => kernel_rfl)
            have rdy15 := rdOf hvy15
            (refine Sd.exec 13 rfl rfl rfl rfl rfl ?hrest (by rfl) (fun Xy16 Ky16 hKy16 => ?_); case hrest => kernel_rfl)
            refine RunL.mem (fl2 (flS (flS (flS (flS rfl)))) (flS rfl)) ?_
            refine RunL.call cal23 rfl (s23 (Rd.right rdy15) (by omega) (by omega) (by omega)) rfl (fun vy17 Ay17 hy17 => ?_)
            obtain rfl := hy17
            refine RunL.know (fun w s => (s.conv rfl).ownRd0) (fun rdy18 => ?_)
            refine Sd.ret hKy16 (Eq.trans rfl (gp2 (sep_emp _).symm (asg (asg (asg (asg (asg (asg (asg rfl))))))))) ⟨_, (asg (asg rfl))⟩ ?_
            refine Sd.quiet 15 _ _ rfl rfl rfl rfl rfl (QOp.ok (fun X => OpOk.assign rfl)) ?_
            (apply Sd.tail; case hall => kernel_rfl)
            refine RunL.mem (fl2 (flS (flS (flS (flS (flS (flS (flS rfl))))))) (sep_emp _)) ?_
            refine RunL.nil ?_
            refine Run.seq ?_
            refine Run.seq ?_
            refine Run.region ?_
            refine RunL.ok (OpOk.move rfl) rfl ?_
            refine RunL.ok (OpOk.not rfl) rfl ?_
            refine RunL.nil ?_
            refine Run.condT rfl ?_
            refine Run.seq ?_
            refine Run.region ?_
            refine RunL.ok (OpOk.move rfl) rfl ?_
            refine RunL.ok (OpOk.lenR rfl rfl (Rd.right rdy18) rfl) rfl ?_
            refine RunL.ok (OpOk.asT (OpOk.eql rfl rfl) (by omega)) rfl ?_
            refine RunL.ok (OpOk.move rfl) rfl ?_
            refine RunL.on rfl rfl ?_
            refine RunL.ok (OpOk.move rfl) rfl ?_
            refine RunL.on rfl rfl ?_
            refine RunL.mem (frc (frl rfl) (frc (frl rfl) rfl)) ?_
            refine RunL.call cal25 rfl (s25) rfl (fun vy19 Ay19 hy19 => ?_)
            obtain ⟨rfl, rfl⟩ := hy19
            refine RunL.on rfl rfl ?_
            refine RunL.ok (OpOk.asT (OpOk.eql rfl rfl) (by omega)) rfl ?_
            refine RunL.ok (OpOk.pickT rfl rfl) rfl ?_
            refine RunL.ok (OpOk.assign rfl) rfl ?_
            refine RunL.nil ?_
            refine Run.ret1 Try.func5 rfl rfl ?_
            exact ⟨rfl, ⟨_, (asg (asg (asg (asg (asg (asg (asg (asg as1))))))))⟩⟩
          · obtain ⟨g1, g2, g3⟩ := take1_ok (xs := xs.take xs.length) (a := a) hb (by omega)
            obtain ⟨e1, e2, e3⟩ := take1_ok (xs := xs) (a := a) hb (by omega)
            have hnn := numAt_take (xs := xs) (k := xs.length) (a := a) (w := (ws.getD i default).toNat) (by omega)
            have g4 := congrArg List.length g2
            have e4 := congrArg List.length e2
            have g5 : (takeL (xs.take xs.length) a 0 [ws.getD i default]).getD (Int.toNat 0) 0 = (takeL xs a 0 [ws.getD i default]).getD (Int.toNat 0) 0 := by rw [g2, e2, hnn]
            simp only [List.length_singleton] at g4 e4
            refine Run.seq ?_
            refine Run.seq ?_
            refine Run.region ?_
            refine RunL.ok (OpOk.move rfl) rfl ?_
            refine RunL.ok (OpOk.move rfl) rfl ?_
            refine RunL.ok (OpOk.lenR rfl rfl rd2.left.left.left.left.left rfl) rfl ?_
            refine RunL.ok (OpOk.asT (OpOk.lss rfl rfl) (by omega)) rfl ?_
            refine RunL.nil ?_
            refine Run.condT rfl ?_
            refine Run.skip ?_
            refine Run.seq ?_
            refine Run.block ?_
            refine Run.seq ?_
            refine Run.seq ?_
            refine Run.region ?_
            refine RunL.ok (OpOk.move rfl) rfl ?_
            refine RunL.ok (OpOk.move rfl) rfl ?_
            refine RunL.ok (OpOk.idx1N rfl ti3 rfl rd2.left.left.left.left.left rfl (by omega)) rfl ?_
            refine RunL.ok (OpOk.load rfl rfl rfl (Rd.getIE (by assumption) rd2.left.left.left.left.left (by omega))) rfl ?_
            refine RunL.ok (OpOk.asF (OpOk.lss rfl rfl) (by omega)) rfl ?_
            refine RunL.ok (OpOk.move rfl) rfl ?_
            refine RunL.on rfl rfl ?_
            refine RunL.ok (OpOk.move rfl) rfl ?_
            refine RunL.on rfl rfl ?_
            refine RunL.ok (OpOk.move rfl) rfl ?_
            refine RunL.on rfl rfl ?_
            refine RunL.ok (OpOk.idx1N rfl ti3 rfl rd2.left.left.left.left.left rfl (by omega)) rfl ?_
            refine RunL.on rfl rfl ?_
            refine RunL.ok (OpOk.load rfl rfl rfl (Rd.getIE (by assumption) rd2.left.left.left.left.left (by omega))) rfl ?_
            refine RunL.on rfl rfl ?_
            refine RunL.ok (OpOk.asF (OpOk.gtr rfl rfl) (by omega)) rfl ?_
            refine RunL.ok (OpOk.pickF rfl rfl) rfl ?_
            refine RunL.nil ?_
            refine Run.condF rfl ?_
            refine Run.skip ?_
            refine Run.seq ?_
            (apply Run.drawD [] (by rfl) (Eq.trans rfl (asg rfl)); case hchk => kernel_rfl)
            refine Sd.quiet 0 _ _ rfl rfl rfl rfl rfl (QOp.ok (fun X => OpOk.move rfl)) ?_
            refine Sd.quiet 2 _ _ rfl rfl rfl rfl rfl (QOp.ok (fun X => OpOk.move rfl)) ?_
            refine Sd.quiet 3 _ _ rfl rfl rfl rfl rfl (QOp.ok (fun X => OpOk.move rfl)) ?_
            refine Sd.quiet 4 _ _ rfl rfl rfl rfl rfl (QOp.ok (fun X => OpOk.idx1N rfl ti3 rfl rd2.left.left.left.left.left rfl (by omega))) ?_
            refine Sd.quiet 5 _ _ rfl rfl rfl rfl rfl (QOp.ok (fun X => OpOk.load rfl rfl rfl (Rd.getIE (by assumption) rd2.left.left.left.left.left (by omega)))) ?_
            (refine Sd.exec 1 rfl rfl rfl rfl rfl ?hrest (by rfl) (fun Xy1 Ky1 hKy1 => ?_); case hrest => kernel_rfl)
            refine RunL.mem (fl2 (sep_emp _) (flS rfl)) ?_
            refine RunL.call cal26 rfl (s26 (by omega) (by omega)) rfl (fun vy2 Ay2 hy2 => ?_)
            obtain ⟨rfl, rfl⟩ := hy2
            refine Sd.ret hKy1 (Eq.trans rfl (gp2 (sep_emp _).symm (asg rfl))) ⟨_, (emp_sep _).symm⟩ ?_
            refine Sd.quiet 6 _ _ rfl rfl rfl rfl rfl (QOp.ok (fun X => OpOk.asT (OpOk.geq rfl rfl) (by omega))) ?_
            refine Sd.quiet 7 _ _ rfl rfl rfl rfl rfl (QOp.ok (fun X => OpOk.assign rfl)) ?_
            (apply Sd.tail; case hall => kernel_rfl)
            refine RunL.mem (fl2 (flS rfl) (sep_emp _)) ?_
            refine RunL.nil ?_
            refine Run.seq ?_
            (apply Run.drawD [] (by rfl) (Eq.trans rfl (asg (asg (asg rfl)))); case hchk => kernel_rfl)
            refine Sd.quiet 0 _ _ rfl rfl rfl rfl rfl (QOp.ok (fun X => OpOk.move rfl)) ?_
            refine Sd.quiet 1 _ _ rfl rfl rfl rfl rfl (QOp.ok (fun X => OpOk.move rfl)) ?_
            refine Sd.quiet 2 _ _ rfl rfl rfl rfl rfl (QOp.ok (fun X => OpOk.move rfl)) ?_
            refine Sd.quiet 3 _ _ rfl rfl rfl rfl rfl (QOp.ok (fun X => OpOk.idx1N rfl ti3 rfl rd2.left.left.left rfl (by omega))) ?_
            refine Sd.quiet 4 _ _ rfl rfl rfl rfl rfl (QOp.ok (fun X => OpOk.load rfl rfl rfl (Rd.getIE (by assumption) rd2.left.left.left (by omega)))) ?_
            refine Sd.quiet 7 _ _ rfl rfl rfl rfl rfl (QOp.ok (fun X => OpOk.move rfl)) ?_
            refine Sd.quiet 8 _ _ rfl rfl rfl rfl rfl (QOp.ok (fun X => OpOk.move rfl)) ?_
            refine Sd.quiet 9 _ _ rfl rfl rfl rfl rfl (QOp.ok (fun X => OpOk.move rfl)) ?_
            refine Sd.quiet 10 _ _ rfl rfl rfl rfl rfl (QOp.ok (fun X => OpOk.idx1N rfl ti3 rfl rd2.left.left.left rfl (by omega))) ?_
            refine Sd.quiet 11 _ _ rfl rfl rfl rfl rfl (QOp.ok (fun X => OpOk.load rfl rfl rfl (Rd.getIE (by assumption) rd2.left.left.left (by omega)))) ?_
            apply Sd.make 12 (by rfl) (by rfl) (by rfl) (by rfl) (by rfl) (by rfl)
            case h =>
              intro Xy5 Ky5 hKy5
              refine RunL.mem (sep_emp _) ?_
              refine RunL.litI (xs := [ws.getD i default]) rfl ti3 rfl rfl rfl (by decide) rfl (fun vy6 rdy6 => ?_)
              exact RunL.mem (Eq.trans rfl (gp2 rfl (sep_emp _).symm)) (hKy5 _)
            (refine Sd.exec 5 rfl rfl rfl rfl rfl ?hrest (by rfl) (fun Xy8 Ky8 hKy8 => ?_); case hrest => kernel_rfl)
            refine RunL.mem (fl2 (sep_emp _) (flS (flS (flS rfl)))) ?_
            refine RunL.litI (xs := [ws.getD i default]) rfl ti3 rfl rfl rfl (by decide) rfl (fun vy9 rdy9 => ?_)
            refine RunL.know (fun w s => (s.conv rfl).ownRd0) (fun rdy10 => ?_)
            refine Sd.ret hKy8 (Eq.trans (frc (frl rfl) (frc (frl rfl) (frc (frl rfl) (frc (frl rfl) rfl)))) (gp2 (asg (asg (asg rfl))) rfl)) ⟨_, (emp_sep _).symm⟩ ?_
            (refine Sd.exec 6 rfl rfl rfl rfl rfl ?hrest (by rfl) (fun Xy12 Ky12 hKy12 => ?_); case hrest => kernel_rfl)
            refine RunL.mem (fl2 rfl (flS (flS (flS rfl)))) ?_
            refine RunL.mem (frc (frl (frl rfl)) (frc (frl (frl rfl)) rfl)) ?_
            refine RunL.call cal23 rfl (s23 (Rd.right rdy10).left.left (by omega) (by assumption) (by omega)) rfl (fun vy13 Ay13 hy13 => ?_)
            obtain rfl := hy13
            refine RunL.know (fun w s => (s.conv rfl).ownRd0) (fun rdy14 => ?_)
            refine Sd.ret hKy12 (Eq.trans (frc (frl (frl (frl rfl))) (frc (frl (frl (frl rfl))) rfl)) (gp2 (asg rfl) (asg (asg (asg rfl))))) ⟨_, (asg (asg rfl))⟩ ?_
            refine Sd.quiet 14 _ _ rfl rfl rfl rfl rfl (QOp.ok (fun X => OpOk.assign rfl)) ?_
            (refine Sd.take 12 _ ?hrest (fun vy15 hvy15 => ?_); case hrest => kernel_rfl)
            have rdy15 := rdOf hvy15
            (refine Sd.exec 13 rfl rfl rfl rfl rfl ?hrest (by rfl) (fun Xy16 Ky16 hKy16 => ?_); case hrest => kernel_rfl)
            refine RunL.mem (fl2 (flS (flS (flS (flS rfl)))) (flS rfl)) ?_
            refine RunL.call cal23 rfl (s23 (Rd.right rdy15) (by omega) (by omega) (by omega)) rfl (fun vy17 Ay17 hy17 => ?_)
            obtain rfl := hy17
            refine RunL.know (fun w s => (s.conv rfl).ownRd0) (fun rdy18 => ?_)
            refine Sd.ret hKy16 (Eq.trans rfl (gp2 (sep_emp _).symm (asg (asg (asg (asg (asg (asg (asg rfl))))))))) ⟨_, (asg (asg rfl))⟩ ?_
            refine Sd.quiet 15 _ _ rfl rfl rfl rfl rfl (QOp.ok (fun X => OpOk.assign rfl)) ?_
            (apply Sd.tail; case hall => kernel_rfl)
            refine RunL.mem (fl2 (flS (flS (flS (flS (flS (flS (flS rfl))))))) (sep_emp _)) ?_
            refine RunL.nil ?_
            refine Run.seq ?_
            refine Run.seq ?_
            refine Run.region ?_
            refine RunL.ok (OpOk.move rfl) rfl ?_
            refine RunL.ok (OpOk.not rfl) rfl ?_
            refine RunL.nil ?_
            refine Run.condF rfl ?_
            refine Run.skip ?_
            refine Run.seq ?_
            (apply Run.drawD [] (by rfl) (sep_emp _).symm; case hchk => kernel_rfl)
            refine Sd.quiet 0 _ _ rfl rfl rfl rfl rfl (QOp.ok (fun X => OpOk.move rfl)) ?_
            refine Sd.quiet 1 _ _ rfl rfl rfl rfl rfl (QOp.ok (fun X => OpOk.lenR rfl rfl (Rd.right rdy14).left.left.left.left.left.left rfl)) ?_
            refine Sd.quiet 2 _ _ rfl rfl rfl rfl rfl (QOp.ok (fun X => OpOk.as (c := false) (OpOk.neq rfl rfl) (by rw [decide_eq_true (by omega)]; rfl))) ?_
            refine Sd.quiet 3 _ _ rfl rfl rfl rfl rfl (QOp.ok (fun X => OpOk.move rfl)) ?_
            refine Sd.quiet 4 _ _ rfl rfl rfl rfl rfl (QOp.ok (fun X => OpOk.move rfl)) ?_
            refine Sd.quiet 5 _ _ rfl rfl rfl rfl rfl (QOp.ok (fun X => OpOk.lenR rfl rfl (Rd.right rdy18).left.left rfl)) ?_
            refine Sd.quiet 6 _ _ rfl rfl rfl rfl rfl (QOp.ok (fun X => OpOk.as (c := false) (OpOk.neq rfl rfl) (by rw [decide_eq_true (by omega)]; rfl))) ?_
            refine Sd.quiet 7 _ _ rfl rfl rfl rfl rfl (QOp.ok (fun X => OpOk.pickF rfl rfl)) ?_
            refine Sd.quiet 8 _ _ rfl rfl rfl rfl rfl (QOp.ok (fun X => OpOk.move rfl)) ?_
            refine Sd.quiet 9 _ _ rfl rfl rfl rfl rfl (QOp.ok (fun X => OpOk.move rfl)) ?_
            refine Sd.quiet 10 _ _ rfl rfl rfl rfl rfl (QOp.ok (fun X => OpOk.idx1 rfl ti3 rfl (Rd.right rdy14).left.left.left.left.left.left rfl (by omega) (by omega))) ?_
            refine Sd.quiet 11 _ _ rfl rfl rfl rfl rfl (QOp.ok (fun X => OpOk.load rfl rfl rfl (Rd.getI (Rd.right rdy14).left.left.left.left.left.left (by omega)))) ?_
            refine Sd.quiet 12 _ _ rfl rfl rfl rfl rfl (QOp.ok (fun X => OpOk.move rfl)) ?_
            refine Sd.quiet 13 _ _ rfl rfl rfl rfl rfl (QOp.ok (fun X => OpOk.idx1 rfl ti3 rfl (Rd.right rdy18).left.left rfl (by omega) (by omega))) ?_
            refine Sd.quiet 14 _ _ rfl rfl rfl rfl rfl (QOp.ok (fun X => OpOk.load rfl rfl rfl (Rd.getIE (by assumption) (Rd.right rdy18).left.left (by omega)))) ?_
            refine Sd.quiet 15 _ _ rfl rfl rfl rfl rfl (QOp.ok (fun X => OpOk.as (c := false) (OpOk.neq rfl rfl) (by rw [decide_eq_true (by omega)]; rfl))) ?_
            refine Sd.quiet 16 _ _ rfl rfl rfl rfl rfl (QOp.ok (fun X => OpOk.pickF rfl rfl)) ?_
            (apply Sd.tail; case hall => kernel_rfl)
            refine RunL.mem (fl2 (sep_emp _) (sep_emp _)) ?_
            refine RunL.nil ?_
            refine Run.condF rfl ?_
            refine Run.skip ?_
            refine Run.inBlock ?_
            refine Run.region ?_
            refine RunL.ok (OpOk.move rfl) rfl ?_
            refine RunL.ok (OpOk.addN _ 1 rfl rfl rfl rfl (by omega)) rfl ?_
            refine RunL.ok (OpOk.assign rfl) rfl ?_
            refine RunL.nil ?_
            rw [g1, g3, e1, e3, ← hw]
            refine Run.jump ((ih (i + 1, J) ⟨by simp; omega, by show widthsN (ws.take (i + 1)) ≤ 8 * xs.length; omega⟩ (by simp; omega))) ⟨rfl, rfl, rfl, rfl, trivial⟩ (Grew.of (frc rfl (frc (frl (frl rfl)) (frc (frl (frl rfl)) (frc (frl (frl (frl (frl rfl)))) rfl)))) (Grew.mul (Grew.mul (Grew.mul (Grew.mul (Grew.refl _) _) _) _) _))
      · obtain rfl : i = ws.length := by omega
        clear ih
        refine Run.seq ?_
        refine Run.seq ?_
        refine Run.region ?_
        refine RunL.ok (OpOk.move rfl) rfl ?_
        refine RunL.ok (OpOk.move rfl) rfl ?_
        refine RunL.ok (OpOk.lenR rfl rfl rd2.left.left.left.left.left rfl) rfl ?_
        refine RunL.ok (OpOk.asF (OpOk.lss rfl rfl) (by omega)) rfl ?_
        refine RunL.nil ?_
        refine Run.condF rfl ?_
        refine Run.exit rfl ?_
        refine Run.seq ?_
        refine Run.region ?_
        refine RunL.ok (OpOk.move rfl) rfl ?_
        refine RunL.call cal25 rfl (s25) rfl (fun vy1 Ay1 hy1 => ?_)
        obtain ⟨rfl, rfl⟩ := hy1
        refine RunL.ok (OpOk.asT (OpOk.eql rfl rfl) (by omega)) rfl ?_
        refine RunL.ok (OpOk.assign rfl) rfl ?_
        refine RunL.nil ?_
        refine Run.ret1 Try.func5 rfl rfl ?_
        exact ⟨rfl, ⟨_, (asg (asg (asg (asg as1))))⟩⟩
end Go.Proofs.Ytlheianbmpgefaa
