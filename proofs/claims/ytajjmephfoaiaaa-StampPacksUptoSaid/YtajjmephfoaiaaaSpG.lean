/- Unpack. -/
import Derived.Test.YtajjmephfoaiaaaSpF
namespace Go.Proofs.Ytajjmephfoaiaaa
open Go Go.Proofs
set_option maxRecDepth 100000
set_option maxHeartbeats 4000000
theorem s42a {w0 : World} {A : Asn} {q : Nat} {v u : Value} {xs : List UInt8} {at_ m : Nat} {ws : List Int} (rd : Rd w0 A u 1 m (I ws)) (hlim : xs.length ≤ 140737488355328) (hb : ws.any badW = false) (hs : at_ + widthsN ws ≤ 8 * xs.length) (hws : m ≤ 17592186044416) :
    Spec Try.prog w0 42 [.pointer (some ⟨q, 0, none⟩), u] (A * pts q (.cells #[v, .int .i64 ((at_ : Nat) : Int), .int .i64 (0)] 85 (0, 0)) * own 5 1 v (xs).length (B (xs)))
      (fun v' A' => A' = A * pts q (.cells #[v, .int .i64 ((at_ + widthsN ws : Nat) : Int), .int .i64 (0)] 85 (0, 0)) * own 5 1 v (xs).length (B (xs)) * own 3 1 v' m (I (nums xs at_ ws))) :=
  (s42 rd hlim (by omega) hws).mono fun v' A' h => by
    have hl := rd.lenI
    have hE : takeE xs at_ 0 ws = 0 := by simp only [takeE, hb]; rw [if_pos trivial, if_neg (by decide), if_neg (by omega)]
    have hA : takeA xs at_ 0 ws = at_ + widthsN ws := by rw [takeA, if_pos hE]
    have hL : takeL xs at_ 0 ws = nums xs at_ ws := by rw [takeL, if_pos hE]
    rw [hE, hA, hL, nums_length, hl] at h
    exact h
theorem s32 {w0 : World} {A : Asn} {u : Value} {m : Nat} {bs : List UInt8} (rd : Rd w0 A u 1 m (B bs)) (hlim : m ≤ 35184372088832) :
    Spec Try.prog w0 32 [u] A (fun v' A' => ∃ z J, v' = .tuple #[z, .int .i64 (unpE bs)] ∧ A' = A * J * own 29 2 z (unpL bs).length (Fl encF (unpL bs))) := by
  have hl := rd.lenB
  subst hl
  refine Spec.of_run [(0, u)] Try.func32 rfl (Nat.le_of_ble_eq_true rfl) (by repeat (first | exact trivial | refine ⟨rfl, ?_⟩)) ?_
  rcases Decidable.em (bs.length % 4 = 0) with h4 | h4
  · refine Run.seq ?_
    refine Run.region ?_
    refine RunL.ok (OpOk.assign rfl) rfl ?_
    refine RunL.ok (OpOk.assign rfl) rfl ?_
    refine RunL.nil ?_
    refine Run.seq ?_
    refine Run.seq ?_
    refine Run.region ?_
    refine RunL.ok (OpOk.move rfl) rfl ?_
    refine RunL.ok (OpOk.lenR rfl rfl rd rfl) rfl ?_
    refine RunL.ok (OpOk.remN _ 4 rfl rfl rfl rfl (by omega)) rfl ?_
    refine RunL.ok (OpOk.as (c := false) (OpOk.neq rfl rfl) (by rw [decide_eq_true (by omega)]; rfl)) rfl ?_
    refine RunL.nil ?_
    refine Run.condF rfl ?_
    refine Run.skip ?_
    refine Run.seq ?_
    refine Run.region ?_
    refine RunL.ok (OpOk.assign rfl) rfl ?_
    refine RunL.nil ?_
    refine Run.seq ?_
    refine Run.region ?_
    refine RunL.ok (OpOk.move rfl) rfl ?_
    refine RunL.call cal41 rfl (s41 rd (by omega)) rfl (fun vx1 Ax1 hx1 => ?_)
    obtain ⟨x2, ⟨x3, ⟨rfl, rfl⟩⟩⟩ := hx1
    refine RunL.ok (OpOk.assign rfl) rfl ?_
    refine RunL.nil ?_
    refine Run.seq ?_
    refine Run.seq ?_
    refine Run.region ?_
    refine RunL.ok (OpOk.move rfl) rfl ?_
    refine RunL.ok (OpOk.lenR rfl rfl rd.left.left rfl) rfl ?_
    refine RunL.ok (OpOk.quoN _ 4 rfl rfl rfl rfl (by omega) (by omega)) rfl ?_
    refine RunL.ok (OpOk.move rfl) rfl ?_
    refine RunL.nil ?_
    refine Run.block ?_
    refine Run.mem (congrArg (fun X => X * _ * _) (sep_emp A).symm) ?_
    refine Run.ent (Ent.ownNil' _ 29 2 (Fl encF []) rfl) ?_
    refine Run.jump ((Run.loopJ (X := Nat × Value × Asn) (fun x => [(5, .pointer (some ⟨x2, 0, none⟩)), (4, x.2.1), (16, .int .i64 ((bs.length / 4 : Nat) : Int)), (17, .int .i64 (x.1 : Int))]) (fun x => A * x.2.2 * pts x2 (.cells #[x3, .int .i64 ((32 * x.1 : Nat) : Int), .int .i64 (0)] 85 (0, 0)) * own 5 1 x3 (bs).length (B (bs)) * own 29 2 x.2.1 x.1 (Fl encF ((List.range x.1).map (stp bs)))) (fun x => x.1 ≤ bs.length / 4 ∧ (List.range x.1).all (okS bs) = true) (fun x => bs.length / 4 - x.1) (0, .slice none 0 0, emp) ⟨Nat.zero_le _, rfl⟩ (fun x hx ih => ?_))) ⟨rfl, rfl, rfl, rfl, trivial⟩ (Grew.of (frc rfl rfl) (Grew.refl _))
    obtain ⟨i, v1, J⟩ := x
    simp only at hx ih ⊢
    obtain ⟨hi, hall⟩ := hx
    rcases Nat.lt_or_ge i (bs.length / 4) with hlt | hge
    · have hw : widthsN [16, 11, 5] = 32 := by decide
      have hfit : 32 * i + widthsN [16, 11, 5] ≤ 8 * bs.length := by rw [hw]; omega
      have n1 := num16 bs i
      obtain ⟨n2, n3⟩ := num11 bs i
      have hn : nums bs (32 * i) [16, 11, 5] = [((numAt bs (32 * i) 16 : Nat) : Int), ((numAt bs (32 * i + 16) 11 : Nat) : Int), ((numAt bs (32 * i + 27) 5 : Nat) : Int)] := rfl
      rw [n1, n2, n3] at hn
      have g0 : (nums bs (32 * i) [16, 11, 5]).getD (Int.toNat 0) 0 = ((256 * byN bs (4 * i) + byN bs (4 * i + 1) : Nat) : Int) := by rw [hn]; rfl
      have g1 : (nums bs (32 * i) [16, 11, 5]).getD (Int.toNat 1) 0 = ((lowS bs i / 32 : Nat) : Int) := by rw [hn]; rfl
      have g2 : (nums bs (32 * i) [16, 11, 5]).getD (Int.toNat 2) 0 = ((lowS bs i % 32 : Nat) : Int) := by rw [hn]; rfl
      have b0 := byN_lt bs (4 * i)
      have b1 := byN_lt bs (4 * i + 1)
      have b2 := lowS_lt bs i
      have hst : stp bs i = (((256 * byN bs (4 * i) + byN bs (4 * i + 1) : Nat) : Int), ((lowS bs i / 32 : Nat) : Int)) := rfl
      have hok : okS bs i = decide (lowS bs i % 32 = 0 ∧ lowS bs i / 32 < 1440) := rfl
      have hbad : okS bs i = false → unpE bs = 12 ∧ unpL bs = [] := fun h => by
        have e : unpE bs = 12 := by unfold unpE; rw [if_pos h4, rangeAll hlt h]; rfl
        exact ⟨e, by unfold unpL; rw [e]; rfl⟩
      refine Run.seq ?_
      refine Run.region ?_
      refine RunL.ok (OpOk.asT (OpOk.lss rfl rfl) (by omega)) rfl ?_
      refine RunL.nil ?_
      refine Run.seq ?_
      refine Run.condT rfl ?_
      refine Run.skip ?_
      refine Run.seq ?_
      refine Run.block ?_
      refine Run.seq ?_
      refine Run.region ?_
      refine RunL.ok (OpOk.move rfl) rfl ?_
      refine RunL.litI (xs := [16, 11, 5]) rfl ti3 rfl rfl rfl (by decide) rfl (fun vy1 rdy1 => ?_)
      refine RunL.know (fun w s => (s.conv rfl).ownRd0) (fun rdy2 => ?_)
      refine RunL.mem (frc (frl (frl rfl)) (frc (frl (frl rfl)) rfl)) ?_
      refine RunL.call cal42 rfl (s42a (Rd.right rdy2) (by omega) rfl (by assumption) (by omega)) rfl (fun vy3 Ay3 hy3 => ?_)
      obtain rfl := hy3
      refine RunL.ok (OpOk.assign rfl) rfl ?_
      refine RunL.nil ?_
      refine Run.seq ?_
      refine Run.know (fun w s => (s.conv (frl (frl (frl (frl rfl))))).ownRd0) (fun rdy4 => ?_)
      refine Run.know (fun w s => (s.conv (frl rfl)).ownRd0) (fun rdy5 => ?_)
      refine Run.know (fun w s => (s.conv rfl).ownRd0) (fun rdy6 => ?_)
      (apply Run.drawD [8] (by rfl) (sep_emp _).symm; case hchk => kernel_rfl)
      refine Sd.quiet 0 _ _ rfl rfl rfl rfl rfl (QOp.ok (fun X => OpOk.move rfl)) ?_
      refine Sd.quiet 1 _ _ rfl rfl rfl rfl rfl (QOp.ok (fun X => OpOk.idx1 rfl ti3 rfl (Rd.right rdy6).left.left rfl (by omega) (by omega))) ?_
      refine Sd.quiet 2 _ _ rfl rfl rfl rfl rfl (QOp.ok (fun X => OpOk.load rfl rfl rfl (Rd.getIE (by assumption) (Rd.right rdy6).left.left (by omega)))) ?_
      refine Sd.quiet 3 _ _ rfl rfl rfl rfl rfl (QOp.ok (fun X => OpOk.move rfl)) ?_
      refine Sd.quiet 4 _ _ rfl rfl rfl rfl rfl (QOp.ok (fun X => OpOk.idx1 rfl ti3 rfl (Rd.right rdy6).left.left rfl (by omega) (by omega))) ?_
      refine Sd.quiet 5 _ _ rfl rfl rfl rfl rfl (QOp.ok (fun X => OpOk.load rfl rfl rfl (Rd.getIE (by assumption) (Rd.right rdy6).left.left (by omega)))) ?_
      refine Sd.quiet 6 _ _ rfl rfl rfl rfl rfl (QOp.ok (fun X => OpOk.build (cells := #[.int (IntKind.i64) (↑(256 * byN bs (4 * i) + byN bs (4 * i + 1))), .int (IntKind.i64) (↑(lowS bs i / 32))]) rfl (fun w => run_build w 29 _ _ (by rfl)))) ?_
      (refine Sd.exec 7 rfl rfl rfl rfl rfl ?hrest (by rfl) (fun Xy7 Ky7 hKy7 => ?_); case hrest => kernel_rfl)
      refine RunL.mem (fl2 (sep_emp _) (sep_emp _)) ?_
      refine RunL.alloc ti29 rfl (fun by8 => ?_)
      refine Sd.ret hKy7 (Eq.trans rfl (gp2 (sep_emp _).symm rfl)) ⟨_, (emp_sep _).symm⟩ ?_
      (apply Sd.tail; case hall => kernel_rfl)
      refine RunL.mem (fl2 rfl (sep_emp _)) ?_
      refine RunL.storeAll ti29 rfl rfl rfl (ones rfl) rfl rfl ?_
      refine RunL.nil ?_
      refine Run.seq ?_
      refine Run.seq ?_
      refine Run.region ?_
      refine RunL.ok (OpOk.loadS rfl rfl ti29 rfl Blk.pts rfl) rfl ?_
      refine RunL.call cal29 rfl (s29) rfl (fun vy9 Ay9 hy9 => ?_)
      obtain ⟨rfl, rfl⟩ := hy9
      refine RunL.ok (OpOk.not rfl) rfl ?_
      refine RunL.ok (OpOk.move rfl) rfl ?_
      refine RunL.splitN (t := 32) rfl (fun y10 => ?_) (fun y10 => ?_)
      · refine RunL.off rfl rfl rfl rfl ?_
        refine RunL.off rfl rfl rfl rfl ?_
        refine RunL.off rfl rfl rfl rfl ?_
        refine RunL.off rfl rfl rfl rfl ?_
        refine RunL.ok (OpOk.pickT rfl rfl) rfl ?_
        refine RunL.nil ?_
        refine Run.condT rfl ?_
        refine Run.seq ?_
        refine Run.region ?_
        refine RunL.ok (OpOk.assign rfl) rfl ?_
        refine RunL.ok (OpOk.assign rfl) rfl ?_
        refine RunL.nil ?_
        refine Run.ent (Ent.ownNil' _ 29 2 (Fl encF []) rfl) ?_
        refine Run.ret2 Try.func32 rfl rfl rfl ?_
        obtain ⟨e1, e2⟩ := hbad (by rw [hok]; exact decide_eq_false (by omega))
        rw [e1, e2]
        exact ⟨_, _, rfl, (Eq.trans (frc rfl rfl) (congrArg (· * _) (asg (asg (asg (asg (asg (asg as1))))))))⟩
      refine RunL.on rfl rfl ?_
      refine RunL.ok (OpOk.move rfl) rfl ?_
      refine RunL.on rfl rfl ?_
      refine RunL.ok (OpOk.idx1 rfl ti3 rfl (Rd.right rdy6).left rfl (by omega) (by omega)) rfl ?_
      refine RunL.on rfl rfl ?_
      refine RunL.ok (OpOk.load rfl rfl rfl (Rd.getIE (by assumption) (Rd.right rdy6).left (by omega))) rfl ?_
      refine RunL.on rfl rfl ?_
      refine RunL.ok (OpOk.neq rfl rfl) rfl ?_
      refine RunL.ok (OpOk.pickF rfl rfl) rfl ?_
      refine RunL.nil ?_
      refine Run.condN rfl (fun y11 => ?_) (fun y11 => ?_)
      · refine Run.seq ?_
        refine Run.region ?_
        refine RunL.ok (OpOk.assign rfl) rfl ?_
        refine RunL.ok (OpOk.assign rfl) rfl ?_
        refine RunL.nil ?_
        refine Run.ent (Ent.ownNil' _ 29 2 (Fl encF []) rfl) ?_
        refine Run.ret2 Try.func32 rfl rfl rfl ?_
        obtain ⟨e1, e2⟩ := hbad (by rw [hok]; exact decide_eq_false (by omega))
        rw [e1, e2]
        exact ⟨_, _, rfl, (Eq.trans (frc rfl rfl) (congrArg (· * _) (asg (asg (asg (asg (asg (asg as1))))))))⟩
      refine Run.skip ?_
      refine Run.region ?_
      refine RunL.ok (OpOk.move rfl) rfl ?_
      refine RunL.ok (OpOk.loadS rfl rfl ti29 rfl Blk.pts rfl) rfl ?_
      refine RunL.litFl (enc := encT29) [(↑(256 * byN bs (4 * i) + byN bs (4 * i + 1)), ↑(lowS bs i / 32))] rfl ti29 rfl (fun _ => rfl) rfl rfl (by decide) (by decide) rfl (fun vy12 rdy12 => ?_)
      refine RunL.know (fun w s => (s.conv rfl).ownRd0) (fun rdy14 => ?_)
      refine RunL.appendF rfl ti29 rfl rfl rfl (frl (frl (frl (frl (frl (frl rfl)))))) (Rd.right rdy14) rfl (by decide) (by omega) (by simp only [maxLen]; omega) rfl (fun vy13 rdy13 => ?_)
      refine RunL.ok (OpOk.assign rfl) rfl ?_
      refine RunL.nil ?_
      refine Run.inBlock ?_
      refine Run.region ?_
      refine RunL.ok (OpOk.addN _ 1 rfl rfl rfl rfl (by omega)) rfl ?_
      refine RunL.ok (OpOk.move rfl) rfl ?_
      refine RunL.nil ?_
      rw [← hst, hw, show 32 * i + 32 = 32 * (i + 1) by omega, show List.map (stp bs) (List.range i) ++ [stp bs i] = List.map (stp bs) (List.range (i + 1)) by rw [List.range_succ, List.map_append]; rfl]
      refine Run.jump ((ih (i + 1, _, _) ⟨by simp; omega, rangeNext hall (by rw [hok]; exact decide_eq_true (by omega))⟩ (by simp; omega))) ⟨rfl, rfl, rfl, rfl, trivial⟩ (Grew.of (Eq.trans (frc rfl (frc (frl (frl (frl rfl))) (frc (frl (frl (frl rfl))) rfl))) (congrArg (· * _) (congrArg (· * _) (congrArg (· * _) (asg (asg (asg (asg as1)))))))) (Grew.refl _))
    · obtain rfl : i = bs.length / 4 := by omega
      have e1 : unpE bs = 0 := by unfold unpE; rw [if_pos h4, if_pos hall]
      have e2 : unpL bs = List.map (stp bs) (List.range (bs.length / 4)) := by unfold unpL; rw [e1]; rfl
      have e3 : (List.map (stp bs) (List.range (bs.length / 4))).length = bs.length / 4 := by simp
      refine Run.seq ?_
      refine Run.region ?_
      refine RunL.ok (OpOk.asF (OpOk.lss rfl rfl) (by omega)) rfl ?_
      refine RunL.nil ?_
      refine Run.seq ?_
      refine Run.condF rfl ?_
      refine Run.exit rfl ?_
      refine Run.seq ?_
      refine Run.region ?_
      refine RunL.ok (OpOk.move rfl) rfl ?_
      refine RunL.ok (OpOk.assign rfl) rfl ?_
      refine RunL.ok (OpOk.assign rfl) rfl ?_
      refine RunL.nil ?_
      refine Run.ret2 Try.func32 rfl rfl rfl ?_
      rw [e1, e2, e3]
      exact ⟨_, _, rfl, (congrArg (· * _) (asg (asg as1)))⟩
  · have e1 : unpE bs = 10 := by unfold unpE; rw [if_neg h4]
    have e2 : unpL bs = [] := by unfold unpL; rw [e1]; rfl
    refine Run.seq ?_
    refine Run.region ?_
    refine RunL.ok (OpOk.assign rfl) rfl ?_
    refine RunL.ok (OpOk.assign rfl) rfl ?_
    refine RunL.nil ?_
    refine Run.seq ?_
    refine Run.seq ?_
    refine Run.region ?_
    refine RunL.ok (OpOk.move rfl) rfl ?_
    refine RunL.ok (OpOk.lenR rfl rfl rd rfl) rfl ?_
    refine RunL.ok (OpOk.remN _ 4 rfl rfl rfl rfl (by omega)) rfl ?_
    refine RunL.ok (OpOk.as (c := true) (OpOk.neq rfl rfl) (by rw [decide_eq_false (by omega)]; rfl)) rfl ?_
    refine RunL.nil ?_
    refine Run.condT rfl ?_
    refine Run.seq ?_
    refine Run.region ?_
    refine RunL.ok (OpOk.assign rfl) rfl ?_
    refine RunL.ok (OpOk.assign rfl) rfl ?_
    refine RunL.nil ?_
    refine Run.ent (Ent.ownNil' _ 29 2 (Fl encF []) rfl) ?_
    refine Run.ret2 Try.func32 rfl rfl rfl ?_
    rw [e1, e2]
    refine ⟨_, emp, rfl, ?_⟩
    rw [sep_emp]
    rfl
end Go.Proofs.Ytajjmephfoaiaaa
