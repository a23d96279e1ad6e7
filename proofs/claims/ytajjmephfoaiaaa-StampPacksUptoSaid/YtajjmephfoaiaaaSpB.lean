/- The laws of stamps, walked. -/
import Derived.Test.YtajjmephfoaiaaaSpA
import Derived.Test.YtajjmephfoaiaaaSpn
namespace Go.Proofs.Ytajjmephfoaiaaa
open Go Go.Proofs
set_option maxRecDepth 100000
set_option maxHeartbeats 4000000
theorem stampAdds_spec {w0 : World} {s : Int × Int} {k : Int} (ha : -9223372036854775808 ≤ k ∧ k ≤ 9223372036854775807) :
    Spec Try.prog w0 9 [.agg (encF s).toArray, .int .i64 k] (old w0) (fun v' A' => v' = .bool true ∧ Grew (old w0) A') := by
  refine Spec.of_run [(0, .agg (encF s).toArray), (1, .int .i64 k)] Try.func9 rfl (Nat.le_of_ble_eq_true rfl) (by repeat (first | exact trivial | refine ⟨rfl, ?_⟩)) ?_
  refine Run.seq ?_
  refine Run.region ?_
  refine RunL.box rfl rfl (fun bx1 => ?_)
  refine RunL.ok (OpOk.assign rfl) rfl ?_
  refine RunL.nil ?_
  refine Run.seq ?_
  refine Run.seq ?_
  refine Run.region ?_
  refine RunL.call cal19 rfl (s19) rfl (fun vx2 Ax2 hx2 => ?_)
  obtain ⟨x3, ⟨rfl, rfl⟩⟩ := hx2
  refine RunL.ok (OpOk.not rfl) rfl ?_
  refine RunL.nil ?_
  refine Run.condF rfl ?_
  refine Run.skip ?_
  refine Run.seq ?_
  refine Run.region ?_
  refine RunL.ok (OpOk.loadS rfl rfl ti29 rfl Blk.pts.left rfl) rfl ?_
  refine RunL.ok (OpOk.move rfl) rfl ?_
  refine RunL.call cal20 rfl (s20) rfl (fun vx4 Ax4 hx4 => ?_)
  obtain ⟨⟨x5, ⟨x6, ⟨x7, ⟨rfl, ⟨x8⟩⟩⟩⟩⟩, rfl⟩ := hx4
  refine RunL.ok (OpOk.move rfl) rfl ?_
  refine RunL.ok (OpOk.ext20 rfl) rfl ?_
  refine RunL.ok (OpOk.ext21 rfl) rfl ?_
  refine RunL.alloc ti29 rfl (fun bx9 => ?_)
  refine RunL.storeAll ti29 rfl rfl rfl (ones rfl) rfl rfl ?_
  refine RunL.ok (OpOk.assign rfl) rfl ?_
  refine RunL.nil ?_
  refine Run.seq ?_
  refine Run.seq ?_
  refine Run.region ?_
  refine RunL.ok (OpOk.loadS rfl rfl ti29 rfl Blk.pts.left.left rfl) rfl ?_
  refine RunL.call cal23 rfl (s23) rfl (fun vx10 Ax10 hx10 => ?_)
  obtain ⟨rfl, rfl⟩ := hx10
  refine RunL.ok (OpOk.not rfl) rfl ?_
  refine RunL.nil ?_
  refine Run.condN rfl (fun x11 => ?_) (fun x11 => ?_)
  · refine Run.seq ?_
    refine Run.region ?_
    refine RunL.ok (OpOk.move rfl) rfl ?_
    refine RunL.ok (OpOk.asT (OpOk.eql rfl rfl) (by omega)) rfl ?_
    refine RunL.ok (OpOk.move rfl) rfl ?_
    refine RunL.on rfl rfl ?_
    refine RunL.ok (OpOk.loadS rfl rfl ti29 rfl Blk.pts rfl) rfl ?_
    refine RunL.on rfl rfl ?_
    refine RunL.ok (OpOk.build rfl (fun w => run_build w 29 _ _ (by rfl))) rfl ?_
    refine RunL.on rfl rfl ?_
    refine RunL.ok (OpOk.asT (OpOk.eqlTwo two29 rfl rfl) (by omega)) rfl ?_
    refine RunL.ok (OpOk.pickT rfl rfl) rfl ?_
    refine RunL.ok (OpOk.assign rfl) rfl ?_
    refine RunL.nil ?_
    refine Run.ret1 Try.func9 rfl rfl ?_
    exact ⟨rfl, ⟨_, (asg (asg as1))⟩⟩
  refine Run.skip ?_
  refine Run.seq ?_
  refine Run.region ?_
  refine RunL.ok (OpOk.fieldAddr fld29_0 rfl) rfl ?_
  refine RunL.ok (OpOk.load rfl rfl rfl (Blk.out Blk.pts.left.left _ _ rfl)) rfl ?_
  refine RunL.ok (OpOk.mul rfl rfl (wrapI (by omega) (by omega))) rfl ?_
  refine RunL.ok (OpOk.fieldAddr fld29_1 rfl) rfl ?_
  refine RunL.ok (OpOk.load rfl rfl rfl (Blk.out Blk.pts.left.left _ _ rfl)) rfl ?_
  refine RunL.ok (OpOk.add rfl rfl (wrapI (by omega) (by omega))) rfl ?_
  refine RunL.ok (OpOk.assign rfl) rfl ?_
  refine RunL.nil ?_
  refine Run.seq ?_
  refine Run.seq ?_
  refine Run.region ?_
  refine RunL.ok (OpOk.move rfl) rfl ?_
  refine RunL.ok (OpOk.move rfl) rfl ?_
  refine RunL.ok (OpOk.neg rfl (wrapI (by omega) (by omega))) rfl ?_
  refine RunL.ok (OpOk.lss rfl rfl) rfl ?_
  refine RunL.ok (OpOk.move rfl) rfl ?_
  refine RunL.splitD (t := 38) rfl (fun x12 => ?_) (fun x12 => ?_)
  · refine RunL.off rfl rfl rfl rfl ?_
    refine RunL.off rfl rfl rfl rfl ?_
    refine RunL.off rfl rfl rfl rfl ?_
    refine RunL.off rfl rfl rfl rfl ?_
    refine RunL.ok (OpOk.pickT rfl rfl) rfl ?_
    refine RunL.nil ?_
    refine Run.condT rfl ?_
    refine Run.seq ?_
    refine Run.region ?_
    refine RunL.ok (OpOk.move rfl) rfl ?_
    refine RunL.ok (OpOk.asT (OpOk.eql rfl rfl) (by omega)) rfl ?_
    refine RunL.ok (OpOk.move rfl) rfl ?_
    refine RunL.on rfl rfl ?_
    refine RunL.ok (OpOk.loadS rfl rfl ti29 rfl Blk.pts rfl) rfl ?_
    refine RunL.on rfl rfl ?_
    refine RunL.ok (OpOk.build rfl (fun w => run_build w 29 _ _ (by rfl))) rfl ?_
    refine RunL.on rfl rfl ?_
    refine RunL.ok (OpOk.asT (OpOk.eqlTwo two29 rfl rfl) (by omega)) rfl ?_
    refine RunL.ok (OpOk.pickT rfl rfl) rfl ?_
    refine RunL.ok (OpOk.assign rfl) rfl ?_
    refine RunL.nil ?_
    refine Run.ret1 Try.func9 rfl rfl ?_
    exact ⟨rfl, ⟨_, (asg (asg as1))⟩⟩
  refine RunL.on rfl rfl ?_
  refine RunL.ok (OpOk.move rfl) rfl ?_
  refine RunL.on rfl rfl ?_
  refine RunL.ok (OpOk.move rfl) rfl ?_
  refine RunL.on rfl rfl ?_
  refine RunL.ok (OpOk.sub rfl rfl (wrapI (by omega) (by omega))) rfl ?_
  refine RunL.on rfl rfl ?_
  refine RunL.ok (OpOk.gtr rfl rfl) rfl ?_
  refine RunL.ok (OpOk.pickF rfl rfl) rfl ?_
  refine RunL.nil ?_
  refine Run.condD rfl (fun x13 => ?_) (fun x13 => ?_)
  · refine Run.seq ?_
    refine Run.region ?_
    refine RunL.ok (OpOk.move rfl) rfl ?_
    refine RunL.ok (OpOk.asT (OpOk.eql rfl rfl) (by omega)) rfl ?_
    refine RunL.ok (OpOk.move rfl) rfl ?_
    refine RunL.on rfl rfl ?_
    refine RunL.ok (OpOk.loadS rfl rfl ti29 rfl Blk.pts rfl) rfl ?_
    refine RunL.on rfl rfl ?_
    refine RunL.ok (OpOk.build rfl (fun w => run_build w 29 _ _ (by rfl))) rfl ?_
    refine RunL.on rfl rfl ?_
    refine RunL.ok (OpOk.asT (OpOk.eqlTwo two29 rfl rfl) (by omega)) rfl ?_
    refine RunL.ok (OpOk.pickT rfl rfl) rfl ?_
    refine RunL.ok (OpOk.assign rfl) rfl ?_
    refine RunL.nil ?_
    refine Run.ret1 Try.func9 rfl rfl ?_
    exact ⟨rfl, ⟨_, (asg (asg as1))⟩⟩
  refine Run.skip ?_
  refine Run.seq ?_
  refine Run.region ?_
  refine RunL.ok (OpOk.loadS rfl rfl ti29 rfl Blk.pts rfl) rfl ?_
  refine RunL.ok (OpOk.move rfl) rfl ?_
  refine RunL.ok (OpOk.neg rfl (wrapI (by omega) (by omega))) rfl ?_
  refine RunL.call cal20 rfl (s20) rfl (fun vx14 Ax14 hx14 => ?_)
  obtain ⟨⟨x15, ⟨x16, ⟨x17, ⟨rfl, ⟨x18⟩⟩⟩⟩⟩, rfl⟩ := hx14
  refine RunL.ok (OpOk.move rfl) rfl ?_
  refine RunL.ok (OpOk.ext20 rfl) rfl ?_
  refine RunL.ok (OpOk.ext21 rfl) rfl ?_
  refine RunL.alloc ti29 rfl (fun bx19 => ?_)
  refine RunL.storeAll ti29 rfl rfl rfl (ones rfl) rfl rfl ?_
  refine RunL.ok (OpOk.assign rfl) rfl ?_
  refine RunL.nil ?_
  refine Run.seq ?_
  refine Run.region ?_
  refine RunL.ok (OpOk.move rfl) rfl ?_
  refine RunL.ok (OpOk.asT (OpOk.eql rfl rfl) (by omega)) rfl ?_
  refine RunL.ok (OpOk.move rfl) rfl ?_
  refine RunL.on rfl rfl ?_
  refine RunL.ok (OpOk.move rfl) rfl ?_
  refine RunL.on rfl rfl ?_
  refine RunL.ok (OpOk.asT (OpOk.eql rfl rfl) (by omega)) rfl ?_
  refine RunL.ok (OpOk.pickT rfl rfl) rfl ?_
  refine RunL.ok (OpOk.move rfl) rfl ?_
  refine RunL.on rfl rfl ?_
  refine RunL.ok (OpOk.loadS rfl rfl ti29 rfl Blk.pts rfl) rfl ?_
  refine RunL.on rfl rfl ?_
  refine RunL.ok (OpOk.loadS rfl rfl ti29 rfl Blk.pts.left.left.left rfl) rfl ?_
  refine RunL.on rfl rfl ?_
  refine RunL.ok (OpOk.asT (OpOk.eqlTwo two29 rfl rfl) (by omega)) rfl ?_
  refine RunL.ok (OpOk.pickT rfl rfl) rfl ?_
  refine RunL.ok (OpOk.move rfl) rfl ?_
  refine RunL.on rfl rfl ?_
  refine RunL.ok (OpOk.loadS rfl rfl ti29 rfl Blk.pts.left rfl) rfl ?_
  refine RunL.on rfl rfl ?_
  refine RunL.call cal23 rfl (s23) rfl (fun vx20 Ax20 hx20 => ?_)
  obtain ⟨rfl, rfl⟩ := hx20
  refine RunL.ok (OpOk.pickT rfl rfl) rfl ?_
  refine RunL.ok (OpOk.move rfl) rfl ?_
  refine RunL.splitDT (t := 73) rfl (by omega) ?_
  refine RunL.on rfl rfl ?_
  refine RunL.ok (OpOk.loadS rfl rfl ti29 rfl Blk.pts.left.left.left rfl) rfl ?_
  refine RunL.on rfl rfl ?_
  refine RunL.ok (OpOk.loadS rfl rfl ti29 rfl Blk.pts.left rfl) rfl ?_
  refine RunL.on rfl rfl ?_
  refine RunL.call cal24 rfl (s24) rfl (fun vx22 Ax22 hx22 => ?_)
  obtain ⟨rfl, rfl⟩ := hx22
  have x23 := btw_fact (s.fst) (s.snd) (x5) (x6)
  refine RunL.on rfl rfl ?_
  refine RunL.ok (OpOk.move rfl) rfl ?_
  refine RunL.on rfl rfl ?_
  refine RunL.ok (OpOk.asT (OpOk.eql rfl rfl) (by omega)) rfl ?_
  refine RunL.ok (OpOk.pickT rfl rfl) rfl ?_
  refine RunL.ok (OpOk.move rfl) rfl ?_
  refine RunL.on rfl rfl ?_
  refine RunL.ok (OpOk.loadS rfl rfl ti29 rfl Blk.pts.left rfl) rfl ?_
  refine RunL.on rfl rfl ?_
  refine RunL.ok (OpOk.loadS rfl rfl ti29 rfl Blk.pts.left.left.left rfl) rfl ?_
  refine RunL.on rfl rfl ?_
  refine RunL.call cal24 rfl (s24) rfl (fun vx24 Ax24 hx24 => ?_)
  obtain ⟨rfl, rfl⟩ := hx24
  have x25 := btw_fact (x5) (x6) (s.fst) (s.snd)
  refine RunL.on rfl rfl ?_
  refine RunL.ok (OpOk.move rfl) rfl ?_
  refine RunL.on rfl rfl ?_
  refine RunL.ok (OpOk.neg rfl (wrapI (by omega) (by omega))) rfl ?_
  refine RunL.on rfl rfl ?_
  refine RunL.ok (OpOk.asT (OpOk.eql rfl rfl) (by omega)) rfl ?_
  refine RunL.ok (OpOk.pickT rfl rfl) rfl ?_
  refine RunL.ok (OpOk.move rfl) rfl ?_
  refine RunL.on rfl rfl ?_
  refine RunL.ok (OpOk.fieldAddr fld29_0 rfl) rfl ?_
  refine RunL.on rfl rfl ?_
  refine RunL.ok (OpOk.load rfl rfl rfl (Blk.out Blk.pts.left _ _ rfl)) rfl ?_
  refine RunL.on rfl rfl ?_
  refine RunL.ok (OpOk.mul rfl rfl (wrapI (by omega) (by omega))) rfl ?_
  refine RunL.on rfl rfl ?_
  refine RunL.ok (OpOk.fieldAddr fld29_1 rfl) rfl ?_
  refine RunL.on rfl rfl ?_
  refine RunL.ok (OpOk.load rfl rfl rfl (Blk.out Blk.pts.left _ _ rfl)) rfl ?_
  refine RunL.on rfl rfl ?_
  refine RunL.ok (OpOk.add rfl rfl (wrapI (by omega) (by omega))) rfl ?_
  refine RunL.on rfl rfl ?_
  refine RunL.ok (OpOk.move rfl) rfl ?_
  refine RunL.on rfl rfl ?_
  refine RunL.ok (OpOk.move rfl) rfl ?_
  refine RunL.on rfl rfl ?_
  refine RunL.ok (OpOk.add rfl rfl (wrapI (by omega) (by omega))) rfl ?_
  refine RunL.on rfl rfl ?_
  refine RunL.ok (OpOk.asT (OpOk.eql rfl rfl) (by omega)) rfl ?_
  refine RunL.ok (OpOk.pickT rfl rfl) rfl ?_
  refine RunL.ok (OpOk.assign rfl) rfl ?_
  refine RunL.nil ?_
  refine Run.ret1 Try.func9 rfl rfl ?_
  exact ⟨rfl, ⟨_, (asg (asg (asg as1)))⟩⟩
theorem stampBack_spec {w0 : World} {n c : Int} (ha : -9223372036854775808 ≤ n ∧ n ≤ 9223372036854775807) (hb : -9223372036854775808 ≤ c ∧ c ≤ 9223372036854775807) :
    Spec Try.prog w0 11 [.int .i64 n, .int .i64 c] (old w0) (fun v' A' => v' = .bool true ∧ Grew (old w0) A') := by
  refine Spec.of_run [(0, .int .i64 n), (1, .int .i64 c)] Try.func11 rfl (Nat.le_of_ble_eq_true rfl) (by repeat (first | exact trivial | refine ⟨rfl, ?_⟩)) ?_
  refine Run.seq ?_
  refine Run.region ?_
  refine RunL.ok (OpOk.assign rfl) rfl ?_
  refine RunL.nil ?_
  refine Run.seq ?_
  refine Run.seq ?_
  refine Run.region ?_
  refine RunL.call cal19 rfl (s19) rfl (fun vx1 Ax1 hx1 => ?_)
  obtain ⟨x2, ⟨rfl, rfl⟩⟩ := hx1
  refine RunL.ok (OpOk.not rfl) rfl ?_
  refine RunL.nil ?_
  refine Run.condF rfl ?_
  refine Run.skip ?_
  refine Run.seq ?_
  refine Run.region ?_
  refine RunL.ok (OpOk.move rfl) rfl ?_
  refine RunL.ok (OpOk.move rfl) rfl ?_
  refine RunL.call cal21 rfl (s21 (by omega)) rfl (fun vx3 Ax3 hx3 => ?_)
  obtain ⟨x4, ⟨x5, ⟨x6, ⟨rfl, ⟨rfl, ⟨x7⟩⟩⟩⟩⟩⟩ := hx3
  refine RunL.ok (OpOk.move rfl) rfl ?_
  refine RunL.ok (OpOk.ext20 rfl) rfl ?_
  refine RunL.ok (OpOk.ext21 rfl) rfl ?_
  refine RunL.ok (OpOk.assign rfl) rfl ?_
  refine RunL.ok (OpOk.assign rfl) rfl ?_
  refine RunL.nil ?_
  refine Run.seq ?_
  refine Run.seq ?_
  refine Run.region ?_
  refine RunL.ok (OpOk.move rfl) rfl ?_
  refine RunL.ok (OpOk.neq rfl rfl) rfl ?_
  refine RunL.nil ?_
  refine Run.condN rfl (fun x8 => ?_) (fun x8 => ?_)
  · refine Run.seq ?_
    refine Run.region ?_
    refine RunL.ok (OpOk.move rfl) rfl ?_
    refine RunL.know (fun w s => (s.conv rfl).ownRd0) (fun rdx9 => ?_)
    refine RunL.ok (OpOk.lenR rfl rfl (Rd.right rdx9) rfl) rfl ?_
    refine RunL.ok (OpOk.eql rfl rfl) rfl ?_
    refine RunL.ok (OpOk.assign rfl) rfl ?_
    refine RunL.nil ?_
    refine Run.ret1 Try.func11 rfl rfl ?_
    have h : x6 = [] := by rcases x7 with h | h; exact h.2.1; exact absurd h.1 x8
    refine ⟨?_, (by repeat (first | exact Grew.refl _ | apply Grew.mul))⟩
    rw [h]
    rfl
  refine Run.skip ?_
  refine Run.seq ?_
  refine Run.region ?_
  refine RunL.ok (OpOk.move rfl) rfl ?_
  refine RunL.know (fun w s => (s.conv rfl).ownRd0) (fun rdx10 => ?_)
  refine RunL.call cal26 rfl (s26 (Rd.right rdx10)) rfl (fun vx11 Ax11 hx11 => ?_)
  obtain ⟨rfl, rfl⟩ := hx11
  refine RunL.ok (OpOk.move rfl) rfl ?_
  refine RunL.ok (OpOk.ext20 rfl) rfl ?_
  refine RunL.ok (OpOk.ext21 rfl) rfl ?_
  refine RunL.ok (OpOk.assign rfl) rfl ?_
  refine RunL.ok (OpOk.assign rfl) rfl ?_
  refine RunL.nil ?_
  refine Run.seq ?_
  refine Run.region ?_
  refine RunL.ok (OpOk.move rfl) rfl ?_
  refine RunL.ok (OpOk.eql rfl rfl) rfl ?_
  refine RunL.ok (OpOk.move rfl) rfl ?_
  refine RunL.splitD (t := 29) rfl (fun x12 => ?_) (fun x12 => ?_)
  · refine RunL.on rfl rfl ?_
    refine RunL.ok (OpOk.move rfl) rfl ?_
    refine RunL.on rfl rfl ?_
    refine RunL.ok (OpOk.move rfl) rfl ?_
    refine RunL.on rfl rfl ?_
    refine RunL.ok (OpOk.eql rfl rfl) rfl ?_
    refine RunL.ok (OpOk.pickT rfl rfl) rfl ?_
    refine RunL.ok (OpOk.move rfl) rfl ?_
    refine RunL.splitD (t := 34) rfl (fun x13 => ?_) (fun x13 => ?_)
    · refine RunL.on rfl rfl ?_
      refine RunL.ok (OpOk.move rfl) rfl ?_
      refine RunL.on rfl rfl ?_
      refine RunL.ok (OpOk.lenR rfl rfl (Rd.right rdx10) rfl) rfl ?_
      refine RunL.on rfl rfl ?_
      refine RunL.ok (OpOk.move rfl) rfl ?_
      refine RunL.on rfl rfl ?_
      refine RunL.ok (OpOk.quo rfl rfl (by decide) (quoI (by omega) (by omega) (by omega))) rfl ?_
      refine RunL.on rfl rfl ?_
      refine RunL.ok (OpOk.move rfl) rfl ?_
      refine RunL.on rfl rfl ?_
      refine RunL.ok (OpOk.rem rfl rfl (by decide) (tmodI (by omega))) rfl ?_
      refine RunL.on rfl rfl ?_
      refine RunL.ok (OpOk.add rfl rfl (wrapI (by omega) (by omega))) rfl ?_
      refine RunL.on rfl rfl ?_
      refine RunL.ok (OpOk.eql rfl rfl) rfl ?_
      refine RunL.ok (OpOk.pickT rfl rfl) rfl ?_
      refine RunL.ok (OpOk.assign rfl) rfl ?_
      refine RunL.nil ?_
      refine Run.ret1 Try.func11 rfl rfl ?_
      have g := digged_back ⟨x7⟩ x8
      rw [decide_eq_true (by omega)]
      exact ⟨rfl, ⟨_, (asg as1)⟩⟩
    refine RunL.off rfl rfl rfl rfl ?_
    refine RunL.off rfl rfl rfl rfl ?_
    refine RunL.off rfl rfl rfl rfl ?_
    refine RunL.off rfl rfl rfl rfl ?_
    refine RunL.off rfl rfl rfl rfl ?_
    refine RunL.off rfl rfl rfl rfl ?_
    refine RunL.off rfl rfl rfl rfl ?_
    refine RunL.off rfl rfl rfl rfl ?_
    refine RunL.ok (OpOk.pickF rfl rfl) rfl ?_
    refine RunL.ok (OpOk.assign rfl) rfl ?_
    refine RunL.nil ?_
    refine Run.ret1 Try.func11 rfl rfl ?_
    have g := digged_back ⟨x7⟩ x8
    exact absurd g.2.1 x13
  refine RunL.off rfl rfl rfl rfl ?_
  refine RunL.off rfl rfl rfl rfl ?_
  refine RunL.off rfl rfl rfl rfl ?_
  refine RunL.ok (OpOk.pickF rfl rfl) rfl ?_
  refine RunL.ok (OpOk.move rfl) rfl ?_
  refine RunL.off rfl rfl rfl rfl ?_
  refine RunL.off rfl rfl rfl rfl ?_
  refine RunL.off rfl rfl rfl rfl ?_
  refine RunL.off rfl rfl rfl rfl ?_
  refine RunL.off rfl rfl rfl rfl ?_
  refine RunL.off rfl rfl rfl rfl ?_
  refine RunL.off rfl rfl rfl rfl ?_
  refine RunL.off rfl rfl rfl rfl ?_
  refine RunL.ok (OpOk.pickF rfl rfl) rfl ?_
  refine RunL.ok (OpOk.assign rfl) rfl ?_
  refine RunL.nil ?_
  refine Run.ret1 Try.func11 rfl rfl ?_
  have g := digged_back ⟨x7⟩ x8
  exact absurd g.1 x12
theorem stampTexts_spec {w0 : World} {a b c : Int} (ha : -9223372036854775808 ≤ a ∧ a ≤ 9223372036854775807) (hb : -9223372036854775808 ≤ b ∧ b ≤ 9223372036854775807) :
    Spec Try.prog w0 5 [.int .i64 a, .int .i64 b, .int .i64 c] (old w0) (fun v' A' => v' = .bool true ∧ Grew (old w0) A') := by
  refine Spec.of_run [(0, .int .i64 a), (1, .int .i64 b), (2, .int .i64 c)] Try.func5 rfl (Nat.le_of_ble_eq_true rfl) (by repeat (first | exact trivial | refine ⟨rfl, ?_⟩)) ?_
  refine Run.seq ?_
  refine Run.region ?_
  refine RunL.ok (OpOk.assign rfl) rfl ?_
  refine RunL.nil ?_
  refine Run.seq ?_
  refine Run.seq ?_
  refine Run.region ?_
  refine RunL.call cal19 rfl (s19) rfl (fun vx1 Ax1 hx1 => ?_)
  obtain ⟨x2, ⟨rfl, rfl⟩⟩ := hx1
  refine RunL.ok (OpOk.not rfl) rfl ?_
  refine RunL.nil ?_
  refine Run.condF rfl ?_
  refine Run.skip ?_
  refine Run.seq ?_
  refine Run.region ?_
  refine RunL.ok (OpOk.move rfl) rfl ?_
  refine RunL.ok (OpOk.move rfl) rfl ?_
  refine RunL.call cal21 rfl (s21 (by omega)) rfl (fun vx3 Ax3 hx3 => ?_)
  obtain ⟨x4, ⟨x5, ⟨x6, ⟨rfl, ⟨rfl, ⟨x7⟩⟩⟩⟩⟩⟩ := hx3
  refine RunL.ok (OpOk.move rfl) rfl ?_
  refine RunL.ok (OpOk.ext20 rfl) rfl ?_
  refine RunL.ok (OpOk.ext21 rfl) rfl ?_
  refine RunL.ok (OpOk.assign rfl) rfl ?_
  refine RunL.ok (OpOk.assign rfl) rfl ?_
  refine RunL.nil ?_
  refine Run.seq ?_
  refine Run.region ?_
  refine RunL.ok (OpOk.move rfl) rfl ?_
  refine RunL.ok (OpOk.move rfl) rfl ?_
  refine RunL.call cal21 rfl (s21 (by omega)) rfl (fun vx8 Ax8 hx8 => ?_)
  obtain ⟨x9, ⟨x10, ⟨x11, ⟨rfl, ⟨rfl, ⟨x12⟩⟩⟩⟩⟩⟩ := hx8
  refine RunL.ok (OpOk.move rfl) rfl ?_
  refine RunL.ok (OpOk.ext20 rfl) rfl ?_
  refine RunL.ok (OpOk.ext21 rfl) rfl ?_
  refine RunL.ok (OpOk.assign rfl) rfl ?_
  refine RunL.ok (OpOk.assign rfl) rfl ?_
  refine RunL.nil ?_
  refine Run.seq ?_
  refine Run.seq ?_
  refine Run.region ?_
  refine RunL.ok (OpOk.move rfl) rfl ?_
  refine RunL.ok (OpOk.neq rfl rfl) rfl ?_
  refine RunL.ok (OpOk.move rfl) rfl ?_
  refine RunL.splitN (t := 27) rfl (fun x13 => ?_) (fun x13 => ?_)
  · refine RunL.off rfl rfl rfl rfl ?_
    refine RunL.off rfl rfl rfl rfl ?_
    refine RunL.ok (OpOk.pickT rfl rfl) rfl ?_
    refine RunL.nil ?_
    refine Run.condT rfl ?_
    refine Run.seq ?_
    refine Run.region ?_
    refine RunL.ok (OpOk.assign rfl) rfl ?_
    refine RunL.nil ?_
    refine Run.ret1 Try.func5 rfl rfl ?_
    exact ⟨rfl, ⟨_, (asg (asg as1))⟩⟩
  refine RunL.on rfl rfl ?_
  refine RunL.ok (OpOk.move rfl) rfl ?_
  refine RunL.on rfl rfl ?_
  refine RunL.ok (OpOk.neq rfl rfl) rfl ?_
  refine RunL.ok (OpOk.pickF rfl rfl) rfl ?_
  refine RunL.nil ?_
  refine Run.condN rfl (fun x14 => ?_) (fun x14 => ?_)
  · refine Run.seq ?_
    refine Run.region ?_
    refine RunL.ok (OpOk.assign rfl) rfl ?_
    refine RunL.nil ?_
    refine Run.ret1 Try.func5 rfl rfl ?_
    exact ⟨rfl, ⟨_, (asg (asg as1))⟩⟩
  refine Run.skip ?_
  refine Run.seq ?_
  refine Run.region ?_
  refine RunL.ok (OpOk.move rfl) rfl ?_
  refine RunL.know (fun w s => (s.conv (frl rfl)).ownRd0) (fun rdx15 => ?_)
  refine RunL.ok (OpOk.strOf rfl rfl rfl rfl (Rd.right rdx15).left) rfl ?_
  refine RunL.ok (OpOk.move rfl) rfl ?_
  refine RunL.know (fun w s => (s.conv rfl).ownRd0) (fun rdx16 => ?_)
  refine RunL.ok (OpOk.strOf rfl rfl rfl rfl (Rd.right rdx16)) rfl ?_
  refine RunL.ok (OpOk.lssSS rfl rfl) rfl ?_
  refine RunL.ok (OpOk.move rfl) rfl ?_
  refine RunL.ok (OpOk.move rfl) rfl ?_
  refine RunL.ok (OpOk.lss rfl rfl) rfl ?_
  refine RunL.ok (OpOk.eqlB rfl rfl rfl) rfl ?_
  refine RunL.ok (OpOk.move rfl) rfl ?_
  refine RunL.splitB (t := 40) rfl (fun x17 => ?_) (fun x17 => ?_)
  · refine RunL.on rfl rfl ?_
    refine RunL.ok (OpOk.move rfl) rfl ?_
    refine RunL.on rfl rfl ?_
    refine RunL.ok (OpOk.strOf rfl rfl rfl rfl (Rd.right rdx15).left) rfl ?_
    refine RunL.on rfl rfl ?_
    refine RunL.ok (OpOk.move rfl) rfl ?_
    refine RunL.on rfl rfl ?_
    refine RunL.ok (OpOk.strOf rfl rfl rfl rfl (Rd.right rdx16)) rfl ?_
    refine RunL.on rfl rfl ?_
    refine RunL.ok (OpOk.eqlSS rfl rfl) rfl ?_
    refine RunL.on rfl rfl ?_
    refine RunL.ok (OpOk.move rfl) rfl ?_
    refine RunL.on rfl rfl ?_
    refine RunL.ok (OpOk.move rfl) rfl ?_
    refine RunL.on rfl rfl ?_
    refine RunL.ok (OpOk.eql rfl rfl) rfl ?_
    refine RunL.on rfl rfl ?_
    refine RunL.ok (OpOk.eqlB rfl rfl rfl) rfl ?_
    refine RunL.ok (OpOk.pickT rfl rfl) rfl ?_
    refine RunL.ok (OpOk.assign rfl) rfl ?_
    refine RunL.nil ?_
    refine Run.ret1 Try.func5 rfl rfl ?_
    have g1 := digged_back ⟨x7⟩ x13
    have g2 := digged_back ⟨x12⟩ x14
    have g3 := order_digits (by omega) g1.2.2.2.1 g2.2.2.2.1
    refine ⟨?_, (by repeat (first | exact Grew.refl _ | apply Grew.mul))⟩
    rw [show decide (x6 = x11) = decide (a = b) from decide_eq_decide.2 (g3.2.trans (by omega)), beq_self_eq_true]
  refine RunL.off rfl rfl rfl rfl ?_
  refine RunL.off rfl rfl rfl rfl ?_
  refine RunL.off rfl rfl rfl rfl ?_
  refine RunL.off rfl rfl rfl rfl ?_
  refine RunL.off rfl rfl rfl rfl ?_
  refine RunL.off rfl rfl rfl rfl ?_
  refine RunL.off rfl rfl rfl rfl ?_
  refine RunL.off rfl rfl rfl rfl ?_
  refine RunL.off rfl rfl rfl rfl ?_
  refine RunL.ok (OpOk.pickF rfl rfl) rfl ?_
  refine RunL.ok (OpOk.assign rfl) rfl ?_
  refine RunL.nil ?_
  refine Run.ret1 Try.func5 rfl rfl ?_
  have g1 := digged_back ⟨x7⟩ x13
  have g2 := digged_back ⟨x12⟩ x14
  have g3 := order_digits (by omega) g1.2.2.2.1 g2.2.2.2.1
  rw [g3.1, show decide (numB x6 < numB x11) = decide (a < b) from decide_eq_decide.2 (by omega), beq_self_eq_true] at x17
  cases x17
theorem stampOrder_spec {w0 : World} {a b : Int × Int} :
    Spec Try.prog w0 13 [.agg (encF a).toArray, .agg (encF b).toArray] (old w0) (fun v' A' => v' = .bool true ∧ Grew (old w0) A') := by
  refine Spec.of_run [(0, .agg (encF a).toArray), (1, .agg (encF b).toArray)] Try.func13 rfl (Nat.le_of_ble_eq_true rfl) (by repeat (first | exact trivial | refine ⟨rfl, ?_⟩)) ?_
  refine Run.seq ?_
  refine Run.region ?_
  refine RunL.box rfl rfl (fun bx1 => ?_)
  refine RunL.box rfl rfl (fun bx2 => ?_)
  refine RunL.ok (OpOk.assign rfl) rfl ?_
  refine RunL.nil ?_
  refine Run.seq ?_
  refine Run.seq ?_
  refine Run.region ?_
  refine RunL.call cal19 rfl (s19) rfl (fun vx3 Ax3 hx3 => ?_)
  obtain ⟨x4, ⟨rfl, rfl⟩⟩ := hx3
  refine RunL.ok (OpOk.not rfl) rfl ?_
  refine RunL.ok (OpOk.move rfl) rfl ?_
  refine RunL.on rfl rfl ?_
  refine RunL.ok (OpOk.loadS rfl rfl ti29 rfl Blk.pts.left.left rfl) rfl ?_
  refine RunL.on rfl rfl ?_
  refine RunL.call cal29 rfl (s29) rfl (fun vx5 Ax5 hx5 => ?_)
  obtain ⟨rfl, rfl⟩ := hx5
  refine RunL.on rfl rfl ?_
  refine RunL.ok (OpOk.not rfl) rfl ?_
  refine RunL.ok (OpOk.pickF rfl rfl) rfl ?_
  refine RunL.ok (OpOk.move rfl) rfl ?_
  refine RunL.splitN (t := 18) rfl (fun x6 => ?_) (fun x6 => ?_)
  · refine RunL.off rfl rfl rfl rfl ?_
    refine RunL.off rfl rfl rfl rfl ?_
    refine RunL.off rfl rfl rfl rfl ?_
    refine RunL.ok (OpOk.pickT rfl rfl) rfl ?_
    refine RunL.nil ?_
    refine Run.condT rfl ?_
    refine Run.seq ?_
    refine Run.region ?_
    refine RunL.call cal19 rfl (s19) rfl (fun vx7 Ax7 hx7 => ?_)
    obtain ⟨x8, ⟨rfl, rfl⟩⟩ := hx7
    refine RunL.ok (OpOk.assign rfl) rfl ?_
    refine RunL.nil ?_
    refine Run.ret1 Try.func13 rfl rfl ?_
    exact ⟨rfl, ⟨_, (asg (asg (asg as1)))⟩⟩
  refine RunL.on rfl rfl ?_
  refine RunL.ok (OpOk.loadS rfl rfl ti29 rfl Blk.pts.left rfl) rfl ?_
  refine RunL.on rfl rfl ?_
  refine RunL.call cal29 rfl (s29) rfl (fun vx9 Ax9 hx9 => ?_)
  obtain ⟨rfl, rfl⟩ := hx9
  refine RunL.on rfl rfl ?_
  refine RunL.ok (OpOk.not rfl) rfl ?_
  refine RunL.ok (OpOk.pickF rfl rfl) rfl ?_
  refine RunL.nil ?_
  refine Run.condN rfl (fun x10 => ?_) (fun x10 => ?_)
  · refine Run.seq ?_
    refine Run.region ?_
    refine RunL.call cal19 rfl (s19) rfl (fun vx11 Ax11 hx11 => ?_)
    obtain ⟨x12, ⟨rfl, rfl⟩⟩ := hx11
    refine RunL.ok (OpOk.assign rfl) rfl ?_
    refine RunL.nil ?_
    refine Run.ret1 Try.func13 rfl rfl ?_
    exact ⟨rfl, ⟨_, (asg (asg (asg as1)))⟩⟩
  refine Run.skip ?_
  refine Run.seq ?_
  refine Run.region ?_
  refine RunL.ok (OpOk.loadS rfl rfl ti29 rfl Blk.pts.left.left rfl) rfl ?_
  refine RunL.ok (OpOk.loadS rfl rfl ti29 rfl Blk.pts.left rfl) rfl ?_
  refine RunL.call cal24 rfl (s24) rfl (fun vx13 Ax13 hx13 => ?_)
  obtain ⟨rfl, rfl⟩ := hx13
  have x14 := btw_fact (a.fst) (a.snd) (b.fst) (b.snd)
  refine RunL.ok (OpOk.assign rfl) rfl ?_
  refine RunL.nil ?_
  refine Run.seq ?_
  refine Run.region ?_
  refine RunL.ok (OpOk.loadS rfl rfl ti29 rfl Blk.pts.left.left rfl) rfl ?_
  refine RunL.ok (OpOk.loadS rfl rfl ti29 rfl Blk.pts.left rfl) rfl ?_
  refine RunL.litFl (enc := encT29) [a, b] rfl ti29 rfl (fun _ => rfl) rfl rfl (by decide) (by decide) rfl (fun vx15 rdx15 => ?_)
  refine RunL.know (fun w s => (s.conv rfl).ownRd0) (fun rdx16 => ?_)
  refine RunL.call cal28 rfl (s28 (Rd.right rdx16)) rfl (fun vx17 Ax17 hx17 => ?_)
  obtain ⟨⟨x18, ⟨x19, ⟨rfl, x20⟩⟩⟩, rfl⟩ := hx17
  refine RunL.ok (OpOk.move rfl) rfl ?_
  refine RunL.ok (OpOk.ext20 rfl) rfl ?_
  refine RunL.ok (OpOk.ext21 rfl) rfl ?_
  refine RunL.alloc ti29 rfl (fun bx21 => ?_)
  refine RunL.storeAll ti29 rfl rfl rfl (ones rfl) rfl rfl ?_
  refine RunL.ok (OpOk.assign rfl) rfl ?_
  refine RunL.nil ?_
  refine Run.seq ?_
  refine Run.region ?_
  refine RunL.ok (OpOk.loadS rfl rfl ti29 rfl Blk.pts.left.left.left rfl) rfl ?_
  refine RunL.ok (OpOk.loadS rfl rfl ti29 rfl Blk.pts.left.left.left.left rfl) rfl ?_
  refine RunL.litFl (enc := encT29) [b, a] rfl ti29 rfl (fun _ => rfl) rfl rfl (by decide) (by decide) rfl (fun vx22 rdx22 => ?_)
  refine RunL.know (fun w s => (s.conv rfl).ownRd0) (fun rdx23 => ?_)
  refine RunL.call cal28 rfl (s28 (Rd.right rdx23)) rfl (fun vx24 Ax24 hx24 => ?_)
  obtain ⟨⟨x25, ⟨x26, ⟨rfl, x27⟩⟩⟩, rfl⟩ := hx24
  refine RunL.ok (OpOk.move rfl) rfl ?_
  refine RunL.ok (OpOk.ext20 rfl) rfl ?_
  refine RunL.ok (OpOk.ext21 rfl) rfl ?_
  refine RunL.alloc ti29 rfl (fun bx28 => ?_)
  refine RunL.storeAll ti29 rfl rfl rfl (ones rfl) rfl rfl ?_
  refine RunL.ok (OpOk.assign rfl) rfl ?_
  refine RunL.nil ?_
  refine Run.seq ?_
  refine Run.region ?_
  refine RunL.ok (OpOk.loadS rfl rfl ti29 rfl Blk.pts.left.left.left.left.left.left rfl) rfl ?_
  refine RunL.alloc ti29 rfl (fun bx29 => ?_)
  refine RunL.storeAll ti29 rfl rfl rfl (ones rfl) rfl rfl ?_
  refine RunL.nil ?_
  refine Run.seq ?_
  refine Run.seq ?_
  refine Run.region ?_
  refine RunL.ok (OpOk.move rfl) rfl ?_
  refine RunL.ok (OpOk.gtr rfl rfl) rfl ?_
  refine RunL.nil ?_
  refine Run.condD rfl (fun x30 => ?_) (fun x30 => ?_)
  · refine Run.region ?_
    refine RunL.ok (OpOk.loadS rfl rfl ti29 rfl Blk.pts.left.left.left.left.left.left rfl) rfl ?_
    refine RunL.storeAll ti29 rfl rfl rfl (ones rfl) rfl rfl ?_
    refine RunL.nil ?_
    refine Run.seq ?_
    refine Run.region ?_
    refine RunL.ok (OpOk.move rfl) rfl ?_
    refine RunL.ok (OpOk.move rfl) rfl ?_
    refine RunL.splitB (t := 46) rfl (fun x31 => ?_) (fun x31 => ?_)
    · refine RunL.on rfl rfl ?_
      refine RunL.ok (OpOk.move rfl) rfl ?_
      refine RunL.ok (OpOk.pickT rfl rfl) rfl ?_
      refine RunL.ok (OpOk.move rfl) rfl ?_
      refine RunL.splitB (t := 49) rfl (fun x32 => ?_) (fun x32 => ?_)
      · refine RunL.on rfl rfl ?_
        refine RunL.ok (OpOk.loadS rfl rfl ti29 rfl Blk.pts.left.left.left rfl) rfl ?_
        refine RunL.on rfl rfl ?_
        refine RunL.ok (OpOk.loadS rfl rfl ti29 rfl Blk.pts rfl) rfl ?_
        refine RunL.on rfl rfl ?_
        refine RunL.ok (OpOk.eqlTwo two29 rfl rfl) rfl ?_
        refine RunL.ok (OpOk.pickT rfl rfl) rfl ?_
        refine RunL.ok (OpOk.move rfl) rfl ?_
        refine RunL.splitD (t := 54) rfl (fun x33 => ?_) (fun x33 => ?_)
        · refine RunL.on rfl rfl ?_
          refine RunL.ok (OpOk.loadS rfl rfl ti29 rfl Blk.pts.left rfl) rfl ?_
          refine RunL.on rfl rfl ?_
          refine RunL.ok (OpOk.loadS rfl rfl ti29 rfl Blk.pts rfl) rfl ?_
          refine RunL.on rfl rfl ?_
          refine RunL.ok (OpOk.eqlTwo two29 rfl rfl) rfl ?_
          refine RunL.ok (OpOk.pickT rfl rfl) rfl ?_
          refine RunL.ok (OpOk.move rfl) rfl ?_
          refine RunL.splitD (t := 59) rfl (fun x34 => ?_) (fun x34 => ?_)
          · refine RunL.on rfl rfl ?_
            refine RunL.ok (OpOk.loadS rfl rfl ti29 rfl Blk.pts.left.left.left.left.left.left rfl) rfl ?_
            refine RunL.on rfl rfl ?_
            refine RunL.ok (OpOk.loadS rfl rfl ti29 rfl Blk.pts.left.left.left.left.left.left.left rfl) rfl ?_
            refine RunL.on rfl rfl ?_
            refine RunL.call cal24 rfl (s24) rfl (fun vx35 Ax35 hx35 => ?_)
            obtain ⟨rfl, rfl⟩ := hx35
            have x36 := btw_fact (b.fst) (b.snd) (a.fst) (a.snd)
            refine RunL.on rfl rfl ?_
            refine RunL.ok (OpOk.move rfl) rfl ?_
            refine RunL.on rfl rfl ?_
            refine RunL.ok (OpOk.neg rfl (wrapI (by omega) (by omega))) rfl ?_
            refine RunL.on rfl rfl ?_
            refine RunL.ok (OpOk.asT (OpOk.eql rfl rfl) (by omega)) rfl ?_
            refine RunL.ok (OpOk.pickT rfl rfl) rfl ?_
            refine RunL.ok (OpOk.move rfl) rfl ?_
            refine RunL.on rfl rfl ?_
            refine RunL.ok (OpOk.move rfl) rfl ?_
            refine RunL.on rfl rfl ?_
            refine RunL.ok (OpOk.asF (OpOk.eql rfl rfl) (by omega)) rfl ?_
            refine RunL.on rfl rfl ?_
            refine RunL.ok (OpOk.loadS rfl rfl ti29 rfl Blk.pts.left.left.left.left.left.left.left rfl) rfl ?_
            refine RunL.on rfl rfl ?_
            refine RunL.ok (OpOk.loadS rfl rfl ti29 rfl Blk.pts.left.left.left.left.left.left rfl) rfl ?_
            refine RunL.on rfl rfl ?_
            refine RunL.ok (OpOk.asF (OpOk.eqlTwo two29 rfl rfl) (by omega)) rfl ?_
            refine RunL.on rfl rfl ?_
            refine RunL.ok (OpOk.eqlB rfl rfl rfl) rfl ?_
            refine RunL.ok (OpOk.pickT rfl rfl) rfl ?_
            refine RunL.ok (OpOk.assign rfl) rfl ?_
            refine RunL.nil ?_
            refine Run.ret1 Try.func13 rfl rfl ?_
            exact ⟨rfl, ⟨_, (asg (asg (asg (asg (asg (asg (asg as1)))))))⟩⟩
          refine RunL.off rfl rfl rfl rfl ?_
          refine RunL.off rfl rfl rfl rfl ?_
          refine RunL.off rfl rfl rfl rfl ?_
          refine RunL.off rfl rfl rfl rfl ?_
          refine RunL.off rfl rfl rfl rfl ?_
          refine RunL.off rfl rfl rfl rfl ?_
          refine RunL.ok (OpOk.pickF rfl rfl) rfl ?_
          refine RunL.ok (OpOk.move rfl) rfl ?_
          refine RunL.off rfl rfl rfl rfl ?_
          refine RunL.off rfl rfl rfl rfl ?_
          refine RunL.off rfl rfl rfl rfl ?_
          refine RunL.off rfl rfl rfl rfl ?_
          refine RunL.off rfl rfl rfl rfl ?_
          refine RunL.off rfl rfl rfl rfl ?_
          refine RunL.ok (OpOk.pickF rfl rfl) rfl ?_
          refine RunL.ok (OpOk.assign rfl) rfl ?_
          refine RunL.nil ?_
          refine Run.ret1 Try.func13 rfl rfl ?_
          have g1 := lat2 (by assumption) (by assumption) ‹latOk [a, b] _ _›
          have g2 := lat2 (by assumption) (by assumption) ‹latOk [b, a] _ _›
          have g3 := btw_fact b.1 b.2 a.1 a.2
          refine ⟨?_, (by repeat (first | exact Grew.refl _ | apply Grew.mul))⟩
          first | (exfalso; simp_all; done) | (exfalso; simp_all; omega) | (rw [decide_eq_true (by omega)]; done) | (rw [decide_eq_true (by omega)]; rfl) | (rw [decide_eq_false (by omega)]; rfl) | (rw [decide_eq_false (by omega), decide_eq_false (by omega)]; rfl) | (rw [decide_eq_true (by omega), decide_eq_true (by omega)]; rfl) | (rw [show decide (btw a.1 a.2 b.1 b.2 = 0) = decide (a.1 = b.1 ∧ a.2 = b.2) from decide_eq_decide.2 (by omega), beq_self_eq_true])
        refine RunL.off rfl rfl rfl rfl ?_
        refine RunL.off rfl rfl rfl rfl ?_
        refine RunL.off rfl rfl rfl rfl ?_
        refine RunL.ok (OpOk.pickF rfl rfl) rfl ?_
        refine RunL.ok (OpOk.move rfl) rfl ?_
        refine RunL.off rfl rfl rfl rfl ?_
        refine RunL.off rfl rfl rfl rfl ?_
        refine RunL.off rfl rfl rfl rfl ?_
        refine RunL.off rfl rfl rfl rfl ?_
        refine RunL.off rfl rfl rfl rfl ?_
        refine RunL.off rfl rfl rfl rfl ?_
        refine RunL.ok (OpOk.pickF rfl rfl) rfl ?_
        refine RunL.ok (OpOk.move rfl) rfl ?_
        refine RunL.off rfl rfl rfl rfl ?_
        refine RunL.off rfl rfl rfl rfl ?_
        refine RunL.off rfl rfl rfl rfl ?_
        refine RunL.off rfl rfl rfl rfl ?_
        refine RunL.off rfl rfl rfl rfl ?_
        refine RunL.off rfl rfl rfl rfl ?_
        refine RunL.ok (OpOk.pickF rfl rfl) rfl ?_
        refine RunL.ok (OpOk.assign rfl) rfl ?_
        refine RunL.nil ?_
        refine Run.ret1 Try.func13 rfl rfl ?_
        have g1 := lat2 (by assumption) (by assumption) ‹latOk [a, b] _ _›
        have g2 := lat2 (by assumption) (by assumption) ‹latOk [b, a] _ _›
        have g3 := btw_fact b.1 b.2 a.1 a.2
        refine ⟨?_, (by repeat (first | exact Grew.refl _ | apply Grew.mul))⟩
        first | (exfalso; simp_all; done) | (exfalso; simp_all; omega) | (rw [decide_eq_true (by omega)]; done) | (rw [decide_eq_true (by omega)]; rfl) | (rw [decide_eq_false (by omega)]; rfl) | (rw [decide_eq_false (by omega), decide_eq_false (by omega)]; rfl) | (rw [decide_eq_true (by omega), decide_eq_true (by omega)]; rfl) | (rw [show decide (btw a.1 a.2 b.1 b.2 = 0) = decide (a.1 = b.1 ∧ a.2 = b.2) from decide_eq_decide.2 (by omega), beq_self_eq_true])
      refine RunL.off rfl rfl rfl rfl ?_
      refine RunL.off rfl rfl rfl rfl ?_
      refine RunL.off rfl rfl rfl rfl ?_
      refine RunL.ok (OpOk.pickF rfl rfl) rfl ?_
      refine RunL.ok (OpOk.move rfl) rfl ?_
      refine RunL.off rfl rfl rfl rfl ?_
      refine RunL.off rfl rfl rfl rfl ?_
      refine RunL.off rfl rfl rfl rfl ?_
      refine RunL.ok (OpOk.pickF rfl rfl) rfl ?_
      refine RunL.ok (OpOk.move rfl) rfl ?_
      refine RunL.off rfl rfl rfl rfl ?_
      refine RunL.off rfl rfl rfl rfl ?_
      refine RunL.off rfl rfl rfl rfl ?_
      refine RunL.off rfl rfl rfl rfl ?_
      refine RunL.off rfl rfl rfl rfl ?_
      refine RunL.off rfl rfl rfl rfl ?_
      refine RunL.ok (OpOk.pickF rfl rfl) rfl ?_
      refine RunL.ok (OpOk.move rfl) rfl ?_
      refine RunL.off rfl rfl rfl rfl ?_
      refine RunL.off rfl rfl rfl rfl ?_
      refine RunL.off rfl rfl rfl rfl ?_
      refine RunL.off rfl rfl rfl rfl ?_
      refine RunL.off rfl rfl rfl rfl ?_
      refine RunL.off rfl rfl rfl rfl ?_
      refine RunL.ok (OpOk.pickF rfl rfl) rfl ?_
      refine RunL.ok (OpOk.assign rfl) rfl ?_
      refine RunL.nil ?_
      refine Run.ret1 Try.func13 rfl rfl ?_
      have g1 := lat2 (by assumption) (by assumption) ‹latOk [a, b] _ _›
      have g2 := lat2 (by assumption) (by assumption) ‹latOk [b, a] _ _›
      have g3 := btw_fact b.1 b.2 a.1 a.2
      refine ⟨?_, (by repeat (first | exact Grew.refl _ | apply Grew.mul))⟩
      first | (exfalso; simp_all; done) | (exfalso; simp_all; omega) | (rw [decide_eq_true (by omega)]; done) | (rw [decide_eq_true (by omega)]; rfl) | (rw [decide_eq_false (by omega)]; rfl) | (rw [decide_eq_false (by omega), decide_eq_false (by omega)]; rfl) | (rw [decide_eq_true (by omega), decide_eq_true (by omega)]; rfl) | (rw [show decide (btw a.1 a.2 b.1 b.2 = 0) = decide (a.1 = b.1 ∧ a.2 = b.2) from decide_eq_decide.2 (by omega), beq_self_eq_true])
    refine RunL.off rfl rfl rfl rfl ?_
    refine RunL.ok (OpOk.pickF rfl rfl) rfl ?_
    refine RunL.ok (OpOk.move rfl) rfl ?_
    refine RunL.off rfl rfl rfl rfl ?_
    refine RunL.off rfl rfl rfl rfl ?_
    refine RunL.off rfl rfl rfl rfl ?_
    refine RunL.ok (OpOk.pickF rfl rfl) rfl ?_
    refine RunL.ok (OpOk.move rfl) rfl ?_
    refine RunL.off rfl rfl rfl rfl ?_
    refine RunL.off rfl rfl rfl rfl ?_
    refine RunL.off rfl rfl rfl rfl ?_
    refine RunL.ok (OpOk.pickF rfl rfl) rfl ?_
    refine RunL.ok (OpOk.move rfl) rfl ?_
    refine RunL.off rfl rfl rfl rfl ?_
    refine RunL.off rfl rfl rfl rfl ?_
    refine RunL.off rfl rfl rfl rfl ?_
    refine RunL.off rfl rfl rfl rfl ?_
    refine RunL.off rfl rfl rfl rfl ?_
    refine RunL.off rfl rfl rfl rfl ?_
    refine RunL.ok (OpOk.pickF rfl rfl) rfl ?_
    refine RunL.ok (OpOk.move rfl) rfl ?_
    refine RunL.off rfl rfl rfl rfl ?_
    refine RunL.off rfl rfl rfl rfl ?_
    refine RunL.off rfl rfl rfl rfl ?_
    refine RunL.off rfl rfl rfl rfl ?_
    refine RunL.off rfl rfl rfl rfl ?_
    refine RunL.off rfl rfl rfl rfl ?_
    refine RunL.ok (OpOk.pickF rfl rfl) rfl ?_
    refine RunL.ok (OpOk.assign rfl) rfl ?_
    refine RunL.nil ?_
    refine Run.ret1 Try.func13 rfl rfl ?_
    have g1 := lat2 (by assumption) (by assumption) ‹latOk [a, b] _ _›
    have g2 := lat2 (by assumption) (by assumption) ‹latOk [b, a] _ _›
    have g3 := btw_fact b.1 b.2 a.1 a.2
    refine ⟨?_, (by repeat (first | exact Grew.refl _ | apply Grew.mul))⟩
    first | (exfalso; simp_all; done) | (exfalso; simp_all; omega) | (rw [decide_eq_true (by omega)]; done) | (rw [decide_eq_true (by omega)]; rfl) | (rw [decide_eq_false (by omega)]; rfl) | (rw [decide_eq_false (by omega), decide_eq_false (by omega)]; rfl) | (rw [decide_eq_true (by omega), decide_eq_true (by omega)]; rfl) | (rw [show decide (btw a.1 a.2 b.1 b.2 = 0) = decide (a.1 = b.1 ∧ a.2 = b.2) from decide_eq_decide.2 (by omega), beq_self_eq_true])
  refine Run.skip ?_
  refine Run.seq ?_
  refine Run.region ?_
  refine RunL.ok (OpOk.move rfl) rfl ?_
  refine RunL.ok (OpOk.move rfl) rfl ?_
  refine RunL.splitB (t := 46) rfl (fun x37 => ?_) (fun x37 => ?_)
  · refine RunL.on rfl rfl ?_
    refine RunL.ok (OpOk.move rfl) rfl ?_
    refine RunL.ok (OpOk.pickT rfl rfl) rfl ?_
    refine RunL.ok (OpOk.move rfl) rfl ?_
    refine RunL.splitB (t := 49) rfl (fun x38 => ?_) (fun x38 => ?_)
    · refine RunL.on rfl rfl ?_
      refine RunL.ok (OpOk.loadS rfl rfl ti29 rfl Blk.pts.left.left.left rfl) rfl ?_
      refine RunL.on rfl rfl ?_
      refine RunL.ok (OpOk.loadS rfl rfl ti29 rfl Blk.pts rfl) rfl ?_
      refine RunL.on rfl rfl ?_
      refine RunL.ok (OpOk.eqlTwo two29 rfl rfl) rfl ?_
      refine RunL.ok (OpOk.pickT rfl rfl) rfl ?_
      refine RunL.ok (OpOk.move rfl) rfl ?_
      refine RunL.splitD (t := 54) rfl (fun x39 => ?_) (fun x39 => ?_)
      · refine RunL.on rfl rfl ?_
        refine RunL.ok (OpOk.loadS rfl rfl ti29 rfl Blk.pts.left rfl) rfl ?_
        refine RunL.on rfl rfl ?_
        refine RunL.ok (OpOk.loadS rfl rfl ti29 rfl Blk.pts rfl) rfl ?_
        refine RunL.on rfl rfl ?_
        refine RunL.ok (OpOk.eqlTwo two29 rfl rfl) rfl ?_
        refine RunL.ok (OpOk.pickT rfl rfl) rfl ?_
        refine RunL.ok (OpOk.move rfl) rfl ?_
        refine RunL.splitD (t := 59) rfl (fun x40 => ?_) (fun x40 => ?_)
        · refine RunL.on rfl rfl ?_
          refine RunL.ok (OpOk.loadS rfl rfl ti29 rfl Blk.pts.left.left.left.left.left.left rfl) rfl ?_
          refine RunL.on rfl rfl ?_
          refine RunL.ok (OpOk.loadS rfl rfl ti29 rfl Blk.pts.left.left.left.left.left.left.left rfl) rfl ?_
          refine RunL.on rfl rfl ?_
          refine RunL.call cal24 rfl (s24) rfl (fun vx41 Ax41 hx41 => ?_)
          obtain ⟨rfl, rfl⟩ := hx41
          have x42 := btw_fact (b.fst) (b.snd) (a.fst) (a.snd)
          refine RunL.on rfl rfl ?_
          refine RunL.ok (OpOk.move rfl) rfl ?_
          refine RunL.on rfl rfl ?_
          refine RunL.ok (OpOk.neg rfl (wrapI (by omega) (by omega))) rfl ?_
          refine RunL.on rfl rfl ?_
          refine RunL.ok (OpOk.asT (OpOk.eql rfl rfl) (by omega)) rfl ?_
          refine RunL.ok (OpOk.pickT rfl rfl) rfl ?_
          refine RunL.ok (OpOk.move rfl) rfl ?_
          refine RunL.on rfl rfl ?_
          refine RunL.ok (OpOk.move rfl) rfl ?_
          refine RunL.on rfl rfl ?_
          refine RunL.ok (OpOk.eql rfl rfl) rfl ?_
          refine RunL.on rfl rfl ?_
          refine RunL.ok (OpOk.loadS rfl rfl ti29 rfl Blk.pts.left.left.left.left.left.left.left rfl) rfl ?_
          refine RunL.on rfl rfl ?_
          refine RunL.ok (OpOk.loadS rfl rfl ti29 rfl Blk.pts.left.left.left.left.left.left rfl) rfl ?_
          refine RunL.on rfl rfl ?_
          refine RunL.ok (OpOk.eqlTwo two29 rfl rfl) rfl ?_
          refine RunL.on rfl rfl ?_
          refine RunL.ok (OpOk.eqlB rfl rfl rfl) rfl ?_
          refine RunL.ok (OpOk.pickT rfl rfl) rfl ?_
          refine RunL.ok (OpOk.assign rfl) rfl ?_
          refine RunL.nil ?_
          refine Run.ret1 Try.func13 rfl rfl ?_
          have g1 := lat2 (by assumption) (by assumption) ‹latOk [a, b] _ _›
          have g2 := lat2 (by assumption) (by assumption) ‹latOk [b, a] _ _›
          have g3 := btw_fact b.1 b.2 a.1 a.2
          refine ⟨?_, (by repeat (first | exact Grew.refl _ | apply Grew.mul))⟩
          first | (exfalso; simp_all; done) | (exfalso; simp_all; omega) | (rw [decide_eq_true (by omega)]; done) | (rw [decide_eq_true (by omega)]; rfl) | (rw [decide_eq_false (by omega)]; rfl) | (rw [decide_eq_false (by omega), decide_eq_false (by omega)]; rfl) | (rw [decide_eq_true (by omega), decide_eq_true (by omega)]; rfl) | (rw [show decide (btw a.1 a.2 b.1 b.2 = 0) = decide (a.1 = b.1 ∧ a.2 = b.2) from decide_eq_decide.2 (by omega), beq_self_eq_true])
        refine RunL.off rfl rfl rfl rfl ?_
        refine RunL.off rfl rfl rfl rfl ?_
        refine RunL.off rfl rfl rfl rfl ?_
        refine RunL.off rfl rfl rfl rfl ?_
        refine RunL.off rfl rfl rfl rfl ?_
        refine RunL.off rfl rfl rfl rfl ?_
        refine RunL.ok (OpOk.pickF rfl rfl) rfl ?_
        refine RunL.ok (OpOk.move rfl) rfl ?_
        refine RunL.off rfl rfl rfl rfl ?_
        refine RunL.off rfl rfl rfl rfl ?_
        refine RunL.off rfl rfl rfl rfl ?_
        refine RunL.off rfl rfl rfl rfl ?_
        refine RunL.off rfl rfl rfl rfl ?_
        refine RunL.off rfl rfl rfl rfl ?_
        refine RunL.ok (OpOk.pickF rfl rfl) rfl ?_
        refine RunL.ok (OpOk.assign rfl) rfl ?_
        refine RunL.nil ?_
        refine Run.ret1 Try.func13 rfl rfl ?_
        have g1 := lat2 (by assumption) (by assumption) ‹latOk [a, b] _ _›
        have g2 := lat2 (by assumption) (by assumption) ‹latOk [b, a] _ _›
        have g3 := btw_fact b.1 b.2 a.1 a.2
        refine ⟨?_, (by repeat (first | exact Grew.refl _ | apply Grew.mul))⟩
        first | (exfalso; simp_all; done) | (exfalso; simp_all; omega) | (rw [decide_eq_true (by omega)]; done) | (rw [decide_eq_true (by omega)]; rfl) | (rw [decide_eq_false (by omega)]; rfl) | (rw [decide_eq_false (by omega), decide_eq_false (by omega)]; rfl) | (rw [decide_eq_true (by omega), decide_eq_true (by omega)]; rfl) | (rw [show decide (btw a.1 a.2 b.1 b.2 = 0) = decide (a.1 = b.1 ∧ a.2 = b.2) from decide_eq_decide.2 (by omega), beq_self_eq_true])
      refine RunL.off rfl rfl rfl rfl ?_
      refine RunL.off rfl rfl rfl rfl ?_
      refine RunL.off rfl rfl rfl rfl ?_
      refine RunL.ok (OpOk.pickF rfl rfl) rfl ?_
      refine RunL.ok (OpOk.move rfl) rfl ?_
      refine RunL.off rfl rfl rfl rfl ?_
      refine RunL.off rfl rfl rfl rfl ?_
      refine RunL.off rfl rfl rfl rfl ?_
      refine RunL.off rfl rfl rfl rfl ?_
      refine RunL.off rfl rfl rfl rfl ?_
      refine RunL.off rfl rfl rfl rfl ?_
      refine RunL.ok (OpOk.pickF rfl rfl) rfl ?_
      refine RunL.ok (OpOk.move rfl) rfl ?_
      refine RunL.off rfl rfl rfl rfl ?_
      refine RunL.off rfl rfl rfl rfl ?_
      refine RunL.off rfl rfl rfl rfl ?_
      refine RunL.off rfl rfl rfl rfl ?_
      refine RunL.off rfl rfl rfl rfl ?_
      refine RunL.off rfl rfl rfl rfl ?_
      refine RunL.ok (OpOk.pickF rfl rfl) rfl ?_
      refine RunL.ok (OpOk.assign rfl) rfl ?_
      refine RunL.nil ?_
      refine Run.ret1 Try.func13 rfl rfl ?_
      have g1 := lat2 (by assumption) (by assumption) ‹latOk [a, b] _ _›
      have g2 := lat2 (by assumption) (by assumption) ‹latOk [b, a] _ _›
      have g3 := btw_fact b.1 b.2 a.1 a.2
      refine ⟨?_, (by repeat (first | exact Grew.refl _ | apply Grew.mul))⟩
      first | (exfalso; simp_all; done) | (exfalso; simp_all; omega) | (rw [decide_eq_true (by omega)]; done) | (rw [decide_eq_true (by omega)]; rfl) | (rw [decide_eq_false (by omega)]; rfl) | (rw [decide_eq_false (by omega), decide_eq_false (by omega)]; rfl) | (rw [decide_eq_true (by omega), decide_eq_true (by omega)]; rfl) | (rw [show decide (btw a.1 a.2 b.1 b.2 = 0) = decide (a.1 = b.1 ∧ a.2 = b.2) from decide_eq_decide.2 (by omega), beq_self_eq_true])
    refine RunL.off rfl rfl rfl rfl ?_
    refine RunL.off rfl rfl rfl rfl ?_
    refine RunL.off rfl rfl rfl rfl ?_
    refine RunL.ok (OpOk.pickF rfl rfl) rfl ?_
    refine RunL.ok (OpOk.move rfl) rfl ?_
    refine RunL.off rfl rfl rfl rfl ?_
    refine RunL.off rfl rfl rfl rfl ?_
    refine RunL.off rfl rfl rfl rfl ?_
    refine RunL.ok (OpOk.pickF rfl rfl) rfl ?_
    refine RunL.ok (OpOk.move rfl) rfl ?_
    refine RunL.off rfl rfl rfl rfl ?_
    refine RunL.off rfl rfl rfl rfl ?_
    refine RunL.off rfl rfl rfl rfl ?_
    refine RunL.off rfl rfl rfl rfl ?_
    refine RunL.off rfl rfl rfl rfl ?_
    refine RunL.off rfl rfl rfl rfl ?_
    refine RunL.ok (OpOk.pickF rfl rfl) rfl ?_
    refine RunL.ok (OpOk.move rfl) rfl ?_
    refine RunL.off rfl rfl rfl rfl ?_
    refine RunL.off rfl rfl rfl rfl ?_
    refine RunL.off rfl rfl rfl rfl ?_
    refine RunL.off rfl rfl rfl rfl ?_
    refine RunL.off rfl rfl rfl rfl ?_
    refine RunL.off rfl rfl rfl rfl ?_
    refine RunL.ok (OpOk.pickF rfl rfl) rfl ?_
    refine RunL.ok (OpOk.assign rfl) rfl ?_
    refine RunL.nil ?_
    refine Run.ret1 Try.func13 rfl rfl ?_
    have g1 := lat2 (by assumption) (by assumption) ‹latOk [a, b] _ _›
    have g2 := lat2 (by assumption) (by assumption) ‹latOk [b, a] _ _›
    have g3 := btw_fact b.1 b.2 a.1 a.2
    refine ⟨?_, (by repeat (first | exact Grew.refl _ | apply Grew.mul))⟩
    first | (exfalso; simp_all; done) | (exfalso; simp_all; omega) | (rw [decide_eq_true (by omega)]; done) | (rw [decide_eq_true (by omega)]; rfl) | (rw [decide_eq_false (by omega)]; rfl) | (rw [decide_eq_false (by omega), decide_eq_false (by omega)]; rfl) | (rw [decide_eq_true (by omega), decide_eq_true (by omega)]; rfl) | (rw [show decide (btw a.1 a.2 b.1 b.2 = 0) = decide (a.1 = b.1 ∧ a.2 = b.2) from decide_eq_decide.2 (by omega), beq_self_eq_true])
  refine RunL.off rfl rfl rfl rfl ?_
  refine RunL.ok (OpOk.pickF rfl rfl) rfl ?_
  refine RunL.ok (OpOk.move rfl) rfl ?_
  refine RunL.off rfl rfl rfl rfl ?_
  refine RunL.off rfl rfl rfl rfl ?_
  refine RunL.off rfl rfl rfl rfl ?_
  refine RunL.ok (OpOk.pickF rfl rfl) rfl ?_
  refine RunL.ok (OpOk.move rfl) rfl ?_
  refine RunL.off rfl rfl rfl rfl ?_
  refine RunL.off rfl rfl rfl rfl ?_
  refine RunL.off rfl rfl rfl rfl ?_
  refine RunL.ok (OpOk.pickF rfl rfl) rfl ?_
  refine RunL.ok (OpOk.move rfl) rfl ?_
  refine RunL.off rfl rfl rfl rfl ?_
  refine RunL.off rfl rfl rfl rfl ?_
  refine RunL.off rfl rfl rfl rfl ?_
  refine RunL.off rfl rfl rfl rfl ?_
  refine RunL.off rfl rfl rfl rfl ?_
  refine RunL.off rfl rfl rfl rfl ?_
  refine RunL.ok (OpOk.pickF rfl rfl) rfl ?_
  refine RunL.ok (OpOk.move rfl) rfl ?_
  refine RunL.off rfl rfl rfl rfl ?_
  refine RunL.off rfl rfl rfl rfl ?_
  refine RunL.off rfl rfl rfl rfl ?_
  refine RunL.off rfl rfl rfl rfl ?_
  refine RunL.off rfl rfl rfl rfl ?_
  refine RunL.off rfl rfl rfl rfl ?_
  refine RunL.ok (OpOk.pickF rfl rfl) rfl ?_
  refine RunL.ok (OpOk.assign rfl) rfl ?_
  refine RunL.nil ?_
  refine Run.ret1 Try.func13 rfl rfl ?_
  have g1 := lat2 (by assumption) (by assumption) ‹latOk [a, b] _ _›
  have g2 := lat2 (by assumption) (by assumption) ‹latOk [b, a] _ _›
  have g3 := btw_fact b.1 b.2 a.1 a.2
  refine ⟨?_, (by repeat (first | exact Grew.refl _ | apply Grew.mul))⟩
  first | (exfalso; simp_all; done) | (exfalso; simp_all; omega) | (rw [decide_eq_true (by omega)]; done) | (rw [decide_eq_true (by omega)]; rfl) | (rw [decide_eq_false (by omega)]; rfl) | (rw [decide_eq_false (by omega), decide_eq_false (by omega)]; rfl) | (rw [decide_eq_true (by omega), decide_eq_true (by omega)]; rfl) | (rw [show decide (btw a.1 a.2 b.1 b.2 = 0) = decide (a.1 = b.1 ∧ a.2 = b.2) from decide_eq_decide.2 (by omega), beq_self_eq_true])
theorem stampLatest_spec {w0 : World} {u : Value} {ss : List (Int × Int)} (rd : Rd w0 (old w0) u 2 ss.length (Fl encF ss)) :
    Spec Try.prog w0 12 [u] (old w0) (fun v' A' => v' = .bool true ∧ Grew (old w0) A') := by
  have hmax := rd.max
  refine Spec.of_run [(0, u)] Try.func12 rfl (Nat.le_of_ble_eq_true rfl) (by repeat (first | exact trivial | refine ⟨rfl, ?_⟩)) ?_
  refine Run.seq ?_
  refine Run.region ?_
  refine RunL.ok (OpOk.assign rfl) rfl ?_
  refine RunL.nil ?_
  refine Run.seq ?_
  refine Run.seq ?_
  refine Run.region ?_
  refine RunL.call cal19 rfl (s19) rfl (fun vx1 Ax1 hx1 => ?_)
  obtain ⟨x2, ⟨rfl, rfl⟩⟩ := hx1
  refine RunL.ok (OpOk.not rfl) rfl ?_
  refine RunL.nil ?_
  refine Run.condF rfl ?_
  refine Run.skip ?_
  refine Run.seq ?_
  refine Run.region ?_
  refine RunL.ok (OpOk.move rfl) rfl ?_
  refine RunL.call cal28 rfl (s28 rd.left) rfl (fun vx3 Ax3 hx3 => ?_)
  obtain ⟨⟨x4, ⟨x5, ⟨rfl, x6⟩⟩⟩, rfl⟩ := hx3
  refine RunL.ok (OpOk.move rfl) rfl ?_
  refine RunL.ok (OpOk.ext20 rfl) rfl ?_
  refine RunL.ok (OpOk.ext21 rfl) rfl ?_
  refine RunL.alloc ti29 rfl (fun bx7 => ?_)
  refine RunL.storeAll ti29 rfl rfl rfl (ones rfl) rfl rfl ?_
  refine RunL.ok (OpOk.assign rfl) rfl ?_
  refine RunL.nil ?_
  refine Run.seq ?_
  refine Run.region ?_
  refine RunL.ok (OpOk.move rfl) rfl ?_
  refine RunL.ok (OpOk.lenR rfl rfl rd.left.left rfl) rfl ?_
  refine RunL.ok (OpOk.gtr rfl rfl) rfl ?_
  refine RunL.ok (OpOk.assign rfl) rfl ?_
  refine RunL.nil ?_
  refine Run.seq ?_
  refine Run.seq ?_
  refine Run.region ?_
  refine RunL.ok (OpOk.assign rfl) rfl ?_
  refine RunL.nil ?_
  refine Run.block ?_
  refine Run.loop (X := Nat) (fun i => [(0, u), (3, .pointer (some ⟨bx7, 0, none⟩)), (4, .bool x5), (5, .bool (decide (0 < (ss.length : Int)) && (ss.take i).all rightS)), (6, .int .i64 i)]) (fun _ => old w0 * x2 * pts bx7 (.cells (Value.agg (encF x4).toArray).cells 29 (0, 0))) (fun i => i ≤ ss.length) (fun i => ss.length - i) 0 ⟨rfl, rfl, rfl, lkB rfl (by simp), rfl, trivial⟩ rfl (by omega) (fun i hi ih => ?_)
  rcases Nat.lt_or_ge i ss.length with hlt | hge
  · have ha : (ss.take (i + 1)).all rightS = ((ss.take i).all rightS && rightS (ss.getD i default)) := by rw [take_next hlt, List.all_append]; simp
    cases hr : (decide (0 < (ss.length : Int)) && (ss.take i).all rightS) with
    | true =>
      have e5 : right (ss.getD i default).1 (ss.getD i default).2 = (decide (0 < (ss.length : Int)) && (ss.take (i + 1)).all rightS) := by rw [ha, ← Bool.and_assoc, hr, Bool.true_and]; rfl
      refine Run.seq ?_
      refine Run.seq ?_
      refine Run.region ?_
      refine RunL.ok (OpOk.move rfl) rfl ?_
      refine RunL.ok (OpOk.move rfl) rfl ?_
      refine RunL.ok (OpOk.lenR rfl rfl rd.left.left rfl) rfl ?_
      refine RunL.ok (OpOk.asT (OpOk.lss rfl rfl) (by omega)) rfl ?_
      refine RunL.nil ?_
      refine Run.condT rfl ?_
      refine Run.skip ?_
      refine Run.seq ?_
      refine Run.block ?_
      refine Run.region ?_
      refine RunL.ok (OpOk.move rfl) rfl ?_
      refine RunL.ok (OpOk.move rfl) rfl ?_
      refine RunL.on rfl rfl ?_
      refine RunL.ok (OpOk.move rfl) rfl ?_
      refine RunL.on rfl rfl ?_
      refine RunL.ok (OpOk.move rfl) rfl ?_
      refine RunL.on rfl rfl ?_
      refine RunL.ok (OpOk.idxN rfl ti29 rfl rd.left.left rfl (by omega)) rfl ?_
      refine RunL.on rfl rfl ?_
      refine RunL.ok (OpOk.loadFl default rfl rfl ti29 rfl rd.left.left (fun _ => rfl) rfl (by omega)) rfl ?_
      refine RunL.on rfl rfl ?_
      refine RunL.call cal23 rfl (s23) rfl (fun vy1 Ay1 hy1 => ?_)
      obtain ⟨rfl, rfl⟩ := hy1
      refine RunL.ok (OpOk.pickT rfl rfl) rfl ?_
      refine RunL.ok (OpOk.assign rfl) rfl ?_
      refine RunL.nil ?_
      refine Run.inBlock ?_
      refine Run.region ?_
      refine RunL.ok (OpOk.move rfl) rfl ?_
      refine RunL.ok (OpOk.addN _ 1 rfl rfl rfl rfl (by omega)) rfl ?_
      refine RunL.ok (OpOk.assign rfl) rfl ?_
      refine RunL.nil ?_
      refine Run.jump ((ih (i + 1) (by omega) (by omega))) ⟨rfl, rfl, rfl, lkB rfl (by assumption), rfl, trivial⟩ ((Grew.refl _))
    | false =>
      have e5 : false = (decide (0 < (ss.length : Int)) && (ss.take (i + 1)).all rightS) := by rw [ha, ← Bool.and_assoc, hr, Bool.false_and]
      refine Run.seq ?_
      refine Run.seq ?_
      refine Run.region ?_
      refine RunL.ok (OpOk.move rfl) rfl ?_
      refine RunL.ok (OpOk.move rfl) rfl ?_
      refine RunL.ok (OpOk.lenR rfl rfl rd.left.left rfl) rfl ?_
      refine RunL.ok (OpOk.asT (OpOk.lss rfl rfl) (by omega)) rfl ?_
      refine RunL.nil ?_
      refine Run.condT rfl ?_
      refine Run.skip ?_
      refine Run.seq ?_
      refine Run.block ?_
      refine Run.region ?_
      refine RunL.ok (OpOk.move rfl) rfl ?_
      refine RunL.ok (OpOk.move rfl) rfl ?_
      refine RunL.off rfl rfl rfl rfl ?_
      refine RunL.off rfl rfl rfl rfl ?_
      refine RunL.off rfl rfl rfl rfl ?_
      refine RunL.off rfl rfl rfl rfl ?_
      refine RunL.off rfl rfl rfl rfl ?_
      refine RunL.ok (OpOk.pickF rfl rfl) rfl ?_
      refine RunL.ok (OpOk.assign rfl) rfl ?_
      refine RunL.nil ?_
      refine Run.inBlock ?_
      refine Run.region ?_
      refine RunL.ok (OpOk.move rfl) rfl ?_
      refine RunL.ok (OpOk.addN _ 1 rfl rfl rfl rfl (by omega)) rfl ?_
      refine RunL.ok (OpOk.assign rfl) rfl ?_
      refine RunL.nil ?_
      refine Run.jump ((ih (i + 1) (by omega) (by omega))) ⟨rfl, rfl, rfl, lkB rfl (by assumption), rfl, trivial⟩ ((Grew.refl _))
  · obtain rfl : i = ss.length := by omega
    rw [List.take_length]
    clear ih
    cases hr : (decide (0 < (ss.length : Int)) && ss.all rightS) with
    | true =>
      rw [Bool.and_eq_true, decide_eq_true_eq] at hr
      obtain ⟨h0, hall⟩ := hr
      have hlat : x5 = true ∧ ∃ j, j < ss.length ∧ x4 = ss.getD j default ∧ ∀ k, k < ss.length → timeS (ss.getD k default) ≤ timeS x4 := by
        rcases x6 with ⟨_, _, h | h⟩ | ⟨h1, _, h⟩
        · rw [h] at h0; simp at h0
        · rw [hall] at h; cases h
        · exact ⟨h1, h⟩
      obtain ⟨rfl, j, hj, rfl, hmaxk⟩ := hlat
      have hat : ∀ k, k < ss.length → 0 ≤ (ss.getD k default).1 ∧ (ss.getD k default).1 ≤ 65535 ∧ 0 ≤ (ss.getD k default).2 ∧ (ss.getD k default).2 < 1440 := fun k hk => by
        rw [List.all_eq_true] at hall
        exact of_decide_eq_true (hall _ (List.mem_of_getElem? (getD_at hk)))
      have hrj := hat j hj
      refine Run.seq ?_
      refine Run.seq ?_
      refine Run.region ?_
      refine RunL.ok (OpOk.move rfl) rfl ?_
      refine RunL.ok (OpOk.move rfl) rfl ?_
      refine RunL.ok (OpOk.lenR rfl rfl rd.left.left rfl) rfl ?_
      refine RunL.ok (OpOk.asF (OpOk.lss rfl rfl) (by omega)) rfl ?_
      refine RunL.nil ?_
      refine Run.condF rfl ?_
      refine Run.exit rfl ?_
      refine Run.seq ?_
      refine Run.seq ?_
      refine Run.region ?_
      refine RunL.ok (OpOk.move rfl) rfl ?_
      refine RunL.ok (OpOk.not rfl) rfl ?_
      refine RunL.nil ?_
      refine Run.condF rfl ?_
      refine Run.skip ?_
      refine Run.seq ?_
      refine Run.region ?_
      refine RunL.ok (OpOk.assign rfl) rfl ?_
      refine RunL.nil ?_
      refine Run.seq ?_
      refine Run.seq ?_
      refine Run.region ?_
      refine RunL.ok (OpOk.assign rfl) rfl ?_
      refine RunL.nil ?_
      refine Run.block ?_
      refine Run.loop (X := Nat) (fun i => [(0, u), (3, .pointer (some ⟨bx7, 0, none⟩)), (4, .bool true), (7, .bool ((ss.take i).any fun s => decide (s.1 = (ss.getD j default).1 ∧ s.2 = (ss.getD j default).2))), (8, .int .i64 i)]) (fun _ => old w0 * x2 * pts bx7 (.cells (Value.agg (encF (ss.getD j default)).toArray).cells 29 (0, 0))) (fun i => i ≤ ss.length) (fun i => ss.length - i) 0 ⟨rfl, rfl, rfl, rfl, rfl, trivial⟩ rfl (by omega) (fun i hi ih => ?_)
      rcases Nat.lt_or_ge i ss.length with hlt | hge
      · have ha : (ss.take (i + 1)).any (fun s => decide (s.1 = (ss.getD j default).1 ∧ s.2 = (ss.getD j default).2)) = ((ss.take i).any (fun s => decide (s.1 = (ss.getD j default).1 ∧ s.2 = (ss.getD j default).2)) || decide ((ss.getD i default).1 = (ss.getD j default).1 ∧ (ss.getD i default).2 = (ss.getD j default).2)) := by rw [take_next hlt, List.any_append]; simp
        have hri := hat i hlt
        have hmi := hmaxk i hlt
        unfold timeS at hmi
        cases hr : (ss.take i).any fun s => decide (s.1 = (ss.getD j default).1 ∧ s.2 = (ss.getD j default).2) with
        | true =>
          have e7 : true = (ss.take (i + 1)).any (fun s => decide (s.1 = (ss.getD j default).1 ∧ s.2 = (ss.getD j default).2)) := by rw [ha, hr]; rfl
          refine Run.seq ?_
          refine Run.seq ?_
          refine Run.region ?_
          refine RunL.ok (OpOk.move rfl) rfl ?_
          refine RunL.ok (OpOk.move rfl) rfl ?_
          refine RunL.ok (OpOk.lenR rfl rfl rd.left.left rfl) rfl ?_
          refine RunL.ok (OpOk.asT (OpOk.lss rfl rfl) (by omega)) rfl ?_
          refine RunL.nil ?_
          refine Run.condT rfl ?_
          refine Run.skip ?_
          refine Run.seq ?_
          refine Run.block ?_
          refine Run.seq ?_
          (apply Run.drawD [9] (by rfl) (sep_emp _).symm; case hchk => kernel_rfl)
          refine Sd.quiet 0 _ _ rfl rfl rfl rfl rfl (QOp.ok (fun X => OpOk.move rfl)) ?_
          refine Sd.quiet 1 _ _ rfl rfl rfl rfl rfl (QOp.ok (fun X => OpOk.move rfl)) ?_
          refine Sd.skip 2 _ rfl rfl rfl rfl rfl ?_
          refine Sd.skip 3 _ rfl rfl rfl rfl rfl ?_
          refine Sd.skip 4 _ rfl rfl rfl rfl rfl ?_
          refine Sd.skip 5 _ rfl rfl rfl rfl rfl ?_
          refine Sd.skip 6 _ rfl rfl rfl rfl rfl ?_
          refine Sd.skip 7 _ rfl rfl rfl rfl rfl ?_
          refine Sd.quiet 8 _ _ rfl rfl rfl rfl rfl (QOp.ok (fun X => OpOk.pickT rfl rfl)) ?_
          (apply Sd.tail; case hall => kernel_rfl)
          refine RunL.mem (fl2 (sep_emp _) (sep_emp _)) ?_
          refine RunL.ok (OpOk.assign rfl) rfl ?_
          refine RunL.nil ?_
          refine Run.seq ?_
          (apply Run.drawD [] (by rfl) (sep_emp _).symm; case hchk => kernel_rfl)
          refine Sd.quiet 0 _ _ rfl rfl rfl rfl rfl (QOp.ok (fun X => OpOk.move rfl)) ?_
          refine Sd.quiet 1 _ _ rfl rfl rfl rfl rfl (QOp.ok (fun X => OpOk.move rfl)) ?_
          refine Sd.quiet 2 _ _ rfl rfl rfl rfl rfl (QOp.ok (fun X => OpOk.idxN rfl ti29 rfl rd.left.left.left.left rfl (by omega))) ?_
          refine Sd.quiet 3 _ _ rfl rfl rfl rfl rfl (QOp.ok (fun X => OpOk.fieldAddrA fld29_0 rfl)) ?_
          refine Sd.quiet 4 _ _ rfl rfl rfl rfl rfl (QOp.ok (fun X => OpOk.loadFl1 default rfl rfl rfl rd.left.left.left.left (fun _ => rfl) rfl (by omega) rfl)) ?_
          refine Sd.quiet 5 _ _ rfl rfl rfl rfl rfl (QOp.ok (fun X => OpOk.fieldAddr fld29_0 rfl)) ?_
          refine Sd.quiet 6 _ _ rfl rfl rfl rfl rfl (QOp.ok (fun X => OpOk.load rfl rfl rfl (Blk.out Blk.pts.left.left _ _ rfl))) ?_
          refine Sd.quiet 7 _ _ rfl rfl rfl rfl rfl (QOp.ok (fun X => OpOk.asF (OpOk.gtr rfl rfl) (by omega))) ?_
          refine Sd.quiet 8 _ _ rfl rfl rfl rfl rfl (QOp.ok (fun X => OpOk.move rfl)) ?_
          refine Sd.quiet 9 _ _ rfl rfl rfl rfl rfl (QOp.ok (fun X => OpOk.move rfl)) ?_
          refine Sd.quiet 10 _ _ rfl rfl rfl rfl rfl (QOp.ok (fun X => OpOk.move rfl)) ?_
          refine Sd.quiet 11 _ _ rfl rfl rfl rfl rfl (QOp.ok (fun X => OpOk.idxN rfl ti29 rfl rd.left.left.left.left rfl (by omega))) ?_
          refine Sd.quiet 12 _ _ rfl rfl rfl rfl rfl (QOp.ok (fun X => OpOk.fieldAddrA fld29_0 rfl)) ?_
          refine Sd.quiet 13 _ _ rfl rfl rfl rfl rfl (QOp.ok (fun X => OpOk.loadFl1 default rfl rfl rfl rd.left.left.left.left (fun _ => rfl) rfl (by omega) rfl)) ?_
          refine Sd.quiet 14 _ _ rfl rfl rfl rfl rfl (QOp.ok (fun X => OpOk.fieldAddr fld29_0 rfl)) ?_
          refine Sd.quiet 15 _ _ rfl rfl rfl rfl rfl (QOp.ok (fun X => OpOk.load rfl rfl rfl (Blk.out Blk.pts.left.left _ _ rfl))) ?_
          refine Sd.quiet 16 _ _ rfl rfl rfl rfl rfl (QOp.ok (fun X => OpOk.eql rfl rfl)) ?_
          refine Sd.quiet 17 _ _ rfl rfl rfl rfl rfl (QOp.ok (fun X => OpOk.move rfl)) ?_
          refine Sd.splitD (fun z1 => ?_) (fun z1 => ?_)
          · refine Sd.quiet 18 _ _ rfl rfl rfl rfl rfl (QOp.ok (fun X => OpOk.move rfl)) ?_
            refine Sd.quiet 19 _ _ rfl rfl rfl rfl rfl (QOp.ok (fun X => OpOk.move rfl)) ?_
            refine Sd.quiet 20 _ _ rfl rfl rfl rfl rfl (QOp.ok (fun X => OpOk.idxN rfl ti29 rfl rd.left.left.left.left rfl (by omega))) ?_
            refine Sd.quiet 21 _ _ rfl rfl rfl rfl rfl (QOp.ok (fun X => OpOk.fieldAddrA fld29_1 rfl)) ?_
            refine Sd.quiet 22 _ _ rfl rfl rfl rfl rfl (QOp.ok (fun X => OpOk.loadFl1 default rfl rfl rfl rd.left.left.left.left (fun _ => rfl) rfl (by omega) rfl)) ?_
            refine Sd.quiet 23 _ _ rfl rfl rfl rfl rfl (QOp.ok (fun X => OpOk.fieldAddr fld29_1 rfl)) ?_
            refine Sd.quiet 24 _ _ rfl rfl rfl rfl rfl (QOp.ok (fun X => OpOk.load rfl rfl rfl (Blk.out Blk.pts.left.left _ _ rfl))) ?_
            refine Sd.quiet 25 _ _ rfl rfl rfl rfl rfl (QOp.ok (fun X => OpOk.asF (OpOk.gtr rfl rfl) (by omega))) ?_
            refine Sd.quiet 26 _ _ rfl rfl rfl rfl rfl (QOp.ok (fun X => OpOk.pickT rfl rfl)) ?_
            refine Sd.quiet 27 _ _ rfl rfl rfl rfl rfl (QOp.ok (fun X => OpOk.pickF rfl rfl)) ?_
            (apply Sd.tail; case hall => kernel_rfl)
            refine RunL.mem (fl2 (sep_emp _) (sep_emp _)) ?_
            refine RunL.nil ?_
            refine Run.condF rfl ?_
            refine Run.skip ?_
            refine Run.inBlock ?_
            refine Run.region ?_
            refine RunL.ok (OpOk.move rfl) rfl ?_
            refine RunL.ok (OpOk.addN _ 1 rfl rfl rfl rfl (by omega)) rfl ?_
            refine RunL.ok (OpOk.assign rfl) rfl ?_
            refine RunL.nil ?_
            refine Run.jump ((ih (i + 1) (by omega) (by omega))) ⟨rfl, rfl, rfl, lkB rfl (by assumption), rfl, trivial⟩ ((Grew.refl _))
          refine Sd.skip 18 _ rfl rfl rfl rfl rfl ?_
          refine Sd.skip 19 _ rfl rfl rfl rfl rfl ?_
          refine Sd.skip 20 _ rfl rfl rfl rfl rfl ?_
          refine Sd.skip 21 _ rfl rfl rfl rfl rfl ?_
          refine Sd.skip 22 _ rfl rfl rfl rfl rfl ?_
          refine Sd.skip 23 _ rfl rfl rfl rfl rfl ?_
          refine Sd.skip 24 _ rfl rfl rfl rfl rfl ?_
          refine Sd.skip 25 _ rfl rfl rfl rfl rfl ?_
          refine Sd.quiet 26 _ _ rfl rfl rfl rfl rfl (QOp.ok (fun X => OpOk.pickF rfl rfl)) ?_
          refine Sd.quiet 27 _ _ rfl rfl rfl rfl rfl (QOp.ok (fun X => OpOk.pickF rfl rfl)) ?_
          (apply Sd.tail; case hall => kernel_rfl)
          refine RunL.mem (fl2 (sep_emp _) (sep_emp _)) ?_
          refine RunL.nil ?_
          refine Run.condF rfl ?_
          refine Run.skip ?_
          refine Run.inBlock ?_
          refine Run.region ?_
          refine RunL.ok (OpOk.move rfl) rfl ?_
          refine RunL.ok (OpOk.addN _ 1 rfl rfl rfl rfl (by omega)) rfl ?_
          refine RunL.ok (OpOk.assign rfl) rfl ?_
          refine RunL.nil ?_
          refine Run.jump ((ih (i + 1) (by omega) (by omega))) ⟨rfl, rfl, rfl, lkB rfl (by assumption), rfl, trivial⟩ ((Grew.refl _))
        | false =>
          have e7 : decide ((ss.getD i default).1 = (ss.getD j default).1 ∧ (ss.getD i default).2 = (ss.getD j default).2) = (ss.take (i + 1)).any (fun s => decide (s.1 = (ss.getD j default).1 ∧ s.2 = (ss.getD j default).2)) := by rw [ha, hr]; rfl
          refine Run.seq ?_
          refine Run.seq ?_
          refine Run.region ?_
          refine RunL.ok (OpOk.move rfl) rfl ?_
          refine RunL.ok (OpOk.move rfl) rfl ?_
          refine RunL.ok (OpOk.lenR rfl rfl rd.left.left rfl) rfl ?_
          refine RunL.ok (OpOk.asT (OpOk.lss rfl rfl) (by omega)) rfl ?_
          refine RunL.nil ?_
          refine Run.condT rfl ?_
          refine Run.skip ?_
          refine Run.seq ?_
          refine Run.block ?_
          refine Run.seq ?_
          (apply Run.drawD [9] (by rfl) (sep_emp _).symm; case hchk => kernel_rfl)
          refine Sd.quiet 0 _ _ rfl rfl rfl rfl rfl (QOp.ok (fun X => OpOk.move rfl)) ?_
          refine Sd.quiet 1 _ _ rfl rfl rfl rfl rfl (QOp.ok (fun X => OpOk.move rfl)) ?_
          refine Sd.quiet 2 _ _ rfl rfl rfl rfl rfl (QOp.ok (fun X => OpOk.move rfl)) ?_
          refine Sd.quiet 3 _ _ rfl rfl rfl rfl rfl (QOp.ok (fun X => OpOk.move rfl)) ?_
          refine Sd.quiet 4 _ _ rfl rfl rfl rfl rfl (QOp.ok (fun X => OpOk.idxN rfl ti29 rfl rd.left.left.left.left rfl (by omega))) ?_
          refine Sd.quiet 5 _ _ rfl rfl rfl rfl rfl (QOp.ok (fun X => OpOk.loadFl default rfl rfl ti29 rfl rd.left.left.left.left (fun _ => rfl) rfl (by omega))) ?_
          refine Sd.quiet 6 _ _ rfl rfl rfl rfl rfl (QOp.ok (fun X => OpOk.loadS rfl rfl ti29 rfl Blk.pts.left.left rfl)) ?_
          refine Sd.quiet 7 _ _ rfl rfl rfl rfl rfl (QOp.ok (fun X => OpOk.eqlTwo two29 rfl rfl)) ?_
          refine Sd.quiet 8 _ _ rfl rfl rfl rfl rfl (QOp.ok (fun X => OpOk.pickF rfl rfl)) ?_
          (apply Sd.tail; case hall => kernel_rfl)
          refine RunL.mem (fl2 (sep_emp _) (sep_emp _)) ?_
          refine RunL.ok (OpOk.assign rfl) rfl ?_
          refine RunL.nil ?_
          refine Run.seq ?_
          (apply Run.drawD [] (by rfl) (sep_emp _).symm; case hchk => kernel_rfl)
          refine Sd.quiet 0 _ _ rfl rfl rfl rfl rfl (QOp.ok (fun X => OpOk.move rfl)) ?_
          refine Sd.quiet 1 _ _ rfl rfl rfl rfl rfl (QOp.ok (fun X => OpOk.move rfl)) ?_
          refine Sd.quiet 2 _ _ rfl rfl rfl rfl rfl (QOp.ok (fun X => OpOk.idxN rfl ti29 rfl rd.left.left.left.left rfl (by omega))) ?_
          refine Sd.quiet 3 _ _ rfl rfl rfl rfl rfl (QOp.ok (fun X => OpOk.fieldAddrA fld29_0 rfl)) ?_
          refine Sd.quiet 4 _ _ rfl rfl rfl rfl rfl (QOp.ok (fun X => OpOk.loadFl1 default rfl rfl rfl rd.left.left.left.left (fun _ => rfl) rfl (by omega) rfl)) ?_
          refine Sd.quiet 5 _ _ rfl rfl rfl rfl rfl (QOp.ok (fun X => OpOk.fieldAddr fld29_0 rfl)) ?_
          refine Sd.quiet 6 _ _ rfl rfl rfl rfl rfl (QOp.ok (fun X => OpOk.load rfl rfl rfl (Blk.out Blk.pts.left.left _ _ rfl))) ?_
          refine Sd.quiet 7 _ _ rfl rfl rfl rfl rfl (QOp.ok (fun X => OpOk.asF (OpOk.gtr rfl rfl) (by omega))) ?_
          refine Sd.quiet 8 _ _ rfl rfl rfl rfl rfl (QOp.ok (fun X => OpOk.move rfl)) ?_
          refine Sd.quiet 9 _ _ rfl rfl rfl rfl rfl (QOp.ok (fun X => OpOk.move rfl)) ?_
          refine Sd.quiet 10 _ _ rfl rfl rfl rfl rfl (QOp.ok (fun X => OpOk.move rfl)) ?_
          refine Sd.quiet 11 _ _ rfl rfl rfl rfl rfl (QOp.ok (fun X => OpOk.idxN rfl ti29 rfl rd.left.left.left.left rfl (by omega))) ?_
          refine Sd.quiet 12 _ _ rfl rfl rfl rfl rfl (QOp.ok (fun X => OpOk.fieldAddrA fld29_0 rfl)) ?_
          refine Sd.quiet 13 _ _ rfl rfl rfl rfl rfl (QOp.ok (fun X => OpOk.loadFl1 default rfl rfl rfl rd.left.left.left.left (fun _ => rfl) rfl (by omega) rfl)) ?_
          refine Sd.quiet 14 _ _ rfl rfl rfl rfl rfl (QOp.ok (fun X => OpOk.fieldAddr fld29_0 rfl)) ?_
          refine Sd.quiet 15 _ _ rfl rfl rfl rfl rfl (QOp.ok (fun X => OpOk.load rfl rfl rfl (Blk.out Blk.pts.left.left _ _ rfl))) ?_
          refine Sd.quiet 16 _ _ rfl rfl rfl rfl rfl (QOp.ok (fun X => OpOk.eql rfl rfl)) ?_
          refine Sd.quiet 17 _ _ rfl rfl rfl rfl rfl (QOp.ok (fun X => OpOk.move rfl)) ?_
          refine Sd.splitD (fun z1 => ?_) (fun z1 => ?_)
          · refine Sd.quiet 18 _ _ rfl rfl rfl rfl rfl (QOp.ok (fun X => OpOk.move rfl)) ?_
            refine Sd.quiet 19 _ _ rfl rfl rfl rfl rfl (QOp.ok (fun X => OpOk.move rfl)) ?_
            refine Sd.quiet 20 _ _ rfl rfl rfl rfl rfl (QOp.ok (fun X => OpOk.idxN rfl ti29 rfl rd.left.left.left.left rfl (by omega))) ?_
            refine Sd.quiet 21 _ _ rfl rfl rfl rfl rfl (QOp.ok (fun X => OpOk.fieldAddrA fld29_1 rfl)) ?_
            refine Sd.quiet 22 _ _ rfl rfl rfl rfl rfl (QOp.ok (fun X => OpOk.loadFl1 default rfl rfl rfl rd.left.left.left.left (fun _ => rfl) rfl (by omega) rfl)) ?_
            refine Sd.quiet 23 _ _ rfl rfl rfl rfl rfl (QOp.ok (fun X => OpOk.fieldAddr fld29_1 rfl)) ?_
            refine Sd.quiet 24 _ _ rfl rfl rfl rfl rfl (QOp.ok (fun X => OpOk.load rfl rfl rfl (Blk.out Blk.pts.left.left _ _ rfl))) ?_
            refine Sd.quiet 25 _ _ rfl rfl rfl rfl rfl (QOp.ok (fun X => OpOk.asF (OpOk.gtr rfl rfl) (by omega))) ?_
            refine Sd.quiet 26 _ _ rfl rfl rfl rfl rfl (QOp.ok (fun X => OpOk.pickT rfl rfl)) ?_
            refine Sd.quiet 27 _ _ rfl rfl rfl rfl rfl (QOp.ok (fun X => OpOk.pickF rfl rfl)) ?_
            (apply Sd.tail; case hall => kernel_rfl)
            refine RunL.mem (fl2 (sep_emp _) (sep_emp _)) ?_
            refine RunL.nil ?_
            refine Run.condF rfl ?_
            refine Run.skip ?_
            refine Run.inBlock ?_
            refine Run.region ?_
            refine RunL.ok (OpOk.move rfl) rfl ?_
            refine RunL.ok (OpOk.addN _ 1 rfl rfl rfl rfl (by omega)) rfl ?_
            refine RunL.ok (OpOk.assign rfl) rfl ?_
            refine RunL.nil ?_
            refine Run.jump ((ih (i + 1) (by omega) (by omega))) ⟨rfl, rfl, rfl, lkB rfl (by assumption), rfl, trivial⟩ ((Grew.refl _))
          refine Sd.skip 18 _ rfl rfl rfl rfl rfl ?_
          refine Sd.skip 19 _ rfl rfl rfl rfl rfl ?_
          refine Sd.skip 20 _ rfl rfl rfl rfl rfl ?_
          refine Sd.skip 21 _ rfl rfl rfl rfl rfl ?_
          refine Sd.skip 22 _ rfl rfl rfl rfl rfl ?_
          refine Sd.skip 23 _ rfl rfl rfl rfl rfl ?_
          refine Sd.skip 24 _ rfl rfl rfl rfl rfl ?_
          refine Sd.skip 25 _ rfl rfl rfl rfl rfl ?_
          refine Sd.quiet 26 _ _ rfl rfl rfl rfl rfl (QOp.ok (fun X => OpOk.pickF rfl rfl)) ?_
          refine Sd.quiet 27 _ _ rfl rfl rfl rfl rfl (QOp.ok (fun X => OpOk.pickF rfl rfl)) ?_
          (apply Sd.tail; case hall => kernel_rfl)
          refine RunL.mem (fl2 (sep_emp _) (sep_emp _)) ?_
          refine RunL.nil ?_
          refine Run.condF rfl ?_
          refine Run.skip ?_
          refine Run.inBlock ?_
          refine Run.region ?_
          refine RunL.ok (OpOk.move rfl) rfl ?_
          refine RunL.ok (OpOk.addN _ 1 rfl rfl rfl rfl (by omega)) rfl ?_
          refine RunL.ok (OpOk.assign rfl) rfl ?_
          refine RunL.nil ?_
          refine Run.jump ((ih (i + 1) (by omega) (by omega))) ⟨rfl, rfl, rfl, lkB rfl (by assumption), rfl, trivial⟩ ((Grew.refl _))
      · obtain rfl : i = ss.length := by omega
        rw [List.take_length]
        have hthere : (ss.any fun s => decide (s.1 = (ss.getD j default).1 ∧ s.2 = (ss.getD j default).2)) = true := by
          rw [List.any_eq_true]
          exact ⟨ss.getD j default, List.mem_of_getElem? (getD_at hj), decide_eq_true ⟨rfl, rfl⟩⟩
        rw [hthere]
        refine Run.seq ?_
        refine Run.seq ?_
        refine Run.region ?_
        refine RunL.ok (OpOk.move rfl) rfl ?_
        refine RunL.ok (OpOk.move rfl) rfl ?_
        refine RunL.ok (OpOk.lenR rfl rfl rd.left.left rfl) rfl ?_
        refine RunL.ok (OpOk.asF (OpOk.lss rfl rfl) (by omega)) rfl ?_
        refine RunL.nil ?_
        refine Run.condF rfl ?_
        refine Run.exit rfl ?_
        refine Run.seq ?_
        refine Run.region ?_
        refine RunL.ok (OpOk.move rfl) rfl ?_
        refine RunL.ok (OpOk.move rfl) rfl ?_
        refine RunL.on rfl rfl ?_
        refine RunL.ok (OpOk.move rfl) rfl ?_
        refine RunL.ok (OpOk.pickT rfl rfl) rfl ?_
        refine RunL.ok (OpOk.assign rfl) rfl ?_
        refine RunL.nil ?_
        refine Run.ret1 Try.func12 rfl rfl ?_
        exact ⟨rfl, ⟨_, (asg as1)⟩⟩
    | false =>
      have hlat : x5 = false ∧ x4 = (0, 0) := by
        rcases x6 with ⟨h1, h2, _⟩ | ⟨_, h, k, hk, _⟩
        · exact ⟨h1, h2⟩
        · rw [h, decide_eq_true (by omega)] at hr; cases hr
      obtain ⟨rfl, rfl⟩ := hlat
      refine Run.seq ?_
      refine Run.seq ?_
      refine Run.region ?_
      refine RunL.ok (OpOk.move rfl) rfl ?_
      refine RunL.ok (OpOk.move rfl) rfl ?_
      refine RunL.ok (OpOk.lenR rfl rfl rd.left.left rfl) rfl ?_
      refine RunL.ok (OpOk.asF (OpOk.lss rfl rfl) (by omega)) rfl ?_
      refine RunL.nil ?_
      refine Run.condF rfl ?_
      refine Run.exit rfl ?_
      refine Run.seq ?_
      refine Run.seq ?_
      refine Run.region ?_
      refine RunL.ok (OpOk.move rfl) rfl ?_
      refine RunL.ok (OpOk.not rfl) rfl ?_
      refine RunL.nil ?_
      refine Run.condT rfl ?_
      refine Run.seq ?_
      refine Run.region ?_
      refine RunL.ok (OpOk.move rfl) rfl ?_
      refine RunL.ok (OpOk.not rfl) rfl ?_
      refine RunL.ok (OpOk.move rfl) rfl ?_
      refine RunL.on rfl rfl ?_
      refine RunL.ok (OpOk.loadS rfl rfl ti29 rfl Blk.pts rfl) rfl ?_
      refine RunL.on rfl rfl ?_
      refine RunL.ok (OpOk.build rfl (fun w => run_build w 29 _ _ (by rfl))) rfl ?_
      refine RunL.on rfl rfl ?_
      refine RunL.ok (OpOk.asT (OpOk.eqlTwo two29 rfl rfl) (by omega)) rfl ?_
      refine RunL.ok (OpOk.pickT rfl rfl) rfl ?_
      refine RunL.ok (OpOk.assign rfl) rfl ?_
      refine RunL.nil ?_
      refine Run.ret1 Try.func12 rfl rfl ?_
      exact ⟨rfl, ⟨_, (asg as1)⟩⟩
end Go.Proofs.Ytajjmephfoaiaaa
