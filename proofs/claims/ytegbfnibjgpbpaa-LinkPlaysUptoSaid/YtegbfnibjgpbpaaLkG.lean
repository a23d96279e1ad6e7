/- The laws of the pool, walked. -/
import Derived.Test.YtegbfnibjgpbpaaLkF
namespace Go.Proofs.Ytegbfnibjgpbpaa
open Go Go.Proofs
set_option maxRecDepth 100000
set_option maxHeartbeats 4000000
theorem newT26 (A : Asn) (p : Nat) : Ent (A * pts p (.cells (Value.agg #[.slice none 0 0]).cells 26 (0, 0))) (A * pts p (.cells #[(.slice none 0 0)] 26 (0, 0)) * own 9 1 (.slice none 0 0) ((List.nil : List (List UInt8))).length (Fl encS ((List.nil : List (List UInt8))))) := by
  have h := Ent.ownNil' (A * pts p (.cells (Value.agg #[.slice none 0 0]).cells 26 (0, 0))) 9 1 (Fl encS []) rfl
  rw [sep_assoc] at h ⊢
  exact h
section
variable {w0 : World} {A : Asn}
theorem s15a {u v : Value} {p k : Nat} {ts : List (List UInt8)} (rd : Rd w0 A u 1 k (Fl encS ts)) (hs : k * 16 ≤ 140737488355328) : Spec Try.prog w0 15 [.pointer (some ⟨p, 0, none⟩), u] (A * pts p (.cells #[v] 26 (0, 0)) * own 9 1 v ((List.nil : List (List UInt8))).length (Fl encS ((List.nil : List (List UInt8))))) (fun v' A' => ∃ v2, v' = .int .i64 (ts.length : Int) ∧ A' = A * pts p (.cells #[v2] 26 (0, 0)) * own 9 1 v2 (ts).length (Fl encS (ts))) :=
  s15 (ss := []) rd (by simpa using hs)
theorem s14 : Spec Try.prog w0 14 [] A (fun v' A' => ∃ J, v' = .bool true ∧ A' = A * J) := by
  refine Spec.of_run [] Try.func14 rfl (Nat.le_of_ble_eq_true rfl) (by repeat (first | exact trivial | refine ⟨rfl, ?_⟩)) ?_
  refine Run.seq ?_
  refine Run.region ?_
  refine RunL.ok (OpOk.assign rfl) rfl ?_
  refine RunL.nil ?_
  refine Run.seq ?_
  refine Run.region ?_
  refine RunL.alloc ti26 rfl (fun bx1 => ?_)
  refine RunL.ent (newT26 _ _) ?_
  refine RunL.nil ?_
  refine Run.seq ?_
  refine Run.region ?_
  refine RunL.litS (ss := [[97], [98], [99]]) rfl ti9 rfl rfl rfl (by decide) rfl (fun vx2 rdx2 => ?_)
  refine RunL.know (fun w s => (s.conv rfl).ownRd0) (fun rdx3 => ?_)
  refine RunL.mem (frc (frl rfl) (frc (frl rfl) rfl)) ?_
  refine RunL.call cal15 rfl (s15a (Rd.right rdx3) (by omega)) rfl (fun vx4 Ax4 hx4 => ?_)
  obtain ⟨x5, ⟨rfl, rfl⟩⟩ := hx4
  refine RunL.ok (OpOk.assign rfl) rfl ?_
  refine RunL.nil ?_
  refine Run.seq ?_
  refine Run.region ?_
  refine RunL.call cal19 rfl (s19 (by decide) (by decide) rfl) rfl (fun vx7 Ax7 hx7 => ?_)
  obtain ⟨x8, ⟨rfl, rfl⟩⟩ := hx7
  refine RunL.ok (OpOk.move rfl) rfl ?_
  refine RunL.ok (OpOk.ext20 rfl) rfl ?_
  refine RunL.ok (OpOk.ext21 rfl) rfl ?_
  refine RunL.ok (OpOk.assign rfl) rfl ?_
  refine RunL.ok (OpOk.assign rfl) rfl ?_
  refine RunL.nil ?_
  refine Run.seq ?_
  refine Run.region ?_
  refine RunL.ok (OpOk.move rfl) rfl ?_
  refine RunL.ok (OpOk.eql rfl rfl) rfl ?_
  refine RunL.ok (OpOk.move rfl) rfl ?_
  refine RunL.on rfl rfl ?_
  refine RunL.ok (OpOk.move rfl) rfl ?_
  refine RunL.on rfl rfl ?_
  refine RunL.ok (OpOk.eqlSS rfl rfl) rfl ?_
  refine RunL.ok (OpOk.pickT rfl rfl) rfl ?_
  refine RunL.ok (OpOk.move rfl) rfl ?_
  refine RunL.on rfl rfl ?_
  refine RunL.ok (OpOk.move rfl) rfl ?_
  refine RunL.ok (OpOk.pickT rfl rfl) rfl ?_
  refine RunL.ok (OpOk.move rfl) rfl ?_
  refine RunL.on rfl rfl ?_
  refine RunL.call cal28 rfl (s28 (by decide) (by decide) rfl) rfl (fun vx10 Ax10 hx10 => ?_)
  obtain ⟨x11, ⟨x12, ⟨rfl, rfl⟩⟩⟩ := hx10
  refine RunL.ok (OpOk.pickT rfl rfl) rfl ?_
  refine RunL.ok (OpOk.move rfl) rfl ?_
  refine RunL.on rfl rfl ?_
  refine RunL.call cal20 rfl (s20) rfl (fun vx13 Ax13 hx13 => ?_)
  obtain ⟨rfl, rfl⟩ := hx13
  refine RunL.on rfl rfl ?_
  refine RunL.ok (OpOk.eql rfl rfl) rfl ?_
  refine RunL.ok (OpOk.pickT rfl rfl) rfl ?_
  refine RunL.ok (OpOk.assign rfl) rfl ?_
  refine RunL.nil ?_
  refine Run.ret1 Try.func14 rfl rfl ?_
  exact ⟨_, rfl, (asg (asg (asg as1)))⟩
theorem only_TT (o : List UInt8) (xs : List (List UInt8)) : only o true (only o true xs) = only o true xs := by
  simp [only, List.filter_filter]
theorem only_FT (o : List UInt8) (xs : List (List UInt8)) : only o false (only o true xs) = [] := by
  simp [only, List.filter_filter]
theorem linkSweeps_spec {u : Value} {o : List UInt8} {ss : List (List UInt8)} (rd : Rd w0 (old w0) u 1 ss.length (Fl encS ss)) :
    Spec Try.prog w0 4 [u, S o] (old w0) (fun v' A' => v' = .bool true ∧ Grew (old w0) A') := by
  have l1 := only_le o true ss
  have l2 := only_le o false ss
  have e1 := only_TT o ss
  have l3 : (only o true (only o true ss)).length ≤ ss.length := by rw [e1]; exact l1
  have e2 : (only o false (only o true ss)).length = 0 := by rw [only_FT]; rfl
  have e3 : only o true (only o true (only o true ss)) = only o true ss := by rw [e1, e1]
  have e4 : (only o false (only o true (only o true ss))).length = 0 := by rw [only_FT]; rfl
  have l5 : (only o true (only o true (only o true ss))).length ≤ ss.length := by rw [e3]; exact l1
  refine Spec.of_run [(0, u), (1, S o)] Try.func4 rfl (Nat.le_of_ble_eq_true rfl) (by repeat (first | exact trivial | refine ⟨rfl, ?_⟩)) ?_
  refine Run.seq ?_
  refine Run.region ?_
  refine RunL.box1 rfl rfl rfl (fun bx1 => ?_)
  refine RunL.ok (OpOk.assign rfl) rfl ?_
  refine RunL.nil ?_
  refine Run.seq ?_
  refine Run.seq ?_
  refine Run.region ?_
  refine RunL.call cal14 rfl (s14) rfl (fun vx2 Ax2 hx2 => ?_)
  obtain ⟨x3, ⟨rfl, rfl⟩⟩ := hx2
  refine RunL.ok (OpOk.not rfl) rfl ?_
  refine RunL.ok (OpOk.move rfl) rfl ?_
  refine RunL.on rfl rfl ?_
  refine RunL.ok (OpOk.move rfl) rfl ?_
  refine RunL.on rfl rfl ?_
  refine RunL.ok (OpOk.lenR rfl rfl rd.left.left rfl) rfl ?_
  refine RunL.on rfl rfl ?_
  refine RunL.ok (OpOk.gtr rfl rfl) rfl ?_
  refine RunL.ok (OpOk.pickF rfl rfl) rfl ?_
  refine RunL.nil ?_
  refine Run.condD rfl (fun x4 => ?_) (fun x4 => ?_)
  · refine Run.seq ?_
    refine Run.region ?_
    refine RunL.call cal14 rfl (s14) rfl (fun vx5 Ax5 hx5 => ?_)
    obtain ⟨x6, ⟨rfl, rfl⟩⟩ := hx5
    refine RunL.ok (OpOk.assign rfl) rfl ?_
    refine RunL.nil ?_
    refine Run.ret1 Try.func4 rfl rfl ?_
    exact ⟨rfl, ⟨_, (asg (asg as1))⟩⟩
  refine Run.skip ?_
  refine Run.seq ?_
  refine Run.region ?_
  refine RunL.ok (OpOk.build rfl (fun w => run_build w 26 _ _ (by rfl))) rfl ?_
  refine RunL.box rfl rfl (fun bx7 => ?_)
  refine RunL.ent (newT26 _ _) ?_
  refine RunL.ok (OpOk.assign rfl) rfl ?_
  refine RunL.nil ?_
  refine Run.seq ?_
  refine Run.region ?_
  refine RunL.ok (OpOk.move rfl) rfl ?_
  refine RunL.ok (OpOk.move rfl) rfl ?_
  refine RunL.call cal15 rfl (s15a rd.left.left (by omega)) rfl (fun vx8 Ax8 hx8 => ?_)
  obtain ⟨x9, ⟨rfl, rfl⟩⟩ := hx8
  refine RunL.nil ?_
  refine Run.seq ?_
  refine Run.region ?_
  refine RunL.ok (OpOk.move rfl) rfl ?_
  refine RunL.ok (OpOk.makeFunc rfl rfl) rfl ?_
  refine RunL.mem (frc rfl (frc rfl (frc (frl rfl) rfl))) ?_
  refine RunL.call cal16 rfl (s16b (by omega)) rfl (fun vx10 Ax10 hx10 => ?_)
  obtain ⟨x11, ⟨x12, rfl⟩⟩ := hx10
  refine RunL.ok (OpOk.assign rfl) rfl ?_
  refine RunL.nil ?_
  refine Run.seq ?_
  refine Run.region ?_
  refine RunL.ok (OpOk.move rfl) rfl ?_
  refine RunL.ok (OpOk.makeFunc rfl rfl) rfl ?_
  refine RunL.mem (frc (frl rfl) (frc (frl rfl) (frc (frl rfl) rfl))) ?_
  refine RunL.call cal16 rfl (s16c (by omega)) rfl (fun vx13 Ax13 hx13 => ?_)
  obtain ⟨x14, ⟨x15, rfl⟩⟩ := hx13
  refine RunL.ok (OpOk.assign rfl) rfl ?_
  refine RunL.nil ?_
  refine Run.seq ?_
  refine Run.region ?_
  refine RunL.ok (OpOk.move rfl) rfl ?_
  refine RunL.ok (OpOk.makeFunc rfl rfl) rfl ?_
  refine RunL.mem (frc (frl rfl) (frc (frl rfl) (frc (frl rfl) rfl))) ?_
  refine RunL.call cal16 rfl (s16d (by omega)) rfl (fun vx16 Ax16 hx16 => ?_)
  obtain ⟨x17, ⟨x18, rfl⟩⟩ := hx16
  refine RunL.ok (OpOk.assign rfl) rfl ?_
  refine RunL.nil ?_
  refine Run.seq ?_
  refine Run.region ?_
  refine RunL.ok (OpOk.move rfl) rfl ?_
  refine RunL.ok (OpOk.move rfl) rfl ?_
  refine RunL.ok (OpOk.load rfl rfl rfl (Blk.out Blk.pts.left.left.left _ _ (by first | rfl | assumption))) rfl ?_
  refine RunL.call cal18 rfl (s18 rd.left.left.left.left.left.left.left.left.left.left (by omega)) rfl (fun vx19 Ax19 hx19 => ?_)
  obtain ⟨x20, rfl⟩ := hx19
  refine RunL.know (fun w s => (s.conv (frl (frl (frl (frl (frl (frl (frl (frl (frl rfl)))))))))).ownRd0) (fun rdx21 => ?_)
  refine RunL.know (fun w s => (s.conv rfl).ownRd0) (fun rdx22 => ?_)
  refine RunL.call cal24 rfl (s24 (Rd.right rdx21).left.left.left.left.left.left.left.left.left (Rd.right rdx22)) rfl (fun vx23 Ax23 hx23 => ?_)
  obtain ⟨rfl, rfl⟩ := hx23
  refine RunL.ok (OpOk.move rfl) rfl ?_
  refine RunL.splitDT (t := 36) rfl (by first | omega | with_reducible rfl | assumption) ?_
  refine RunL.on rfl rfl ?_
  refine RunL.ok (OpOk.move rfl) rfl ?_
  refine RunL.on rfl rfl ?_
  refine RunL.know (fun w s => (s.conv (frl (frl (frl (frl (frl (frl (frl rfl)))))))).ownRd0) (fun rdx25 => ?_)
  refine RunL.ok (OpOk.lenR rfl rfl (Rd.right rdx25).left.left.left.left.left.left.left rfl) rfl ?_
  refine RunL.on rfl rfl ?_
  refine RunL.ok (OpOk.asT (OpOk.eql rfl rfl) (by omega)) rfl ?_
  refine RunL.ok (OpOk.pickT rfl rfl) rfl ?_
  refine RunL.ok (OpOk.move rfl) rfl ?_
  refine RunL.on rfl rfl ?_
  refine RunL.ok (OpOk.move rfl) rfl ?_
  refine RunL.on rfl rfl ?_
  refine RunL.ok (OpOk.move rfl) rfl ?_
  refine RunL.on rfl rfl ?_
  refine RunL.ok (OpOk.load rfl rfl rfl (Blk.out Blk.pts.left.left.left.left.left _ _ (by first | rfl | assumption))) rfl ?_
  refine RunL.on rfl rfl ?_
  refine RunL.call cal18 rfl (s18 rd.left.left.left.left.left.left.left.left.left.left.left.left (by omega)) rfl (fun vx26 Ax26 hx26 => ?_)
  obtain ⟨x27, rfl⟩ := hx26
  refine RunL.on rfl rfl ?_
  refine RunL.know (fun w s => (s.conv (frl (frl (frl (frl rfl))))).ownRd0) (fun rdx28 => ?_)
  refine RunL.know (fun w s => (s.conv rfl).ownRd0) (fun rdx29 => ?_)
  refine RunL.call cal24 rfl (s24 (Rd.right rdx28).left.left.left.left (Rd.right rdx29)) rfl (fun vx30 Ax30 hx30 => ?_)
  obtain ⟨rfl, rfl⟩ := hx30
  refine RunL.ok (OpOk.pickT rfl rfl) rfl ?_
  refine RunL.ok (OpOk.move rfl) rfl ?_
  refine RunL.splitDT (t := 48) rfl (by first | omega | with_reducible rfl | assumption) ?_
  refine RunL.on rfl rfl ?_
  refine RunL.ok (OpOk.move rfl) rfl ?_
  refine RunL.on rfl rfl ?_
  refine RunL.mem (frc (frl (frl (frl (frl (frl rfl))))) (frc (frl (frl (frl (frl (frl rfl))))) rfl)) ?_
  refine RunL.call cal20 rfl (s20) rfl (fun vx32 Ax32 hx32 => ?_)
  obtain ⟨rfl, rfl⟩ := hx32
  refine RunL.on rfl rfl ?_
  refine RunL.ok (OpOk.asT (OpOk.eql rfl rfl) (by omega)) rfl ?_
  refine RunL.ok (OpOk.pickT rfl rfl) rfl ?_
  refine RunL.ok (OpOk.assign rfl) rfl ?_
  refine RunL.nil ?_
  refine Run.ret1 Try.func4 rfl rfl ?_
  exact ⟨rfl, ⟨_, (asg (asg (asg (asg (asg (asg (asg (asg (asg (asg (asg (asg (asg as1)))))))))))))⟩⟩
theorem linkOrder_spec {u1 u2 : Value} {o : List UInt8} {ss ts : List (List UInt8)} (rd : Rd w0 (old w0) u1 1 ss.length (Fl encS ss)) (rd2 : Rd w0 (old w0) u2 1 ts.length (Fl encS ts)) :
    Spec Try.prog w0 3 [u1, S o, u2] (old w0) (fun v' A' => v' = .bool true ∧ Grew (old w0) A') := by
  have l1 := only_le o true ss
  have l2 := only_le o false ss
  refine Spec.of_run [(0, u1), (1, S o), (2, u2)] Try.func3 rfl (Nat.le_of_ble_eq_true rfl) (by repeat (first | exact trivial | refine ⟨rfl, ?_⟩)) ?_
  refine Run.seq ?_
  refine Run.region ?_
  refine RunL.box1 rfl rfl rfl (fun bx1 => ?_)
  refine RunL.ok (OpOk.assign rfl) rfl ?_
  refine RunL.nil ?_
  refine Run.seq ?_
  refine Run.seq ?_
  refine Run.region ?_
  refine RunL.call cal14 rfl (s14) rfl (fun vx2 Ax2 hx2 => ?_)
  obtain ⟨x3, ⟨rfl, rfl⟩⟩ := hx2
  refine RunL.ok (OpOk.not rfl) rfl ?_
  refine RunL.ok (OpOk.move rfl) rfl ?_
  refine RunL.on rfl rfl ?_
  refine RunL.ok (OpOk.move rfl) rfl ?_
  refine RunL.on rfl rfl ?_
  refine RunL.ok (OpOk.lenR rfl rfl rd.left.left rfl) rfl ?_
  refine RunL.on rfl rfl ?_
  refine RunL.ok (OpOk.gtr rfl rfl) rfl ?_
  refine RunL.ok (OpOk.pickF rfl rfl) rfl ?_
  refine RunL.ok (OpOk.move rfl) rfl ?_
  refine RunL.splitD (t := 19) rfl (fun x4 => ?_) (fun x4 => ?_)
  · refine RunL.off rfl rfl rfl rfl ?_
    refine RunL.off rfl rfl rfl rfl ?_
    refine RunL.off rfl rfl rfl rfl ?_
    refine RunL.ok (OpOk.pickT rfl rfl) rfl ?_
    refine RunL.nil ?_
    refine Run.condT rfl ?_
    refine Run.seq ?_
    refine Run.region ?_
    refine RunL.call cal14 rfl (s14) rfl (fun vx5 Ax5 hx5 => ?_)
    obtain ⟨x6, ⟨rfl, rfl⟩⟩ := hx5
    refine RunL.ok (OpOk.assign rfl) rfl ?_
    refine RunL.nil ?_
    refine Run.ret1 Try.func3 rfl rfl ?_
    exact ⟨rfl, ⟨_, (asg (asg as1))⟩⟩
  refine RunL.on rfl rfl ?_
  refine RunL.ok (OpOk.move rfl) rfl ?_
  refine RunL.on rfl rfl ?_
  refine RunL.ok (OpOk.lenR rfl rfl rd2.left.left rfl) rfl ?_
  refine RunL.on rfl rfl ?_
  refine RunL.ok (OpOk.gtr rfl rfl) rfl ?_
  refine RunL.ok (OpOk.pickF rfl rfl) rfl ?_
  refine RunL.nil ?_
  refine Run.condD rfl (fun x7 => ?_) (fun x7 => ?_)
  · refine Run.seq ?_
    refine Run.region ?_
    refine RunL.call cal14 rfl (s14) rfl (fun vx8 Ax8 hx8 => ?_)
    obtain ⟨x9, ⟨rfl, rfl⟩⟩ := hx8
    refine RunL.ok (OpOk.assign rfl) rfl ?_
    refine RunL.nil ?_
    refine Run.ret1 Try.func3 rfl rfl ?_
    exact ⟨rfl, ⟨_, (asg (asg as1))⟩⟩
  refine Run.skip ?_
  refine Run.seq ?_
  refine Run.region ?_
  refine RunL.ok (OpOk.build rfl (fun w => run_build w 26 _ _ (by rfl))) rfl ?_
  refine RunL.box rfl rfl (fun bx10 => ?_)
  refine RunL.ent (newT26 _ _) ?_
  refine RunL.ok (OpOk.assign rfl) rfl ?_
  refine RunL.nil ?_
  refine Run.seq ?_
  refine Run.region ?_
  refine RunL.ok (OpOk.move rfl) rfl ?_
  refine RunL.ok (OpOk.move rfl) rfl ?_
  refine RunL.call cal15 rfl (s15a rd.left.left (by omega)) rfl (fun vx11 Ax11 hx11 => ?_)
  obtain ⟨x12, ⟨rfl, rfl⟩⟩ := hx11
  refine RunL.nil ?_
  refine Run.seq ?_
  refine Run.region ?_
  refine RunL.ok (OpOk.move rfl) rfl ?_
  refine RunL.ok (OpOk.makeFunc rfl rfl) rfl ?_
  refine RunL.mem (frc rfl (frc rfl (frc (frl rfl) rfl))) ?_
  refine RunL.call cal16 rfl (s16a (by omega)) rfl (fun vx13 Ax13 hx13 => ?_)
  obtain ⟨x14, ⟨x15, rfl⟩⟩ := hx13
  refine RunL.nil ?_
  refine Run.seq ?_
  refine Run.region ?_
  refine RunL.ok (OpOk.move rfl) rfl ?_
  refine RunL.ok (OpOk.move rfl) rfl ?_
  refine RunL.mem (frc (frl rfl) (frc (frl rfl) rfl)) ?_
  refine RunL.call cal15 rfl (s15 rd2.left.left.left.left (by omega)) rfl (fun vx17 Ax17 hx17 => ?_)
  obtain ⟨x18, ⟨rfl, rfl⟩⟩ := hx17
  refine RunL.nil ?_
  refine Run.seq ?_
  refine Run.region ?_
  refine RunL.lit0 rfl ti9 rfl (fun vx19 rdx19 => ?_)
  refine RunL.ok (OpOk.move rfl) rfl ?_
  refine RunL.ok (OpOk.load rfl rfl rfl (Blk.out Blk.pts.left.left.left.left _ _ (by first | rfl | assumption))) rfl ?_
  refine RunL.call cal18 rfl (s18 rd.left.left.left.left.left.left.left (by omega)) rfl (fun vx20 Ax20 hx20 => ?_)
  obtain ⟨x21, rfl⟩ := hx20
  refine RunL.know (fun w s => (s.conv rfl).ownRd0) (fun rdx23 => ?_)
  refine RunL.appendF0 rfl ti9 rfl rfl rfl (frl (frl rfl)) (Rd.right rdx23) rfl (by decide) (by omega) (by simp only [maxLen]; omega) rfl (fun vx22 rdx22 => ?_)
  refine RunL.ok (OpOk.move rfl) rfl ?_
  refine RunL.appendF rfl ti9 rfl rfl rfl rfl rd2.left.left.left.left.left.left.left.left.left rfl (by decide) (by omega) (by simp only [maxLen]; omega) rfl (fun vx24 rdx24 => ?_)
  refine RunL.ok (OpOk.assign rfl) rfl ?_
  refine RunL.nil ?_
  refine Run.seq ?_
  refine Run.seq ?_
  refine Run.region ?_
  refine RunL.ok (OpOk.assign rfl) rfl ?_
  refine RunL.nil ?_
  refine Run.block ?_
  refine Run.jump ((Run.loopJ (X := Nat × Asn × Value × List (List UInt8)) (fun x => [(9, .int .i64 (x.1 : Int)), (8, vx24), (7, .pointer (some ⟨bx10, 0, none⟩))]) (fun x => old w0 * x.2.1 * own 9 1 vx24 ((only o false ss).length + ts.length) (Fl encS (only o false ss ++ ts)) * pts bx10 (.cells #[x.2.2.1] 26 (0, 0)) * own 9 1 x.2.2.1 (x.2.2.2).length (Fl encS (x.2.2.2))) (fun x => x.1 ≤ (only o false ss).length + ts.length ∧ x.2.2.2 = (only o false ss ++ ts).drop x.1) (fun x => (only o false ss).length + ts.length - x.1) (0, _, x18, only o false ss ++ ts) ⟨Nat.zero_le _, rfl⟩ (fun x hx ih => ?_))) ⟨rfl, rfl, rfl, trivial⟩ (Grew.of (Eq.trans (frc (frl (frl (frl rfl))) (frc (frl (frl (frl rfl))) rfl)) (congrArg (· * _) (congrArg (· * _) (congrArg (· * _) (asg (asg (asg (asg (asg as1))))))))) (Grew.refl _))
  obtain ⟨i, J, v, ys⟩ := x
  simp only at hx ih ⊢
  obtain ⟨hi, hys⟩ := hx
  have hyl : ys.length = (only o false ss).length + ts.length - i := by rw [hys, List.length_drop, List.length_append]
  rcases Nat.lt_or_ge i ((only o false ss).length + ts.length) with hlt | hge
  · have h0 : 0 < ys.length := by omega
    have hk0 : (0 : Int) % (ys.length : Int) = ((0 : Nat) : Int) := by simp
    have hd : ys.getD 0 default = (only o false ss ++ ts).getD i default := by
      rw [hys]
      simp [List.getD_eq_getElem?_getD]
    have hn : del 0 ys = (only o false ss ++ ts).drop (i + 1) := by
      rw [hys]
      simp [del]
    refine Run.seq ?_
    refine Run.seq ?_
    refine Run.region ?_
    refine RunL.ok (OpOk.move rfl) rfl ?_
    refine RunL.ok (OpOk.move rfl) rfl ?_
    refine RunL.know (fun w s => (s.conv (frl (frl rfl))).ownRd0) (fun rdy1 => ?_)
    refine RunL.ok (OpOk.lenR rfl rfl (Rd.right rdy1).left.left rfl) rfl ?_
    refine RunL.ok (OpOk.asT (OpOk.lss rfl rfl) (by omega)) rfl ?_
    refine RunL.nil ?_
    refine Run.condT rfl ?_
    refine Run.skip ?_
    refine Run.seq ?_
    refine Run.block ?_
    refine Run.seq ?_
    refine Run.region ?_
    refine RunL.ok (OpOk.move rfl) rfl ?_
    refine RunL.call cal19 rfl (s19 (by assumption) (by omega) (by assumption)) rfl (fun vy3 Ay3 hy3 => ?_)
    obtain ⟨y4, ⟨rfl, rfl⟩⟩ := hy3
    refine RunL.ok (OpOk.move rfl) rfl ?_
    refine RunL.ok (OpOk.ext20 rfl) rfl ?_
    refine RunL.ok (OpOk.ext21 rfl) rfl ?_
    refine RunL.ok (OpOk.assign rfl) rfl ?_
    refine RunL.ok (OpOk.assign rfl) rfl ?_
    refine RunL.nil ?_
    refine Run.seq ?_
    refine Run.region ?_
    refine RunL.ok (OpOk.move rfl) rfl ?_
    refine RunL.ok (OpOk.not rfl) rfl ?_
    refine RunL.ok (OpOk.move rfl) rfl ?_
    refine RunL.on rfl rfl ?_
    refine RunL.ok (OpOk.move rfl) rfl ?_
    refine RunL.on rfl rfl ?_
    refine RunL.ok (OpOk.move rfl) rfl ?_
    refine RunL.on rfl rfl ?_
    refine RunL.ok (OpOk.move rfl) rfl ?_
    refine RunL.on rfl rfl ?_
    refine RunL.ok (OpOk.idx1N rfl ti9 rfl (Rd.right rdy1).left.left rfl (by omega)) rfl ?_
    refine RunL.on rfl rfl ?_
    refine RunL.ok (OpOk.loadStr rfl rfl rfl (Rd.right rdy1).left.left (by omega)) rfl ?_
    refine RunL.on rfl rfl ?_
    refine RunL.ok (OpOk.as (c := false) (OpOk.neqSS rfl rfl) (by rw [decide_eq_true (by omega)]; rfl)) rfl ?_
    refine RunL.ok (OpOk.pickF rfl rfl) rfl ?_
    refine RunL.nil ?_
    refine Run.condF rfl ?_
    refine Run.skip ?_
    refine Run.inBlock ?_
    refine Run.region ?_
    refine RunL.ok (OpOk.move rfl) rfl ?_
    refine RunL.ok (OpOk.addN _ 1 rfl rfl rfl rfl (by omega)) rfl ?_
    refine RunL.ok (OpOk.assign rfl) rfl ?_
    refine RunL.nil ?_
    refine Run.jump ((ih (i + 1, _, _, del 0 ys) ⟨by dsimp only; omega, hn⟩ (by dsimp only; omega))) ⟨rfl, rfl, rfl, trivial⟩ (Grew.of (congrArg (· * _) (congrArg (· * _) (congrArg (· * _) as1))) (Grew.refl _))
  · have h0 : ys.length = 0 := by omega
    obtain rfl : i = (only o false ss).length + ts.length := by omega
    clear ih
    refine Run.seq ?_
    refine Run.seq ?_
    refine Run.region ?_
    refine RunL.ok (OpOk.move rfl) rfl ?_
    refine RunL.ok (OpOk.move rfl) rfl ?_
    refine RunL.know (fun w s => (s.conv (frl (frl rfl))).ownRd0) (fun rdy1 => ?_)
    refine RunL.ok (OpOk.lenR rfl rfl (Rd.right rdy1).left.left rfl) rfl ?_
    refine RunL.ok (OpOk.asF (OpOk.lss rfl rfl) (by omega)) rfl ?_
    refine RunL.nil ?_
    refine Run.condF rfl ?_
    refine Run.exit rfl ?_
    refine Run.seq ?_
    refine Run.region ?_
    refine RunL.ok (OpOk.move rfl) rfl ?_
    refine RunL.call cal20 rfl (s20) rfl (fun vy2 Ay2 hy2 => ?_)
    obtain ⟨rfl, rfl⟩ := hy2
    refine RunL.ok (OpOk.asT (OpOk.eql rfl rfl) (by omega)) rfl ?_
    refine RunL.ok (OpOk.assign rfl) rfl ?_
    refine RunL.nil ?_
    refine Run.ret1 Try.func3 rfl rfl ?_
    exact ⟨rfl, ⟨_, (asg (asg (asg as1)))⟩⟩
end
end Go.Proofs.Ytegbfnibjgpbpaa
