/- The law of images, walked. -/
import Derived.Test.YtlmehpjcmdipmaaCaD
namespace Go.Proofs.Ytlmehpjcmdipmaa
open Go Go.Proofs
set_option maxRecDepth 100000
set_option maxHeartbeats 4000000
theorem tmod16_lt (a : Int) : -16 < a.tmod 16 ∧ a.tmod 16 < 16 := by
  have h1 := Int.tmod_lt_of_pos a (show (0 : Int) < 16 by decide)
  have h2 := Int.lt_tmod_of_pos a (show (0 : Int) < 16 by decide)
  omega
theorem cardImages_spec {w0 : World} {u1 u2 : Value} {im mo : List UInt8} {n : Int} (rd : Rd w0 (old w0) u1 1 im.length (B im)) (rd2 : Rd w0 (old w0) u2 1 mo.length (B mo)) :
    Spec Try.prog w0 7 [u1, .int .i64 n, u2] (old w0) (fun v' A' => v' = .bool true ∧ Grew (old w0) A') := by
  have hll := laid_length im (List.replicate 512 0)
  rw [List.length_replicate] at hll
  have hl2 := laid_length mo (List.replicate 32 0)
  rw [List.length_replicate] at hl2
  have ht := tmod16_lt n
  have hsame := secOf_same (xs := laid im (List.replicate 512 0)) (ys := laid mo (List.replicate 32 0)) (i := ((n.tmod 16 + 16) % 16).toNat) hll (by omega) hl2
  have hsl := setSec_length (xs := laid im (List.replicate 512 0)) (ys := laid mo (List.replicate 32 0)) (i := ((n.tmod 16 + 16) % 16).toNat) hll (by omega) hl2
  refine Spec.of_run [(0, u1), (1, .int .i64 n), (2, u2)] Try.func7 rfl (Nat.le_of_ble_eq_true rfl) (by repeat (first | exact trivial | refine ⟨rfl, ?_⟩)) ?_
  refine Run.seq ?_
  refine Run.region ?_
  refine RunL.ok (OpOk.assign rfl) rfl ?_
  refine RunL.nil ?_
  refine Run.seq ?_
  refine Run.seq ?_
  refine Run.region ?_
  refine RunL.call cal17 rfl (s17) rfl (fun vx1 Ax1 hx1 => ?_)
  obtain ⟨x2, ⟨rfl, rfl⟩⟩ := hx1
  refine RunL.ok (OpOk.not rfl) rfl ?_
  refine RunL.nil ?_
  refine Run.condF rfl ?_
  refine Run.skip ?_
  refine Run.seq ?_
  refine Run.region ?_
  refine RunL.call cal18 rfl (s18) rfl (fun vx3 Ax3 hx3 => ?_)
  obtain ⟨x4, ⟨rfl, rfl⟩⟩ := hx3
  refine RunL.call cal18 rfl (s18) rfl (fun vx5 Ax5 hx5 => ?_)
  obtain ⟨x6, ⟨rfl, rfl⟩⟩ := hx5
  refine RunL.ok (OpOk.assign rfl) rfl ?_
  refine RunL.ok (OpOk.assign rfl) rfl ?_
  refine RunL.nil ?_
  refine Run.seq ?_
  refine Run.seq ?_
  refine Run.region ?_
  refine RunL.ok (OpOk.move rfl) rfl ?_
  refine RunL.ok (OpOk.eqlPN rfl rfl) rfl ?_
  refine RunL.ok (OpOk.move rfl) rfl ?_
  refine RunL.on rfl rfl ?_
  refine RunL.ok (OpOk.move rfl) rfl ?_
  refine RunL.on rfl rfl ?_
  refine RunL.ok (OpOk.eqlPN rfl rfl) rfl ?_
  refine RunL.ok (OpOk.pickF rfl rfl) rfl ?_
  refine RunL.nil ?_
  refine Run.condF rfl ?_
  refine Run.skip ?_
  refine Run.seq ?_
  refine Run.region ?_
  refine RunL.makeB (m := 512) rfl ti5 rfl rfl (by omega) rfl (fun vx7 rdx7 => ?_)
  refine RunL.ok (OpOk.assign rfl) rfl ?_
  refine RunL.nil ?_
  refine Run.seq ?_
  refine Run.region ?_
  refine RunL.ok (OpOk.move rfl) rfl ?_
  refine RunL.ok (OpOk.move rfl) rfl ?_
  refine RunL.copyB rfl ti5 rfl rfl rfl rfl rd.left.left.left.left rfl (fun rdx8 => ?_)
  refine RunL.nil ?_
  refine Run.seq ?_
  refine Run.seq ?_
  refine Run.know (fun w s => (s.conv rfl).ownRd0) (fun rdx9 => ?_)
  (apply Run.drawD [] (by rfl) (Eq.trans (frc (frl rfl) (frc (frl rfl) rfl)) (asg rfl)); case hchk => kernel_rfl)
  refine Sd.quiet 0 _ _ rfl rfl rfl rfl rfl (QOp.ok (fun X => OpOk.move rfl)) ?_
  refine Sd.quiet 1 _ _ rfl rfl rfl rfl rfl (QOp.ok (fun X => OpOk.move rfl)) ?_
  (refine Sd.exec 2 rfl rfl rfl rfl rfl ?hrest (by rfl) (fun Xx10 Kx10 hKx10 => ?_); case hrest => kernel_rfl)
  refine RunL.mem (fl2 (sep_emp _) (flS rfl)) ?_
  refine RunL.mem (frc (frl rfl) rfl) ?_
  refine RunL.call cal22 rfl (s22c (Rd.right rdx9).left.left rfl rfl) rfl (fun vx13 Ax13 hx13 => ?_)
  obtain ⟨rfl, rfl⟩ := hx13
  refine Sd.ret hKx10 (Eq.trans (frc (frl rfl) rfl) (gp2 (asg rfl) (sep_emp _).symm)) ⟨emp, (sep_emp _).symm⟩ ?_
  refine Sd.quiet 3 _ _ rfl rfl rfl rfl rfl (QOp.ok (fun X => OpOk.as (c := false) (OpOk.neq rfl rfl) (by rw [decide_eq_true (by omega)]; rfl))) ?_
  refine Sd.quiet 4 _ _ rfl rfl rfl rfl rfl (QOp.ok (fun X => OpOk.move rfl)) ?_
  refine Sd.quiet 5 _ _ rfl rfl rfl rfl rfl (QOp.ok (fun X => OpOk.move rfl)) ?_
  refine Sd.quiet 6 _ _ rfl rfl rfl rfl rfl (QOp.ok (fun X => OpOk.move rfl)) ?_
  (refine Sd.exec 7 rfl rfl rfl rfl rfl ?hrest (by rfl) (fun Xx14 Kx14 hKx14 => ?_); case hrest => kernel_rfl)
  refine RunL.mem (fl2 (sep_emp _) (flS rfl)) ?_
  refine RunL.mem (frc (frl rfl) rfl) ?_
  refine RunL.call cal26 rfl (s26 (by assumption)) rfl (fun vx15 Ax15 hx15 => ?_)
  obtain rfl := hx15
  refine RunL.know (fun w s => (s.conv rfl).ownRd0) (fun rdx16 => ?_)
  refine Sd.ret hKx14 (Eq.trans (frc (frl rfl) (frc (frl rfl) rfl)) (gp2 (asg rfl) rfl)) ⟨_, (emp_sep _).symm⟩ ?_
  (refine Sd.exec 8 rfl rfl rfl rfl rfl ?hrest (by rfl) (fun Xx17 Kx17 hKx17 => ?_); case hrest => kernel_rfl)
  refine RunL.mem (fl2 rfl (flS rfl)) ?_
  refine RunL.mem (frc (frl rfl) rfl) ?_
  refine RunL.call cal22 rfl (s22c (Rd.right rdx16).left rfl rfl) rfl (fun vx20 Ax20 hx20 => ?_)
  obtain ⟨rfl, rfl⟩ := hx20
  refine Sd.ret hKx17 (Eq.trans (frc (frl rfl) rfl) (gp2 rfl (asg rfl))) ⟨_, rfl⟩ ?_
  refine Sd.quiet 9 _ _ rfl rfl rfl rfl rfl (QOp.ok (fun X => OpOk.as (c := false) (OpOk.neq rfl rfl) (by rw [decide_eq_true (by omega)]; rfl))) ?_
  refine Sd.quiet 10 _ _ rfl rfl rfl rfl rfl (QOp.ok (fun X => OpOk.pickF rfl rfl)) ?_
  refine Sd.quiet 11 _ _ rfl rfl rfl rfl rfl (QOp.ok (fun X => OpOk.move rfl)) ?_
  refine Sd.quiet 12 _ _ rfl rfl rfl rfl rfl (QOp.ok (fun X => OpOk.move rfl)) ?_
  refine Sd.quiet 15 _ _ rfl rfl rfl rfl rfl (QOp.ok (fun X => OpOk.move rfl)) ?_
  refine Sd.quiet 16 _ _ rfl rfl rfl rfl rfl (QOp.ok (fun X => OpOk.strOf rfl rfl rfl rfl (Rd.right rdx9).left.left)) ?_
  (refine Sd.exec 13 rfl rfl rfl rfl rfl ?hrest (by rfl) (fun Xx21 Kx21 hKx21 => ?_); case hrest => kernel_rfl)
  refine RunL.mem (fl2 (flS rfl) rfl) ?_
  refine RunL.call cal26 rfl (s26 (by assumption)) rfl (fun vx22 Ax22 hx22 => ?_)
  obtain rfl := hx22
  refine RunL.know (fun w s => (s.conv rfl).ownRd0) (fun rdx23 => ?_)
  refine Sd.ret hKx21 (Eq.trans rfl (gp2 (sep_emp _).symm (asg (asg (asg rfl))))) ⟨_, (asg rfl)⟩ ?_
  refine Sd.quiet 14 _ _ rfl rfl rfl rfl rfl (QOp.ok (fun X => OpOk.strOf rfl rfl rfl rfl (Rd.right (Rd.right rdx23)).left)) ?_
  refine Sd.quiet 17 _ _ rfl rfl rfl rfl rfl (QOp.ok (fun X => OpOk.neqSS rfl rfl)) ?_
  refine Sd.quiet 18 _ _ rfl rfl rfl rfl rfl (QOp.ok (fun X => OpOk.pickF rfl rfl)) ?_
  (apply Sd.tail; case hall => kernel_rfl)
  refine RunL.mem (fl2 (flS (flS (flS rfl))) (sep_emp _)) ?_
  refine RunL.nil ?_
  refine Run.condNF rfl (by first | omega | with_reducible rfl | assumption) ?_
  refine Run.skip ?_
  refine Run.seq ?_
  refine Run.region ?_
  refine RunL.makeB (m := 32) rfl ti5 rfl rfl (by omega) rfl (fun vx24 rdx24 => ?_)
  refine RunL.ok (OpOk.assign rfl) rfl ?_
  refine RunL.nil ?_
  refine Run.seq ?_
  refine Run.region ?_
  refine RunL.ok (OpOk.move rfl) rfl ?_
  refine RunL.ok (OpOk.move rfl) rfl ?_
  refine RunL.copyB rfl ti5 rfl rfl rfl rfl rd2.left.left.left.left.left.left.left rfl (fun rdx25 => ?_)
  refine RunL.nil ?_
  refine Run.seq ?_
  refine Run.region ?_
  refine RunL.ok (OpOk.move rfl) rfl ?_
  refine RunL.ok (OpOk.rem rfl rfl (by decide) rfl) rfl ?_
  refine RunL.ok (OpOk.add rfl rfl (wrapI (by omega) (by omega))) rfl ?_
  refine RunL.ok (OpOk.rem rfl rfl (by decide) (tmodI (by omega))) rfl ?_
  refine RunL.ok (OpOk.assign rfl) rfl ?_
  refine RunL.nil ?_
  refine Run.seq ?_
  refine Run.seq ?_
  refine Run.region ?_
  refine RunL.ok (OpOk.move rfl) rfl ?_
  refine RunL.ok (OpOk.move rfl) rfl ?_
  refine RunL.ok (OpOk.move rfl) rfl ?_
  refine RunL.know (fun w s => (s.conv rfl).ownRd0) (fun rdx26 => ?_)
  refine RunL.mem (frc (frl (frl rfl)) rfl) ?_
  refine RunL.call cal20 rfl (s20e (Rd.right rdx26) (by omega) (by omega) rfl (by assumption) (by omega)) rfl (fun vx31 Ax31 hx31 => ?_)
  obtain ⟨rfl, rfl⟩ := hx31
  refine RunL.ok (OpOk.as (c := false) (OpOk.neq rfl rfl) (by rw [decide_eq_true (by omega)]; rfl)) rfl ?_
  refine RunL.nil ?_
  refine Run.condF rfl ?_
  refine Run.skip ?_
  refine Run.seq ?_
  refine Run.region ?_
  refine RunL.ok (OpOk.move rfl) rfl ?_
  refine RunL.ok (OpOk.move rfl) rfl ?_
  refine RunL.call cal21 rfl (s21b (by omega) (by omega) (by assumption)) rfl (fun vx33 Ax33 hx33 => ?_)
  obtain ⟨x34, ⟨rfl, rfl⟩⟩ := hx33
  refine RunL.ok (OpOk.move rfl) rfl ?_
  refine RunL.ok (OpOk.ext20 rfl) rfl ?_
  refine RunL.ok (OpOk.ext21 rfl) rfl ?_
  refine RunL.ok (OpOk.assign rfl) rfl ?_
  refine RunL.ok (OpOk.assign rfl) rfl ?_
  refine RunL.nil ?_
  refine Run.seq ?_
  refine Run.know (fun w s => (s.conv rfl).ownRd0) (fun rdx35 => ?_)
  refine Run.drop [6] ?_
  (apply Run.drawD [] (by rfl) (Eq.trans (frc (frl (frl (frl (frl rfl)))) rfl) rfl); case hchk => kernel_rfl)
  refine Sd.quiet 0 _ _ rfl rfl rfl rfl rfl (QOp.ok (fun X => OpOk.move rfl)) ?_
  refine Sd.quiet 3 _ _ rfl rfl rfl rfl rfl (QOp.ok (fun X => OpOk.move rfl)) ?_
  refine Sd.quiet 4 _ _ rfl rfl rfl rfl rfl (QOp.ok (fun X => OpOk.strOf rfl rfl rfl rfl (Rd.right rdx9).left.left.left.left.left.left.left)) ?_
  (refine Sd.exec 1 rfl rfl rfl rfl rfl ?hrest (by rfl) (fun Xx36 Kx36 hKx36 => ?_); case hrest => kernel_rfl)
  refine RunL.mem (fl2 (sep_emp _) rfl) ?_
  refine RunL.call cal26 rfl (s26 (by assumption)) rfl (fun vx37 Ax37 hx37 => ?_)
  obtain rfl := hx37
  refine RunL.know (fun w s => (s.conv rfl).ownRd0) (fun rdx38 => ?_)
  refine Sd.ret hKx36 (Eq.trans rfl (gp2 (sep_emp _).symm (asg rfl))) ⟨_, (emp_sep _).symm⟩ ?_
  refine Sd.quiet 2 _ _ rfl rfl rfl rfl rfl (QOp.ok (fun X => OpOk.strOf rfl rfl rfl rfl (Rd.right (Rd.right rdx38)).left)) ?_
  refine Sd.quiet 5 _ _ rfl rfl rfl rfl rfl (QOp.ok (fun X => OpOk.eqlSS rfl rfl)) ?_
  refine Sd.quiet 6 _ _ rfl rfl rfl rfl rfl (QOp.ok (fun X => OpOk.move rfl)) ?_
  refine Sd.splitBT (decide_eq_true (by first | omega | with_reducible rfl | assumption)) ?_
  refine Sd.quiet 7 _ _ rfl rfl rfl rfl rfl (QOp.ok (fun X => OpOk.move rfl)) ?_
  refine Sd.quiet 8 _ _ rfl rfl rfl rfl rfl (QOp.ok (fun X => OpOk.strOf rfl rfl rfl rfl (Rd.right rdx35).left.left)) ?_
  refine Sd.quiet 9 _ _ rfl rfl rfl rfl rfl (QOp.ok (fun X => OpOk.move rfl)) ?_
  refine Sd.quiet 10 _ _ rfl rfl rfl rfl rfl (QOp.ok (fun X => OpOk.strOf rfl rfl rfl rfl (Rd.right rdx26).left.left.left.left)) ?_
  refine Sd.quiet 11 _ _ rfl rfl rfl rfl rfl (QOp.ok (fun X => OpOk.asT (OpOk.eqlSS rfl rfl) (by omega))) ?_
  refine Sd.quiet 12 _ _ rfl rfl rfl rfl rfl (QOp.ok (fun X => OpOk.pickT rfl rfl)) ?_
  refine Sd.quiet 13 _ _ rfl rfl rfl rfl rfl (QOp.ok (fun X => OpOk.assign rfl)) ?_
  (apply Sd.tail; case hall => kernel_rfl)
  refine RunL.mem (fl2 (flS rfl) (sep_emp _)) ?_
  refine RunL.nil ?_
  refine Run.ret1 Try.func7 rfl rfl ?_
  exact ⟨rfl, ⟨_, (asg (asg (asg (asg (asg (asg (asg (asg as1))))))))⟩⟩
end Go.Proofs.Ytlmehpjcmdipmaa
