/- Part 14 of the proof of ShellReads. -/
import Derived.Test.YteopadjihklkmaaMShellReads13
section
namespace Go.Proofs.Yteopadjihklkmaa
open Go Go.Proofs
set_option maxRecDepth 100000
set_option maxHeartbeats 4000000
set_option linter.unusedSimpArgs false
set_option linter.unusedVariables false
theorem body_is {xs : List UInt8} (h : xs.length = 512) {s : Nat} (hs : s < 6) : (xs.drop (96 + 64 * s)).take (160 + 64 * s - (96 + 64 * s)) = secOf xs (3 + 2 * s) ++ secOf xs (3 + 2 * s + 1) := by
  rw [show 160 + 64 * s - (96 + 64 * s) = 32 + 32 by omega, List.take_add, List.drop_drop, secOf, secOf, show 32 * (3 + 2 * s) = 96 + 64 * s by omega, show 32 * (3 + 2 * s + 1) = 96 + 64 * s + 32 by omega]
section
variable {w0 : World} {A : Asn} {u : Value} {m : Nat} {bs : List UInt8} {o i s : Int}
theorem reads_a (rd : Rd w0 A u 1 m (B bs)) (hs : ¬ sealed ((secOf (imgB bs) 0).take 30) = secOf (imgB bs) 0) :
    Spec Try.prog w0 10 [.agg #[u, .int .i64 o, .int .i64 i, .int .i64 s]] A (fun v' A' => ∃ J, v' = .bool true ∧ A' = A * J) := by
  have hs2 : sealed ((secOf (imgB bs) 0).take (32 - 2)) ≠ secOf (imgB bs) 0 := hs
  have hl := imgB_len bs
  have rdn : Rd w0 A (.slice none 0 0) 4 0 (Fl encT111 ([] : List En)) := Rd.nil 4
  refine Spec.of_run [(0, .agg #[u, .int .i64 o, .int .i64 i, .int .i64 s])] Try.func10 rfl (Nat.le_of_ble_eq_true rfl) (by repeat (first | exact trivial | refine ⟨rfl, ?_⟩)) ?_
  rcases Int.lt_or_le s 0 with hs0 | hs0
  · refine Run.seq ?_
    refine Run.region ?_
    refine RunL.box rfl rfl (fun bx1 => ?_)
    refine RunL.ok (OpOk.assign rfl) rfl ?_
    refine RunL.nil ?_
    refine Run.seq ?_
    (apply Run.drawD [] (by rfl) (sep_emp _).symm; case hchk => kernel_rfl)
    refine Sd.quiet 0 _ _ rfl rfl rfl rfl rfl (QOp.ok (fun X => OpOk.fieldAddr fld81_0 rfl)) ?_
    refine Sd.quiet 1 _ _ rfl rfl rfl rfl rfl (QOp.ok (fun X => OpOk.load rfl rfl rfl (Blk.out Blk.pts.left.left _ _ (by first | rfl | assumption)))) ?_
    refine Sd.quiet 2 _ _ rfl rfl rfl rfl rfl (QOp.ok (fun X => OpOk.fieldAddr fld81_1 rfl)) ?_
    refine Sd.quiet 3 _ _ rfl rfl rfl rfl rfl (QOp.ok (fun X => OpOk.load rfl rfl rfl (Blk.out Blk.pts.left.left _ _ (by first | rfl | assumption)))) ?_
    refine Sd.quiet 4 _ _ rfl rfl rfl rfl rfl (QOp.ok (fun X => OpOk.fieldAddr fld81_2 rfl)) ?_
    refine Sd.quiet 5 _ _ rfl rfl rfl rfl rfl (QOp.ok (fun X => OpOk.load rfl rfl rfl (Blk.out Blk.pts.left.left _ _ (by first | rfl | assumption)))) ?_
    refine Sd.quiet 6 _ _ rfl rfl rfl rfl rfl (QOp.ok (fun X => OpOk.fieldAddr fld81_3 rfl)) ?_
    refine Sd.quiet 7 _ _ rfl rfl rfl rfl rfl (QOp.ok (fun X => OpOk.load rfl rfl rfl (Blk.out Blk.pts.left.left _ _ (by first | rfl | assumption)))) ?_
    refine Sd.quiet 8 _ _ rfl rfl rfl rfl rfl (QOp.ok (fun X => OpOk.assign rfl)) ?_
    refine Sd.quiet 9 _ _ rfl rfl rfl rfl rfl (QOp.ok (fun X => OpOk.assign rfl)) ?_
    refine Sd.quiet 10 _ _ rfl rfl rfl rfl rfl (QOp.ok (fun X => OpOk.assign rfl)) ?_
    refine Sd.quiet 11 _ _ rfl rfl rfl rfl rfl (QOp.ok (fun X => OpOk.assign rfl)) ?_
    (apply Sd.tail; case hall => kernel_rfl)
    refine RunL.mem (fl2 (sep_emp _) (sep_emp _)) ?_
    refine RunL.nil ?_
    refine Run.seq ?_
    refine Run.seq ?_
    refine Run.region ?_
    refine RunL.call cal37 rfl (s37) rfl (fun vx2 Ax2 hx2 => ?_)
    obtain ⟨x3, ⟨rfl, rfl⟩⟩ := hx2
    refine RunL.ok (OpOk.not rfl) rfl ?_
    refine RunL.nil ?_
    refine Run.condF rfl ?_
    refine Run.skip ?_
    refine Run.seq ?_
    refine Run.region ?_
    refine RunL.ok (OpOk.move rfl) rfl ?_
    refine RunL.call cal38 rfl (s38 rd.left.left) rfl (fun vx4 Ax4 hx4 => ?_)
    obtain ⟨x5, ⟨x6, ⟨rfl, rfl⟩⟩⟩ := hx4
    refine RunL.ok (OpOk.assign rfl) rfl ?_
    refine RunL.nil ?_
    refine Run.seq ?_
    refine Run.seq ?_
    refine Run.region ?_
    refine RunL.ok (OpOk.move rfl) rfl ?_
    refine RunL.ok (OpOk.eqlPN rfl rfl) rfl ?_
    refine RunL.nil ?_
    refine Run.condF rfl ?_
    refine Run.skip ?_
    refine Run.seq ?_
    refine Run.region ?_
    refine RunL.ok (OpOk.move rfl) rfl ?_
    refine RunL.call cal39 rfl (s39b (by assumption) (by assumption)) rfl (fun vx7 Ax7 hx7 => ?_)
    obtain ⟨x8, ⟨rfl, rfl⟩⟩ := hx7
    refine RunL.ok (OpOk.move rfl) rfl ?_
    refine RunL.ok (OpOk.ext20 rfl) rfl ?_
    refine RunL.ok (OpOk.ext21 rfl) rfl ?_
    refine RunL.alloc ti86 rfl (fun bx9 => ?_)
    refine RunL.storeAll ti86 rfl rfl rfl (ones rfl) rfl rfl ?_
    refine RunL.ok (OpOk.assign rfl) rfl ?_
    refine RunL.nil ?_
    refine Run.seq ?_
    refine Run.region ?_
    refine RunL.ok (OpOk.move rfl) rfl ?_
    refine RunL.call cal41 rfl (s41 rd.left.left.left.left.left.left) rfl (fun vx10 Ax10 hx10 => ?_)
    obtain rfl := hx10
    refine RunL.know (fun w s => (s.conv rfl).ownRd0) (fun rdx11 => ?_)
    refine RunL.call cal40 rfl (s40a (Rd.right rdx11) rfl (by assumption)) rfl (fun vx12 Ax12 hx12 => ?_)
    obtain ⟨x13, ⟨rfl, rfl⟩⟩ := hx12
    refine RunL.ok (OpOk.move rfl) rfl ?_
    refine RunL.ok (OpOk.ext20 rfl) rfl ?_
    refine RunL.ok (OpOk.ext21 rfl) rfl ?_
    refine RunL.alloc ti89 rfl (fun bx14 => ?_)
    refine RunL.storeAll ti89 rfl rfl rfl (ones rfl) rfl rfl ?_
    refine RunL.ok (OpOk.assign rfl) rfl ?_
    refine RunL.nil ?_
    refine Run.seq ?_
    refine Run.region ?_
    refine RunL.ok (OpOk.move rfl) rfl ?_
    refine RunL.ok (OpOk.move rfl) rfl ?_
    refine RunL.mem (frc (frl (frl (frl (frl rfl)))) rfl) ?_
    refine RunL.call cal42 rfl (s42a (by omega)) rfl (fun vx15 Ax15 hx15 => ?_)
    obtain ⟨rfl, rfl⟩ := hx15
    refine RunL.ok (OpOk.move rfl) rfl ?_
    refine RunL.ok (OpOk.ext20 rfl) rfl ?_
    refine RunL.ok (OpOk.ext21 rfl) rfl ?_
    refine RunL.ok (OpOk.assign rfl) rfl ?_
    refine RunL.ok (OpOk.assign rfl) rfl ?_
    refine RunL.nil ?_
    refine Run.seq ?_
    refine Run.seq ?_
    (apply Run.drawD [] (by rfl) (Eq.trans rfl rfl); case hchk => kernel_rfl)
    refine Sd.quiet 0 _ _ rfl rfl rfl rfl rfl (QOp.ok (fun X => OpOk.loadS rfl rfl ti86 rfl Blk.pts.left.left.left.left.left rfl)) ?_
    refine Sd.quiet 2 _ _ rfl rfl rfl rfl rfl (QOp.ok (fun X => OpOk.loadS rfl rfl ti89 rfl Blk.pts.left.left rfl)) ?_
    (refine Sd.exec 1 rfl rfl rfl rfl rfl ?hrest (by rfl) (fun Xx16 Kx16 hKx16 => ?_); case hrest => kernel_rfl)
    refine RunL.mem (fl2 (sep_emp _) rfl) ?_
    refine RunL.call cal44 rfl (s44 rdn.left.left.left.left.left.left.left.left.left.left (by omega)) rfl (fun vx17 Ax17 hx17 => ?_)
    obtain ⟨x18, ⟨x19, ⟨x20, ⟨rfl, rfl⟩⟩⟩⟩ := hx17
    refine RunL.know (fun w s => (s.conv rfl).ownRd0) (fun rdx21 => ?_)
    refine Sd.ret hKx16 (Eq.trans (frc (frl (frl rfl)) rfl) (gp2 rfl (asg rfl))) ⟨_, (emp_sep _).symm⟩ ?_
    (refine Sd.exec 3 rfl rfl rfl rfl rfl ?hrest (by rfl) (fun Xx22 Kx22 hKx22 => ?_); case hrest => kernel_rfl)
    refine RunL.mem (fl2 (flS rfl) rfl) ?_
    refine RunL.call cal43 rfl (s43 (Rd.right rdx21).left rdn.left.left.left.left.left.left.left.left.left.left.left.left) rfl (fun vx23 Ax23 hx23 => ?_)
    obtain ⟨x24, ⟨rfl, rfl⟩⟩ := hx23
    refine Sd.ret hKx22 (Eq.trans (frc (frl rfl) rfl) (gp2 rfl (asg (asg rfl)))) ⟨_, rfl⟩ ?_
    refine Sd.quiet 4 _ _ rfl rfl rfl rfl rfl (QOp.ok (fun X => OpOk.not rfl)) ?_
    refine Sd.quiet 5 _ _ rfl rfl rfl rfl rfl (QOp.ok (fun X => OpOk.move rfl)) ?_
    refine Sd.quiet 6 _ _ rfl rfl rfl rfl rfl (QOp.ok (fun X => OpOk.move rfl)) ?_
    refine Sd.quiet 7 _ _ rfl rfl rfl rfl rfl (QOp.ok (fun X => OpOk.move rfl)) ?_
    refine Sd.quiet 8 _ _ rfl rfl rfl rfl rfl (QOp.ok (fun X => OpOk.as (c := false) (OpOk.neq rfl rfl) (by rw [decide_eq_true (by omega)]; rfl))) ?_
    refine Sd.quiet 9 _ _ rfl rfl rfl rfl rfl (QOp.ok (fun X => OpOk.pickF rfl rfl)) ?_
    refine Sd.quiet 10 _ _ rfl rfl rfl rfl rfl (QOp.ok (fun X => OpOk.move rfl)) ?_
    refine Sd.quiet 11 _ _ rfl rfl rfl rfl rfl (QOp.ok (fun X => OpOk.loadS rfl rfl ti86 rfl Blk.pts.left.left.left.left.left rfl)) ?_
    refine Sd.quiet 12 _ _ rfl rfl rfl rfl rfl (QOp.ok (fun X => OpOk.move rfl)) ?_
    refine Sd.quiet 13 _ _ rfl rfl rfl rfl rfl (QOp.ok (fun X => OpOk.move rfl)) ?_
    refine Sd.quiet 15 _ _ rfl rfl rfl rfl rfl (QOp.ok (fun X => OpOk.loadS rfl rfl ti89 rfl Blk.pts.left.left rfl)) ?_
    refine Sd.quiet 16 _ _ rfl rfl rfl rfl rfl (QOp.ok (fun X => OpOk.move rfl)) ?_
    refine Sd.quiet 17 _ _ rfl rfl rfl rfl rfl (QOp.ok (fun X => OpOk.move rfl)) ?_
    (refine Sd.exec 14 rfl rfl rfl rfl rfl ?hrest (by rfl) (fun Xx25 Kx25 hKx25 => ?_); case hrest => kernel_rfl)
    refine RunL.mem (fl2 (flS (flS rfl)) rfl) ?_
    refine RunL.call cal45 rfl (s45 rdn.left.left.left.left.left.left.left.left.left.left.left.left.left) rfl (fun vx26 Ax26 hx26 => ?_)
    obtain ⟨x27, ⟨rfl, rfl⟩⟩ := hx26
    refine Sd.ret hKx25 (Eq.trans (frc (frl rfl) rfl) (gp2 rfl (asg (asg (asg rfl))))) ⟨_, rfl⟩ ?_
    (refine Sd.exec 18 rfl rfl rfl rfl rfl ?hrest (by rfl) (fun Xx28 Kx28 hKx28 => ?_); case hrest => kernel_rfl)
    refine RunL.mem (fl2 (flS (flS (flS rfl))) rfl) ?_
    refine RunL.call cal46 rfl (s46 rdn.left.left.left.left.left.left.left.left.left.left.left.left.left.left) rfl (fun vx29 Ax29 hx29 => ?_)
    obtain ⟨x30, ⟨rfl, rfl⟩⟩ := hx29
    refine Sd.ret hKx28 (Eq.trans (frc (frl rfl) rfl) (gp2 rfl (asg (asg (asg (asg rfl)))))) ⟨_, rfl⟩ ?_
    refine Sd.quiet 19 _ _ rfl rfl rfl rfl rfl (QOp.ok (fun X => OpOk.as (c := false) (OpOk.neq rfl rfl) (by rw [decide_eq_true (by omega)]; rfl))) ?_
    refine Sd.quiet 20 _ _ rfl rfl rfl rfl rfl (QOp.ok (fun X => OpOk.pickF rfl rfl)) ?_
    refine Sd.quiet 21 _ _ rfl rfl rfl rfl rfl (QOp.ok (fun X => OpOk.move rfl)) ?_
    refine Sd.quiet 22 _ _ rfl rfl rfl rfl rfl (QOp.ok (fun X => OpOk.loadS rfl rfl ti86 rfl Blk.pts.left.left.left.left.left rfl)) ?_
    refine Sd.quiet 24 _ _ rfl rfl rfl rfl rfl (QOp.ok (fun X => OpOk.loadS rfl rfl ti89 rfl Blk.pts.left.left rfl)) ?_
    (refine Sd.exec 23 rfl rfl rfl rfl rfl ?hrest (by rfl) (fun Xx31 Kx31 hKx31 => ?_); case hrest => kernel_rfl)
    refine RunL.mem (fl2 (flS (flS (flS (flS rfl)))) rfl) ?_
    refine RunL.call cal47 rfl (s47 rdn.left.left.left.left.left.left.left.left.left.left.left.left.left.left.left) rfl (fun vx32 Ax32 hx32 => ?_)
    obtain ⟨x33, ⟨rfl, rfl⟩⟩ := hx32
    refine Sd.ret hKx31 (Eq.trans (frc (frl rfl) rfl) (gp2 rfl (asg (asg (asg (asg (asg rfl))))))) ⟨_, rfl⟩ ?_
    (refine Sd.exec 25 rfl rfl rfl rfl rfl ?hrest (by rfl) (fun Xx34 Kx34 hKx34 => ?_); case hrest => kernel_rfl)
    refine RunL.mem (fl2 (flS (flS (flS (flS (flS rfl))))) rfl) ?_
    refine RunL.call cal48 rfl (s48 rdn.left.left.left.left.left.left.left.left.left.left.left.left.left.left.left.left) rfl (fun vx35 Ax35 hx35 => ?_)
    obtain ⟨x36, ⟨rfl, rfl⟩⟩ := hx35
    refine Sd.ret hKx34 (Eq.trans (frc (frl rfl) rfl) (gp2 rfl (asg (asg (asg (asg (asg (asg rfl)))))))) ⟨_, rfl⟩ ?_
    refine Sd.quiet 26 _ _ rfl rfl rfl rfl rfl (QOp.ok (fun X => OpOk.as (c := false) (OpOk.neq rfl rfl) (by rw [decide_eq_true (by omega)]; rfl))) ?_
    refine Sd.quiet 27 _ _ rfl rfl rfl rfl rfl (QOp.ok (fun X => OpOk.pickF rfl rfl)) ?_
    refine Sd.quiet 28 _ _ rfl rfl rfl rfl rfl (QOp.ok (fun X => OpOk.move rfl)) ?_
    refine Sd.quiet 29 _ _ rfl rfl rfl rfl rfl (QOp.ok (fun X => OpOk.move rfl)) ?_
    refine Sd.quiet 32 _ _ rfl rfl rfl rfl rfl (QOp.ok (fun X => OpOk.move rfl)) ?_
    (refine Sd.exec 30 rfl rfl rfl rfl rfl ?hrest (by rfl) (fun Xx37 Kx37 hKx37 => ?_); case hrest => kernel_rfl)
    refine RunL.mem (fl2 (flS (flS (flS (flS (flS (flS rfl)))))) rfl) ?_
    refine RunL.call cal49 rfl (s49 (by assumption)) rfl (fun vx38 Ax38 hx38 => ?_)
    obtain rfl := hx38
    refine RunL.know (fun w s => (s.conv rfl).ownRd0) (fun rdx39 => ?_)
    refine Sd.ret hKx37 (Eq.trans rfl (gp2 (sep_emp _).symm (asg (asg (asg (asg (asg (asg (asg (asg rfl)))))))))) ⟨_, (asg rfl)⟩ ?_
    refine Sd.quiet 31 _ _ rfl rfl rfl rfl rfl (QOp.ok (fun X => OpOk.strOf rfl rfl rfl rfl (Rd.right (Rd.right rdx39)).left)) ?_
    (refine Sd.exec 33 rfl rfl rfl rfl rfl ?hrest (by rfl) (fun Xx40 Kx40 hKx40 => ?_); case hrest => kernel_rfl)
    refine RunL.mem (fl2 (flS (flS (flS (flS (flS (flS (flS (flS rfl)))))))) (sep_emp _)) ?_
    refine RunL.call cal41 rfl (s41 rd.left.left.left.left.left.left.left.left.left.left.left.left.left.left.left.left.left.left) rfl (fun vx41 Ax41 hx41 => ?_)
    obtain rfl := hx41
    refine RunL.know (fun w s => (s.conv rfl).ownRd0) (fun rdx42 => ?_)
    refine Sd.ret hKx40 (Eq.trans rfl (gp2 (sep_emp _).symm (asg (asg (asg (asg (asg (asg (asg (asg (asg rfl))))))))))) ⟨_, rfl⟩ ?_
    refine Sd.quiet 34 _ _ rfl rfl rfl rfl rfl (QOp.ok (fun X => OpOk.strOf rfl rfl rfl rfl (Rd.right (Rd.right rdx42)).left)) ?_
    refine Sd.quiet 35 _ _ rfl rfl rfl rfl rfl (QOp.ok (fun X => OpOk.neqSS rfl rfl)) ?_
    refine Sd.quiet 36 _ _ rfl rfl rfl rfl rfl (QOp.ok (fun X => OpOk.pickF rfl rfl)) ?_
    (apply Sd.tail; case hall => kernel_rfl)
    refine RunL.mem (fl2 (flS (flS (flS (flS (flS (flS (flS (flS (flS rfl))))))))) (sep_emp _)) ?_
    refine RunL.nil ?_
    refine Run.condNF rfl (by first | omega | with_reducible rfl | assumption) ?_
    refine Run.skip ?_
    refine Run.seq ?_
    refine Run.seq ?_
    refine Run.region ?_
    refine RunL.ok (OpOk.move rfl) rfl ?_
    refine RunL.ok (OpOk.asT (OpOk.lss rfl rfl) (by omega)) rfl ?_
    refine RunL.ok (OpOk.move rfl) rfl ?_
    refine RunL.off rfl rfl rfl rfl ?_
    refine RunL.off rfl rfl rfl rfl ?_
    refine RunL.ok (OpOk.pickT rfl rfl) rfl ?_
    refine RunL.nil ?_
    refine Run.condT rfl ?_
    refine Run.seq ?_
    refine Run.region ?_
    refine RunL.ok (OpOk.move rfl) rfl ?_
    refine RunL.ok (OpOk.asT (OpOk.eql rfl rfl) (by omega)) rfl ?_
    refine RunL.ok (OpOk.move rfl) rfl ?_
    refine RunL.on rfl rfl ?_
    refine RunL.ok (OpOk.move rfl) rfl ?_
    refine RunL.on rfl rfl ?_
    refine RunL.ok (OpOk.lenV rfl rfl rfl) rfl ?_
    refine RunL.on rfl rfl ?_
    refine RunL.ok (OpOk.asT (OpOk.eql rfl rfl) (by omega)) rfl ?_
    refine RunL.ok (OpOk.pickT rfl rfl) rfl ?_
    refine RunL.ok (OpOk.assign rfl) rfl ?_
    refine RunL.nil ?_
    refine Run.ret1 Try.func10 rfl rfl ?_
    exact ⟨_, rfl, (asg (asg (asg (asg (asg (asg (asg (asg (asg (asg (asg (asg (asg (asg (asg (asg (asg as1)))))))))))))))))⟩
  · rcases Int.lt_or_le 5 s with hs5 | hs5
    · refine Run.seq ?_
      refine Run.region ?_
      refine RunL.box rfl rfl (fun bx1 => ?_)
      refine RunL.ok (OpOk.assign rfl) rfl ?_
      refine RunL.nil ?_
      refine Run.seq ?_
      (apply Run.drawD [] (by rfl) (sep_emp _).symm; case hchk => kernel_rfl)
      refine Sd.quiet 0 _ _ rfl rfl rfl rfl rfl (QOp.ok (fun X => OpOk.fieldAddr fld81_0 rfl)) ?_
      refine Sd.quiet 1 _ _ rfl rfl rfl rfl rfl (QOp.ok (fun X => OpOk.load rfl rfl rfl (Blk.out Blk.pts.left.left _ _ (by first | rfl | assumption)))) ?_
      refine Sd.quiet 2 _ _ rfl rfl rfl rfl rfl (QOp.ok (fun X => OpOk.fieldAddr fld81_1 rfl)) ?_
      refine Sd.quiet 3 _ _ rfl rfl rfl rfl rfl (QOp.ok (fun X => OpOk.load rfl rfl rfl (Blk.out Blk.pts.left.left _ _ (by first | rfl | assumption)))) ?_
      refine Sd.quiet 4 _ _ rfl rfl rfl rfl rfl (QOp.ok (fun X => OpOk.fieldAddr fld81_2 rfl)) ?_
      refine Sd.quiet 5 _ _ rfl rfl rfl rfl rfl (QOp.ok (fun X => OpOk.load rfl rfl rfl (Blk.out Blk.pts.left.left _ _ (by first | rfl | assumption)))) ?_
      refine Sd.quiet 6 _ _ rfl rfl rfl rfl rfl (QOp.ok (fun X => OpOk.fieldAddr fld81_3 rfl)) ?_
      refine Sd.quiet 7 _ _ rfl rfl rfl rfl rfl (QOp.ok (fun X => OpOk.load rfl rfl rfl (Blk.out Blk.pts.left.left _ _ (by first | rfl | assumption)))) ?_
      refine Sd.quiet 8 _ _ rfl rfl rfl rfl rfl (QOp.ok (fun X => OpOk.assign rfl)) ?_
      refine Sd.quiet 9 _ _ rfl rfl rfl rfl rfl (QOp.ok (fun X => OpOk.assign rfl)) ?_
      refine Sd.quiet 10 _ _ rfl rfl rfl rfl rfl (QOp.ok (fun X => OpOk.assign rfl)) ?_
      refine Sd.quiet 11 _ _ rfl rfl rfl rfl rfl (QOp.ok (fun X => OpOk.assign rfl)) ?_
      (apply Sd.tail; case hall => kernel_rfl)
      refine RunL.mem (fl2 (sep_emp _) (sep_emp _)) ?_
      refine RunL.nil ?_
      refine Run.seq ?_
      refine Run.seq ?_
      refine Run.region ?_
      refine RunL.call cal37 rfl (s37) rfl (fun vx2 Ax2 hx2 => ?_)
      obtain ⟨x3, ⟨rfl, rfl⟩⟩ := hx2
      refine RunL.ok (OpOk.not rfl) rfl ?_
      refine RunL.nil ?_
      refine Run.condF rfl ?_
      refine Run.skip ?_
      refine Run.seq ?_
      refine Run.region ?_
      refine RunL.ok (OpOk.move rfl) rfl ?_
      refine RunL.call cal38 rfl (s38 rd.left.left) rfl (fun vx4 Ax4 hx4 => ?_)
      obtain ⟨x5, ⟨x6, ⟨rfl, rfl⟩⟩⟩ := hx4
      refine RunL.ok (OpOk.assign rfl) rfl ?_
      refine RunL.nil ?_
      refine Run.seq ?_
      refine Run.seq ?_
      refine Run.region ?_
      refine RunL.ok (OpOk.move rfl) rfl ?_
      refine RunL.ok (OpOk.eqlPN rfl rfl) rfl ?_
      refine RunL.nil ?_
      refine Run.condF rfl ?_
      refine Run.skip ?_
      refine Run.seq ?_
      refine Run.region ?_
      refine RunL.ok (OpOk.move rfl) rfl ?_
      refine RunL.call cal39 rfl (s39b (by assumption) (by assumption)) rfl (fun vx7 Ax7 hx7 => ?_)
      obtain ⟨x8, ⟨rfl, rfl⟩⟩ := hx7
      refine RunL.ok (OpOk.move rfl) rfl ?_
      refine RunL.ok (OpOk.ext20 rfl) rfl ?_
      refine RunL.ok (OpOk.ext21 rfl) rfl ?_
      refine RunL.alloc ti86 rfl (fun bx9 => ?_)
      refine RunL.storeAll ti86 rfl rfl rfl (ones rfl) rfl rfl ?_
      refine RunL.ok (OpOk.assign rfl) rfl ?_
      refine RunL.nil ?_
      refine Run.seq ?_
      refine Run.region ?_
      refine RunL.ok (OpOk.move rfl) rfl ?_
      refine RunL.call cal41 rfl (s41 rd.left.left.left.left.left.left) rfl (fun vx10 Ax10 hx10 => ?_)
      obtain rfl := hx10
      refine RunL.know (fun w s => (s.conv rfl).ownRd0) (fun rdx11 => ?_)
      refine RunL.call cal40 rfl (s40a (Rd.right rdx11) rfl (by assumption)) rfl (fun vx12 Ax12 hx12 => ?_)
      obtain ⟨x13, ⟨rfl, rfl⟩⟩ := hx12
      refine RunL.ok (OpOk.move rfl) rfl ?_
      refine RunL.ok (OpOk.ext20 rfl) rfl ?_
      refine RunL.ok (OpOk.ext21 rfl) rfl ?_
      refine RunL.alloc ti89 rfl (fun bx14 => ?_)
      refine RunL.storeAll ti89 rfl rfl rfl (ones rfl) rfl rfl ?_
      refine RunL.ok (OpOk.assign rfl) rfl ?_
      refine RunL.nil ?_
      refine Run.seq ?_
      refine Run.region ?_
      refine RunL.ok (OpOk.move rfl) rfl ?_
      refine RunL.ok (OpOk.move rfl) rfl ?_
      refine RunL.mem (frc (frl (frl (frl (frl rfl)))) rfl) ?_
      refine RunL.call cal42 rfl (s42a (by omega)) rfl (fun vx15 Ax15 hx15 => ?_)
      obtain ⟨rfl, rfl⟩ := hx15
      refine RunL.ok (OpOk.move rfl) rfl ?_
      refine RunL.ok (OpOk.ext20 rfl) rfl ?_
      refine RunL.ok (OpOk.ext21 rfl) rfl ?_
      refine RunL.ok (OpOk.assign rfl) rfl ?_
      refine RunL.ok (OpOk.assign rfl) rfl ?_
      refine RunL.nil ?_
      refine Run.seq ?_
      refine Run.seq ?_
      (apply Run.drawD [] (by rfl) (Eq.trans rfl rfl); case hchk => kernel_rfl)
      refine Sd.quiet 0 _ _ rfl rfl rfl rfl rfl (QOp.ok (fun X => OpOk.loadS rfl rfl ti86 rfl Blk.pts.left.left.left.left.left rfl)) ?_
      refine Sd.quiet 2 _ _ rfl rfl rfl rfl rfl (QOp.ok (fun X => OpOk.loadS rfl rfl ti89 rfl Blk.pts.left.left rfl)) ?_
      (refine Sd.exec 1 rfl rfl rfl rfl rfl ?hrest (by rfl) (fun Xx16 Kx16 hKx16 => ?_); case hrest => kernel_rfl)
      refine RunL.mem (fl2 (sep_emp _) rfl) ?_
      refine RunL.call cal44 rfl (s44 rdn.left.left.left.left.left.left.left.left.left.left (by omega)) rfl (fun vx17 Ax17 hx17 => ?_)
      obtain ⟨x18, ⟨x19, ⟨x20, ⟨rfl, rfl⟩⟩⟩⟩ := hx17
      refine RunL.know (fun w s => (s.conv rfl).ownRd0) (fun rdx21 => ?_)
      refine Sd.ret hKx16 (Eq.trans (frc (frl (frl rfl)) rfl) (gp2 rfl (asg rfl))) ⟨_, (emp_sep _).symm⟩ ?_
      (refine Sd.exec 3 rfl rfl rfl rfl rfl ?hrest (by rfl) (fun Xx22 Kx22 hKx22 => ?_); case hrest => kernel_rfl)
      refine RunL.mem (fl2 (flS rfl) rfl) ?_
      refine RunL.call cal43 rfl (s43 (Rd.right rdx21).left rdn.left.left.left.left.left.left.left.left.left.left.left.left) rfl (fun vx23 Ax23 hx23 => ?_)
      obtain ⟨x24, ⟨rfl, rfl⟩⟩ := hx23
      refine Sd.ret hKx22 (Eq.trans (frc (frl rfl) rfl) (gp2 rfl (asg (asg rfl)))) ⟨_, rfl⟩ ?_
      refine Sd.quiet 4 _ _ rfl rfl rfl rfl rfl (QOp.ok (fun X => OpOk.not rfl)) ?_
      refine Sd.quiet 5 _ _ rfl rfl rfl rfl rfl (QOp.ok (fun X => OpOk.move rfl)) ?_
      refine Sd.quiet 6 _ _ rfl rfl rfl rfl rfl (QOp.ok (fun X => OpOk.move rfl)) ?_
      refine Sd.quiet 7 _ _ rfl rfl rfl rfl rfl (QOp.ok (fun X => OpOk.move rfl)) ?_
      refine Sd.quiet 8 _ _ rfl rfl rfl rfl rfl (QOp.ok (fun X => OpOk.as (c := false) (OpOk.neq rfl rfl) (by rw [decide_eq_true (by omega)]; rfl))) ?_
      refine Sd.quiet 9 _ _ rfl rfl rfl rfl rfl (QOp.ok (fun X => OpOk.pickF rfl rfl)) ?_
      refine Sd.quiet 10 _ _ rfl rfl rfl rfl rfl (QOp.ok (fun X => OpOk.move rfl)) ?_
      refine Sd.quiet 11 _ _ rfl rfl rfl rfl rfl (QOp.ok (fun X => OpOk.loadS rfl rfl ti86 rfl Blk.pts.left.left.left.left.left rfl)) ?_
      refine Sd.quiet 12 _ _ rfl rfl rfl rfl rfl (QOp.ok (fun X => OpOk.move rfl)) ?_
      refine Sd.quiet 13 _ _ rfl rfl rfl rfl rfl (QOp.ok (fun X => OpOk.move rfl)) ?_
      refine Sd.quiet 15 _ _ rfl rfl rfl rfl rfl (QOp.ok (fun X => OpOk.loadS rfl rfl ti89 rfl Blk.pts.left.left rfl)) ?_
      refine Sd.quiet 16 _ _ rfl rfl rfl rfl rfl (QOp.ok (fun X => OpOk.move rfl)) ?_
      refine Sd.quiet 17 _ _ rfl rfl rfl rfl rfl (QOp.ok (fun X => OpOk.move rfl)) ?_
      (refine Sd.exec 14 rfl rfl rfl rfl rfl ?hrest (by rfl) (fun Xx25 Kx25 hKx25 => ?_); case hrest => kernel_rfl)
      refine RunL.mem (fl2 (flS (flS rfl)) rfl) ?_
      refine RunL.call cal45 rfl (s45 rdn.left.left.left.left.left.left.left.left.left.left.left.left.left) rfl (fun vx26 Ax26 hx26 => ?_)
      obtain ⟨x27, ⟨rfl, rfl⟩⟩ := hx26
      refine Sd.ret hKx25 (Eq.trans (frc (frl rfl) rfl) (gp2 rfl (asg (asg (asg rfl))))) ⟨_, rfl⟩ ?_
      (refine Sd.exec 18 rfl rfl rfl rfl rfl ?hrest (by rfl) (fun Xx28 Kx28 hKx28 => ?_); case hrest => kernel_rfl)
      refine RunL.mem (fl2 (flS (flS (flS rfl))) rfl) ?_
      refine RunL.call cal46 rfl (s46 rdn.left.left.left.left.left.left.left.left.left.left.left.left.left.left) rfl (fun vx29 Ax29 hx29 => ?_)
      obtain ⟨x30, ⟨rfl, rfl⟩⟩ := hx29
      refine Sd.ret hKx28 (Eq.trans (frc (frl rfl) rfl) (gp2 rfl (asg (asg (asg (asg rfl)))))) ⟨_, rfl⟩ ?_
      refine Sd.quiet 19 _ _ rfl rfl rfl rfl rfl (QOp.ok (fun X => OpOk.as (c := false) (OpOk.neq rfl rfl) (by rw [decide_eq_true (by omega)]; rfl))) ?_
      refine Sd.quiet 20 _ _ rfl rfl rfl rfl rfl (QOp.ok (fun X => OpOk.pickF rfl rfl)) ?_
      refine Sd.quiet 21 _ _ rfl rfl rfl rfl rfl (QOp.ok (fun X => OpOk.move rfl)) ?_
      refine Sd.quiet 22 _ _ rfl rfl rfl rfl rfl (QOp.ok (fun X => OpOk.loadS rfl rfl ti86 rfl Blk.pts.left.left.left.left.left rfl)) ?_
      refine Sd.quiet 24 _ _ rfl rfl rfl rfl rfl (QOp.ok (fun X => OpOk.loadS rfl rfl ti89 rfl Blk.pts.left.left rfl)) ?_
      (refine Sd.exec 23 rfl rfl rfl rfl rfl ?hrest (by rfl) (fun Xx31 Kx31 hKx31 => ?_); case hrest => kernel_rfl)
      refine RunL.mem (fl2 (flS (flS (flS (flS rfl)))) rfl) ?_
      refine RunL.call cal47 rfl (s47 rdn.left.left.left.left.left.left.left.left.left.left.left.left.left.left.left) rfl (fun vx32 Ax32 hx32 => ?_)
      obtain ⟨x33, ⟨rfl, rfl⟩⟩ := hx32
      refine Sd.ret hKx31 (Eq.trans (frc (frl rfl) rfl) (gp2 rfl (asg (asg (asg (asg (asg rfl))))))) ⟨_, rfl⟩ ?_
      (refine Sd.exec 25 rfl rfl rfl rfl rfl ?hrest (by rfl) (fun Xx34 Kx34 hKx34 => ?_); case hrest => kernel_rfl)
      refine RunL.mem (fl2 (flS (flS (flS (flS (flS rfl))))) rfl) ?_
      refine RunL.call cal48 rfl (s48 rdn.left.left.left.left.left.left.left.left.left.left.left.left.left.left.left.left) rfl (fun vx35 Ax35 hx35 => ?_)
      obtain ⟨x36, ⟨rfl, rfl⟩⟩ := hx35
      refine Sd.ret hKx34 (Eq.trans (frc (frl rfl) rfl) (gp2 rfl (asg (asg (asg (asg (asg (asg rfl)))))))) ⟨_, rfl⟩ ?_
      refine Sd.quiet 26 _ _ rfl rfl rfl rfl rfl (QOp.ok (fun X => OpOk.as (c := false) (OpOk.neq rfl rfl) (by rw [decide_eq_true (by omega)]; rfl))) ?_
      refine Sd.quiet 27 _ _ rfl rfl rfl rfl rfl (QOp.ok (fun X => OpOk.pickF rfl rfl)) ?_
      refine Sd.quiet 28 _ _ rfl rfl rfl rfl rfl (QOp.ok (fun X => OpOk.move rfl)) ?_
      refine Sd.quiet 29 _ _ rfl rfl rfl rfl rfl (QOp.ok (fun X => OpOk.move rfl)) ?_
      refine Sd.quiet 32 _ _ rfl rfl rfl rfl rfl (QOp.ok (fun X => OpOk.move rfl)) ?_
      (refine Sd.exec 30 rfl rfl rfl rfl rfl ?hrest (by rfl) (fun Xx37 Kx37 hKx37 => ?_); case hrest => kernel_rfl)
      refine RunL.mem (fl2 (flS (flS (flS (flS (flS (flS rfl)))))) rfl) ?_
      refine RunL.call cal49 rfl (s49 (by assumption)) rfl (fun vx38 Ax38 hx38 => ?_)
      obtain rfl := hx38
      refine RunL.know (fun w s => (s.conv rfl).ownRd0) (fun rdx39 => ?_)
      refine Sd.ret hKx37 (Eq.trans rfl (gp2 (sep_emp _).symm (asg (asg (asg (asg (asg (asg (asg (asg rfl)))))))))) ⟨_, (asg rfl)⟩ ?_
      refine Sd.quiet 31 _ _ rfl rfl rfl rfl rfl (QOp.ok (fun X => OpOk.strOf rfl rfl rfl rfl (Rd.right (Rd.right rdx39)).left)) ?_
      (refine Sd.exec 33 rfl rfl rfl rfl rfl ?hrest (by rfl) (fun Xx40 Kx40 hKx40 => ?_); case hrest => kernel_rfl)
      refine RunL.mem (fl2 (flS (flS (flS (flS (flS (flS (flS (flS rfl)))))))) (sep_emp _)) ?_
      refine RunL.call cal41 rfl (s41 rd.left.left.left.left.left.left.left.left.left.left.left.left.left.left.left.left.left.left) rfl (fun vx41 Ax41 hx41 => ?_)
      obtain rfl := hx41
      refine RunL.know (fun w s => (s.conv rfl).ownRd0) (fun rdx42 => ?_)
      refine Sd.ret hKx40 (Eq.trans rfl (gp2 (sep_emp _).symm (asg (asg (asg (asg (asg (asg (asg (asg (asg rfl))))))))))) ⟨_, rfl⟩ ?_
      refine Sd.quiet 34 _ _ rfl rfl rfl rfl rfl (QOp.ok (fun X => OpOk.strOf rfl rfl rfl rfl (Rd.right (Rd.right rdx42)).left)) ?_
      refine Sd.quiet 35 _ _ rfl rfl rfl rfl rfl (QOp.ok (fun X => OpOk.neqSS rfl rfl)) ?_
      refine Sd.quiet 36 _ _ rfl rfl rfl rfl rfl (QOp.ok (fun X => OpOk.pickF rfl rfl)) ?_
      (apply Sd.tail; case hall => kernel_rfl)
      refine RunL.mem (fl2 (flS (flS (flS (flS (flS (flS (flS (flS (flS rfl))))))))) (sep_emp _)) ?_
      refine RunL.nil ?_
      refine Run.condNF rfl (by first | omega | with_reducible rfl | assumption) ?_
      refine Run.skip ?_
      refine Run.seq ?_
      refine Run.seq ?_
      refine Run.region ?_
      refine RunL.ok (OpOk.move rfl) rfl ?_
      refine RunL.ok (OpOk.asF (OpOk.lss rfl rfl) (by omega)) rfl ?_
      refine RunL.ok (OpOk.move rfl) rfl ?_
      refine RunL.on rfl rfl ?_
      refine RunL.ok (OpOk.move rfl) rfl ?_
      refine RunL.on rfl rfl ?_
      refine RunL.ok (OpOk.asT (OpOk.gtr rfl rfl) (by omega)) rfl ?_
      refine RunL.ok (OpOk.pickF rfl rfl) rfl ?_
      refine RunL.nil ?_
      refine Run.condT rfl ?_
      refine Run.seq ?_
      refine Run.region ?_
      refine RunL.ok (OpOk.move rfl) rfl ?_
      refine RunL.ok (OpOk.asT (OpOk.eql rfl rfl) (by omega)) rfl ?_
      refine RunL.ok (OpOk.move rfl) rfl ?_
      refine RunL.on rfl rfl ?_
      refine RunL.ok (OpOk.move rfl) rfl ?_
      refine RunL.on rfl rfl ?_
      refine RunL.ok (OpOk.lenV rfl rfl rfl) rfl ?_
      refine RunL.on rfl rfl ?_
      refine RunL.ok (OpOk.asT (OpOk.eql rfl rfl) (by omega)) rfl ?_
      refine RunL.ok (OpOk.pickT rfl rfl) rfl ?_
      refine RunL.ok (OpOk.assign rfl) rfl ?_
      refine RunL.nil ?_
      refine Run.ret1 Try.func10 rfl rfl ?_
      exact ⟨_, rfl, (asg (asg (asg (asg (asg (asg (asg (asg (asg (asg (asg (asg (asg (asg (asg (asg (asg as1)))))))))))))))))⟩
    · obtain ⟨S, rfl⟩ := Int.eq_ofNat_of_zero_le hs0
      have hbi : secOf (imgB bs) (3 + 2 * (S : Int)).toNat ++ secOf (imgB bs) (3 + 2 * (S : Int) + 1).toNat = ((imgB bs).drop (96 + 64 * S)).take (160 + 64 * S - (96 + 64 * S)) := by
        rw [body_is hl (s := S) (by omega), show (3 + 2 * (S : Int)).toNat = 3 + 2 * S by omega, show (3 + 2 * (S : Int) + 1).toNat = 3 + 2 * S + 1 by omega]
      refine Run.seq ?_
      refine Run.region ?_
      refine RunL.box rfl rfl (fun bx1 => ?_)
      refine RunL.ok (OpOk.assign rfl) rfl ?_
      refine RunL.nil ?_
      refine Run.seq ?_
      (apply Run.drawD [] (by rfl) (sep_emp _).symm; case hchk => kernel_rfl)
      refine Sd.quiet 0 _ _ rfl rfl rfl rfl rfl (QOp.ok (fun X => OpOk.fieldAddr fld81_0 rfl)) ?_
      refine Sd.quiet 1 _ _ rfl rfl rfl rfl rfl (QOp.ok (fun X => OpOk.load rfl rfl rfl (Blk.out Blk.pts.left.left _ _ (by first | rfl | assumption)))) ?_
      refine Sd.quiet 2 _ _ rfl rfl rfl rfl rfl (QOp.ok (fun X => OpOk.fieldAddr fld81_1 rfl)) ?_
      refine Sd.quiet 3 _ _ rfl rfl rfl rfl rfl (QOp.ok (fun X => OpOk.load rfl rfl rfl (Blk.out Blk.pts.left.left _ _ (by first | rfl | assumption)))) ?_
      refine Sd.quiet 4 _ _ rfl rfl rfl rfl rfl (QOp.ok (fun X => OpOk.fieldAddr fld81_2 rfl)) ?_
      refine Sd.quiet 5 _ _ rfl rfl rfl rfl rfl (QOp.ok (fun X => OpOk.load rfl rfl rfl (Blk.out Blk.pts.left.left _ _ (by first | rfl | assumption)))) ?_
      refine Sd.quiet 6 _ _ rfl rfl rfl rfl rfl (QOp.ok (fun X => OpOk.fieldAddr fld81_3 rfl)) ?_
      refine Sd.quiet 7 _ _ rfl rfl rfl rfl rfl (QOp.ok (fun X => OpOk.load rfl rfl rfl (Blk.out Blk.pts.left.left _ _ (by first | rfl | assumption)))) ?_
      refine Sd.quiet 8 _ _ rfl rfl rfl rfl rfl (QOp.ok (fun X => OpOk.assign rfl)) ?_
      refine Sd.quiet 9 _ _ rfl rfl rfl rfl rfl (QOp.ok (fun X => OpOk.assign rfl)) ?_
      refine Sd.quiet 10 _ _ rfl rfl rfl rfl rfl (QOp.ok (fun X => OpOk.assign rfl)) ?_
      refine Sd.quiet 11 _ _ rfl rfl rfl rfl rfl (QOp.ok (fun X => OpOk.assign rfl)) ?_
      (apply Sd.tail; case hall => kernel_rfl)
      refine RunL.mem (fl2 (sep_emp _) (sep_emp _)) ?_
      refine RunL.nil ?_
      refine Run.seq ?_
      refine Run.seq ?_
      refine Run.region ?_
      refine RunL.call cal37 rfl (s37) rfl (fun vx2 Ax2 hx2 => ?_)
      obtain ⟨x3, ⟨rfl, rfl⟩⟩ := hx2
      refine RunL.ok (OpOk.not rfl) rfl ?_
      refine RunL.nil ?_
      refine Run.condF rfl ?_
      refine Run.skip ?_
      refine Run.seq ?_
      refine Run.region ?_
      refine RunL.ok (OpOk.move rfl) rfl ?_
      refine RunL.call cal38 rfl (s38 rd.left.left) rfl (fun vx4 Ax4 hx4 => ?_)
      obtain ⟨x5, ⟨x6, ⟨rfl, rfl⟩⟩⟩ := hx4
      refine RunL.ok (OpOk.assign rfl) rfl ?_
      refine RunL.nil ?_
      refine Run.seq ?_
      refine Run.seq ?_
      refine Run.region ?_
      refine RunL.ok (OpOk.move rfl) rfl ?_
      refine RunL.ok (OpOk.eqlPN rfl rfl) rfl ?_
      refine RunL.nil ?_
      refine Run.condF rfl ?_
      refine Run.skip ?_
      refine Run.seq ?_
      refine Run.region ?_
      refine RunL.ok (OpOk.move rfl) rfl ?_
      refine RunL.call cal39 rfl (s39b (by assumption) (by assumption)) rfl (fun vx7 Ax7 hx7 => ?_)
      obtain ⟨x8, ⟨rfl, rfl⟩⟩ := hx7
      refine RunL.ok (OpOk.move rfl) rfl ?_
      refine RunL.ok (OpOk.ext20 rfl) rfl ?_
      refine RunL.ok (OpOk.ext21 rfl) rfl ?_
      refine RunL.alloc ti86 rfl (fun bx9 => ?_)
      refine RunL.storeAll ti86 rfl rfl rfl (ones rfl) rfl rfl ?_
      refine RunL.ok (OpOk.assign rfl) rfl ?_
      refine RunL.nil ?_
      refine Run.seq ?_
      refine Run.region ?_
      refine RunL.ok (OpOk.move rfl) rfl ?_
      refine RunL.call cal41 rfl (s41 rd.left.left.left.left.left.left) rfl (fun vx10 Ax10 hx10 => ?_)
      obtain rfl := hx10
      refine RunL.know (fun w s => (s.conv rfl).ownRd0) (fun rdx11 => ?_)
      refine RunL.call cal40 rfl (s40a (Rd.right rdx11) rfl (by assumption)) rfl (fun vx12 Ax12 hx12 => ?_)
      obtain ⟨x13, ⟨rfl, rfl⟩⟩ := hx12
      refine RunL.ok (OpOk.move rfl) rfl ?_
      refine RunL.ok (OpOk.ext20 rfl) rfl ?_
      refine RunL.ok (OpOk.ext21 rfl) rfl ?_
      refine RunL.alloc ti89 rfl (fun bx14 => ?_)
      refine RunL.storeAll ti89 rfl rfl rfl (ones rfl) rfl rfl ?_
      refine RunL.ok (OpOk.assign rfl) rfl ?_
      refine RunL.nil ?_
      refine Run.seq ?_
      refine Run.region ?_
      refine RunL.ok (OpOk.move rfl) rfl ?_
      refine RunL.ok (OpOk.move rfl) rfl ?_
      refine RunL.mem (frc (frl (frl (frl (frl rfl)))) rfl) ?_
      refine RunL.call cal42 rfl (s42b (by assumption) (by assumption) (by omega)) rfl (fun vx16 Ax16 hx16 => ?_)
      obtain ⟨x17, ⟨x18, ⟨rfl, rfl⟩⟩⟩ := hx16
      refine RunL.ok (OpOk.move rfl) rfl ?_
      refine RunL.ok (OpOk.ext20 rfl) rfl ?_
      refine RunL.ok (OpOk.ext21 rfl) rfl ?_
      refine RunL.ok (OpOk.assign rfl) rfl ?_
      refine RunL.ok (OpOk.assign rfl) rfl ?_
      refine RunL.nil ?_
      refine Run.seq ?_
      refine Run.seq ?_
      refine Run.know (fun w s => (s.conv (frl rfl)).ownRd0) (fun rdx19 => ?_)
      (apply Run.drawD [] (by rfl) (Eq.trans rfl rfl); case hchk => kernel_rfl)
      refine Sd.quiet 0 _ _ rfl rfl rfl rfl rfl (QOp.ok (fun X => OpOk.loadS rfl rfl ti86 rfl Blk.pts.left.left.left.left.left.left.left rfl)) ?_
      refine Sd.quiet 2 _ _ rfl rfl rfl rfl rfl (QOp.ok (fun X => OpOk.loadS rfl rfl ti89 rfl Blk.pts.left.left.left.left rfl)) ?_
      (refine Sd.exec 1 rfl rfl rfl rfl rfl ?hrest (by rfl) (fun Xx20 Kx20 hKx20 => ?_); case hrest => kernel_rfl)
      refine RunL.mem (fl2 (sep_emp _) rfl) ?_
      refine RunL.call cal44 rfl (s44 rdn.left.left.left.left.left.left.left.left.left.left.left.left (by omega)) rfl (fun vx21 Ax21 hx21 => ?_)
      obtain ⟨x22, ⟨x23, ⟨x24, ⟨rfl, rfl⟩⟩⟩⟩ := hx21
      refine RunL.know (fun w s => (s.conv rfl).ownRd0) (fun rdx25 => ?_)
      refine Sd.ret hKx20 (Eq.trans (frc (frl (frl rfl)) rfl) (gp2 rfl (asg rfl))) ⟨_, (emp_sep _).symm⟩ ?_
      (refine Sd.exec 3 rfl rfl rfl rfl rfl ?hrest (by rfl) (fun Xx26 Kx26 hKx26 => ?_); case hrest => kernel_rfl)
      refine RunL.mem (fl2 (flS rfl) rfl) ?_
      refine RunL.call cal43 rfl (s43 (Rd.right rdx25).left rdn.left.left.left.left.left.left.left.left.left.left.left.left.left.left) rfl (fun vx27 Ax27 hx27 => ?_)
      obtain ⟨x28, ⟨rfl, rfl⟩⟩ := hx27
      refine Sd.ret hKx26 (Eq.trans (frc (frl rfl) rfl) (gp2 rfl (asg (asg rfl)))) ⟨_, rfl⟩ ?_
      refine Sd.quiet 4 _ _ rfl rfl rfl rfl rfl (QOp.ok (fun X => OpOk.not rfl)) ?_
      refine Sd.quiet 5 _ _ rfl rfl rfl rfl rfl (QOp.ok (fun X => OpOk.move rfl)) ?_
      refine Sd.quiet 6 _ _ rfl rfl rfl rfl rfl (QOp.ok (fun X => OpOk.move rfl)) ?_
      refine Sd.quiet 7 _ _ rfl rfl rfl rfl rfl (QOp.ok (fun X => OpOk.move rfl)) ?_
      refine Sd.quiet 8 _ _ rfl rfl rfl rfl rfl (QOp.ok (fun X => OpOk.as (c := false) (OpOk.neq rfl rfl) (by rw [decide_eq_true (by omega)]; rfl))) ?_
      refine Sd.quiet 9 _ _ rfl rfl rfl rfl rfl (QOp.ok (fun X => OpOk.pickF rfl rfl)) ?_
      refine Sd.quiet 10 _ _ rfl rfl rfl rfl rfl (QOp.ok (fun X => OpOk.move rfl)) ?_
      refine Sd.quiet 11 _ _ rfl rfl rfl rfl rfl (QOp.ok (fun X => OpOk.loadS rfl rfl ti86 rfl Blk.pts.left.left.left.left.left.left.left rfl)) ?_
      refine Sd.quiet 12 _ _ rfl rfl rfl rfl rfl (QOp.ok (fun X => OpOk.move rfl)) ?_
      refine Sd.quiet 13 _ _ rfl rfl rfl rfl rfl (QOp.ok (fun X => OpOk.move rfl)) ?_
      refine Sd.quiet 15 _ _ rfl rfl rfl rfl rfl (QOp.ok (fun X => OpOk.loadS rfl rfl ti89 rfl Blk.pts.left.left.left.left rfl)) ?_
      refine Sd.quiet 16 _ _ rfl rfl rfl rfl rfl (QOp.ok (fun X => OpOk.move rfl)) ?_
      refine Sd.quiet 17 _ _ rfl rfl rfl rfl rfl (QOp.ok (fun X => OpOk.move rfl)) ?_
      (refine Sd.exec 14 rfl rfl rfl rfl rfl ?hrest (by rfl) (fun Xx29 Kx29 hKx29 => ?_); case hrest => kernel_rfl)
      refine RunL.mem (fl2 (flS (flS rfl)) rfl) ?_
      refine RunL.call cal45 rfl (s45 rdn.left.left.left.left.left.left.left.left.left.left.left.left.left.left.left) rfl (fun vx30 Ax30 hx30 => ?_)
      obtain ⟨x31, ⟨rfl, rfl⟩⟩ := hx30
      refine Sd.ret hKx29 (Eq.trans (frc (frl rfl) rfl) (gp2 rfl (asg (asg (asg rfl))))) ⟨_, rfl⟩ ?_
      (refine Sd.exec 18 rfl rfl rfl rfl rfl ?hrest (by rfl) (fun Xx32 Kx32 hKx32 => ?_); case hrest => kernel_rfl)
      refine RunL.mem (fl2 (flS (flS (flS rfl))) rfl) ?_
      refine RunL.call cal46 rfl (s46 rdn.left.left.left.left.left.left.left.left.left.left.left.left.left.left.left.left) rfl (fun vx33 Ax33 hx33 => ?_)
      obtain ⟨x34, ⟨rfl, rfl⟩⟩ := hx33
      refine Sd.ret hKx32 (Eq.trans (frc (frl rfl) rfl) (gp2 rfl (asg (asg (asg (asg rfl)))))) ⟨_, rfl⟩ ?_
      refine Sd.quiet 19 _ _ rfl rfl rfl rfl rfl (QOp.ok (fun X => OpOk.as (c := false) (OpOk.neq rfl rfl) (by rw [decide_eq_true (by omega)]; rfl))) ?_
      refine Sd.quiet 20 _ _ rfl rfl rfl rfl rfl (QOp.ok (fun X => OpOk.pickF rfl rfl)) ?_
      refine Sd.quiet 21 _ _ rfl rfl rfl rfl rfl (QOp.ok (fun X => OpOk.move rfl)) ?_
      refine Sd.quiet 22 _ _ rfl rfl rfl rfl rfl (QOp.ok (fun X => OpOk.loadS rfl rfl ti86 rfl Blk.pts.left.left.left.left.left.left.left rfl)) ?_
      refine Sd.quiet 24 _ _ rfl rfl rfl rfl rfl (QOp.ok (fun X => OpOk.loadS rfl rfl ti89 rfl Blk.pts.left.left.left.left rfl)) ?_
      (refine Sd.exec 23 rfl rfl rfl rfl rfl ?hrest (by rfl) (fun Xx35 Kx35 hKx35 => ?_); case hrest => kernel_rfl)
      refine RunL.mem (fl2 (flS (flS (flS (flS rfl)))) rfl) ?_
      refine RunL.call cal47 rfl (s47 rdn.left.left.left.left.left.left.left.left.left.left.left.left.left.left.left.left.left) rfl (fun vx36 Ax36 hx36 => ?_)
      obtain ⟨x37, ⟨rfl, rfl⟩⟩ := hx36
      refine Sd.ret hKx35 (Eq.trans (frc (frl rfl) rfl) (gp2 rfl (asg (asg (asg (asg (asg rfl))))))) ⟨_, rfl⟩ ?_
      (refine Sd.exec 25 rfl rfl rfl rfl rfl ?hrest (by rfl) (fun Xx38 Kx38 hKx38 => ?_); case hrest => kernel_rfl)
      refine RunL.mem (fl2 (flS (flS (flS (flS (flS rfl))))) rfl) ?_
      refine RunL.call cal48 rfl (s48 rdn.left.left.left.left.left.left.left.left.left.left.left.left.left.left.left.left.left.left) rfl (fun vx39 Ax39 hx39 => ?_)
      obtain ⟨x40, ⟨rfl, rfl⟩⟩ := hx39
      refine Sd.ret hKx38 (Eq.trans (frc (frl rfl) rfl) (gp2 rfl (asg (asg (asg (asg (asg (asg rfl)))))))) ⟨_, rfl⟩ ?_
      refine Sd.quiet 26 _ _ rfl rfl rfl rfl rfl (QOp.ok (fun X => OpOk.as (c := false) (OpOk.neq rfl rfl) (by rw [decide_eq_true (by omega)]; rfl))) ?_
      refine Sd.quiet 27 _ _ rfl rfl rfl rfl rfl (QOp.ok (fun X => OpOk.pickF rfl rfl)) ?_
      refine Sd.quiet 28 _ _ rfl rfl rfl rfl rfl (QOp.ok (fun X => OpOk.move rfl)) ?_
      refine Sd.quiet 29 _ _ rfl rfl rfl rfl rfl (QOp.ok (fun X => OpOk.move rfl)) ?_
      refine Sd.quiet 32 _ _ rfl rfl rfl rfl rfl (QOp.ok (fun X => OpOk.move rfl)) ?_
      (refine Sd.exec 30 rfl rfl rfl rfl rfl ?hrest (by rfl) (fun Xx41 Kx41 hKx41 => ?_); case hrest => kernel_rfl)
      refine RunL.mem (fl2 (flS (flS (flS (flS (flS (flS rfl)))))) rfl) ?_
      refine RunL.call cal49 rfl (s49 (by assumption)) rfl (fun vx42 Ax42 hx42 => ?_)
      obtain rfl := hx42
      refine RunL.know (fun w s => (s.conv rfl).ownRd0) (fun rdx43 => ?_)
      refine Sd.ret hKx41 (Eq.trans rfl (gp2 (sep_emp _).symm (asg (asg (asg (asg (asg (asg (asg (asg rfl)))))))))) ⟨_, (asg rfl)⟩ ?_
      refine Sd.quiet 31 _ _ rfl rfl rfl rfl rfl (QOp.ok (fun X => OpOk.strOf rfl rfl rfl rfl (Rd.right (Rd.right rdx43)).left)) ?_
      (refine Sd.exec 33 rfl rfl rfl rfl rfl ?hrest (by rfl) (fun Xx44 Kx44 hKx44 => ?_); case hrest => kernel_rfl)
      refine RunL.mem (fl2 (flS (flS (flS (flS (flS (flS (flS (flS rfl)))))))) (sep_emp _)) ?_
      refine RunL.call cal41 rfl (s41 rd.left.left.left.left.left.left.left.left.left.left.left.left.left.left.left.left.left.left.left.left) rfl (fun vx45 Ax45 hx45 => ?_)
      obtain rfl := hx45
      refine RunL.know (fun w s => (s.conv rfl).ownRd0) (fun rdx46 => ?_)
      refine Sd.ret hKx44 (Eq.trans rfl (gp2 (sep_emp _).symm (asg (asg (asg (asg (asg (asg (asg (asg (asg rfl))))))))))) ⟨_, rfl⟩ ?_
      refine Sd.quiet 34 _ _ rfl rfl rfl rfl rfl (QOp.ok (fun X => OpOk.strOf rfl rfl rfl rfl (Rd.right (Rd.right rdx46)).left)) ?_
      refine Sd.quiet 35 _ _ rfl rfl rfl rfl rfl (QOp.ok (fun X => OpOk.neqSS rfl rfl)) ?_
      refine Sd.quiet 36 _ _ rfl rfl rfl rfl rfl (QOp.ok (fun X => OpOk.pickF rfl rfl)) ?_
      (apply Sd.tail; case hall => kernel_rfl)
      refine RunL.mem (fl2 (flS (flS (flS (flS (flS (flS (flS (flS (flS rfl))))))))) (sep_emp _)) ?_
      refine RunL.nil ?_
      refine Run.condNF rfl (by first | omega | with_reducible rfl | assumption) ?_
      refine Run.skip ?_
      refine Run.seq ?_
      refine Run.seq ?_
      refine Run.region ?_
      refine RunL.ok (OpOk.move rfl) rfl ?_
      refine RunL.ok (OpOk.asF (OpOk.lss rfl rfl) (by omega)) rfl ?_
      refine RunL.ok (OpOk.move rfl) rfl ?_
      refine RunL.on rfl rfl ?_
      refine RunL.ok (OpOk.move rfl) rfl ?_
      refine RunL.on rfl rfl ?_
      refine RunL.ok (OpOk.asF (OpOk.gtr rfl rfl) (by omega)) rfl ?_
      refine RunL.ok (OpOk.pickF rfl rfl) rfl ?_
      refine RunL.nil ?_
      refine Run.condF rfl ?_
      refine Run.skip ?_
      refine Run.seq ?_
      refine Run.region ?_
      refine RunL.call cal39 rfl (s39a) rfl (fun vx47 Ax47 hx47 => ?_)
      obtain ⟨x48, ⟨rfl, rfl⟩⟩ := hx47
      refine RunL.ok (OpOk.move rfl) rfl ?_
      refine RunL.ok (OpOk.ext20 rfl) rfl ?_
      refine RunL.ok (OpOk.ext21 rfl) rfl ?_
      refine RunL.alloc ti86 rfl (fun bx49 => ?_)
      refine RunL.storeAll ti86 rfl rfl rfl (ones rfl) rfl rfl ?_
      refine RunL.ok (OpOk.assign rfl) rfl ?_
      refine RunL.nil ?_
      refine Run.seq ?_
      refine Run.drop [2] ?_
      (apply Run.drawD [] (by rfl) (sep_emp _).symm; case hchk => kernel_rfl)
      refine Sd.quiet 0 _ _ rfl rfl rfl rfl rfl (QOp.ok (fun X => OpOk.move rfl)) ?_
      refine Sd.quiet 1 _ _ rfl rfl rfl rfl rfl (QOp.ok (fun X => OpOk.asT (OpOk.eql rfl rfl) (by omega))) ?_
      refine Sd.quiet 2 _ _ rfl rfl rfl rfl rfl (QOp.ok (fun X => OpOk.move rfl)) ?_
      refine Sd.quiet 3 _ _ rfl rfl rfl rfl rfl (QOp.ok (fun X => OpOk.move rfl)) ?_
      refine Sd.quiet 4 _ _ rfl rfl rfl rfl rfl (QOp.ok (fun X => OpOk.strOf rfl rfl rfl rfl (Rd.right rdx19).left.left.left.left.left.left.left.left.left.left.left.left.left.left)) ?_
      refine Sd.quiet 5 _ _ rfl rfl rfl rfl rfl (QOp.ok (fun X => OpOk.move rfl)) ?_
      refine Sd.quiet 7 _ _ rfl rfl rfl rfl rfl (QOp.ok (fun X => OpOk.move rfl)) ?_
      refine Sd.quiet 8 _ _ rfl rfl rfl rfl rfl (QOp.ok (fun X => OpOk.mulN 64 _ rfl rfl rfl rfl (by omega))) ?_
      refine Sd.quiet 9 _ _ rfl rfl rfl rfl rfl (QOp.ok (fun X => OpOk.addN 96 _ rfl rfl rfl rfl (by omega))) ?_
      refine Sd.quiet 10 _ _ rfl rfl rfl rfl rfl (QOp.ok (fun X => OpOk.move rfl)) ?_
      refine Sd.quiet 11 _ _ rfl rfl rfl rfl rfl (QOp.ok (fun X => OpOk.mulN 64 _ rfl rfl rfl rfl (by omega))) ?_
      refine Sd.quiet 12 _ _ rfl rfl rfl rfl rfl (QOp.ok (fun X => OpOk.addN 160 _ rfl rfl rfl rfl (by omega))) ?_
      (refine Sd.exec 6 rfl rfl rfl rfl rfl ?hrest (by rfl) (fun Xx50 Kx50 hKx50 => ?_); case hrest => kernel_rfl)
      refine RunL.mem (fl2 (sep_emp _) (sep_emp _)) ?_
      refine RunL.call cal41 rfl (s41 rd.left.left.left.left.left.left.left.left.left.left.left.left.left.left.left.left.left.left.left.left.left.left.left) rfl (fun vx51 Ax51 hx51 => ?_)
      obtain rfl := hx51
      refine RunL.know (fun w s => (s.conv rfl).ownRd0) (fun rdx52 => ?_)
      refine Sd.ret hKx50 (Eq.trans rfl (gp2 (sep_emp _).symm rfl)) ⟨_, (emp_sep _).symm⟩ ?_
      refine Sd.quiet 13 _ _ rfl rfl rfl rfl rfl (QOp.ok (fun X => OpOk.cut rfl ti5 rfl (Rd.right rdx52).left ⟨_, rfl⟩ ⟨_, rfl⟩ (by omega) (by omega))) ?_
      refine Sd.quiet 14 _ _ rfl rfl rfl rfl rfl (QOp.ok (fun X => OpOk.strOf rfl rfl rfl rfl (Rd.cutB (Rd.right rdx52).left (by omega) (by omega)))) ?_
      refine Sd.quiet 15 _ _ rfl rfl rfl rfl rfl (QOp.ok (fun X => OpOk.asT (OpOk.eqlSS rfl rfl) (by omega))) ?_
      refine Sd.quiet 16 _ _ rfl rfl rfl rfl rfl (QOp.ok (fun X => OpOk.pickT rfl rfl)) ?_
      refine Sd.quiet 17 _ _ rfl rfl rfl rfl rfl (QOp.ok (fun X => OpOk.move rfl)) ?_
      refine Sd.quiet 18 _ _ rfl rfl rfl rfl rfl (QOp.ok (fun X => OpOk.move rfl)) ?_
      refine Sd.quiet 19 _ _ rfl rfl rfl rfl rfl (QOp.ok (fun X => OpOk.asT (OpOk.eql rfl rfl) (by omega))) ?_
      refine Sd.quiet 20 _ _ rfl rfl rfl rfl rfl (QOp.ok (fun X => OpOk.pickT rfl rfl)) ?_
      refine Sd.quiet 21 _ _ rfl rfl rfl rfl rfl (QOp.ok (fun X => OpOk.assign rfl)) ?_
      (apply Sd.tail; case hall => kernel_rfl)
      refine RunL.mem (fl2 rfl (sep_emp _)) ?_
      refine RunL.nil ?_
      refine Run.ret1 Try.func10 rfl rfl ?_
      exact ⟨_, rfl, (asg (asg (asg (asg (asg (asg (asg (asg (asg (asg (asg (asg (asg (asg (asg (asg (asg (asg (asg (asg (asg (asg as1))))))))))))))))))))))⟩
theorem reads_b (rd : Rd w0 A u 1 m (B bs)) (hs : sealed ((secOf (imgB bs) 0).take 30) = secOf (imgB bs) 0) (hf : ¬ faceOk (secOf (imgB bs) 0)) :
    Spec Try.prog w0 10 [.agg #[u, .int .i64 o, .int .i64 i, .int .i64 s]] A (fun v' A' => ∃ J, v' = .bool true ∧ A' = A * J) := by
  have hs2 : sealed ((secOf (imgB bs) 0).take (32 - 2)) = secOf (imgB bs) 0 := hs
  have hl := imgB_len bs
  have rdn : Rd w0 A (.slice none 0 0) 4 0 (Fl encT111 ([] : List En)) := Rd.nil 4
  refine Spec.of_run [(0, .agg #[u, .int .i64 o, .int .i64 i, .int .i64 s])] Try.func10 rfl (Nat.le_of_ble_eq_true rfl) (by repeat (first | exact trivial | refine ⟨rfl, ?_⟩)) ?_
  rcases Int.lt_or_le s 0 with hs0 | hs0
  · refine Run.seq ?_
    refine Run.region ?_
    refine RunL.box rfl rfl (fun bx1 => ?_)
    refine RunL.ok (OpOk.assign rfl) rfl ?_
    refine RunL.nil ?_
    refine Run.seq ?_
    (apply Run.drawD [] (by rfl) (sep_emp _).symm; case hchk => kernel_rfl)
    refine Sd.quiet 0 _ _ rfl rfl rfl rfl rfl (QOp.ok (fun X => OpOk.fieldAddr fld81_0 rfl)) ?_
    refine Sd.quiet 1 _ _ rfl rfl rfl rfl rfl (QOp.ok (fun X => OpOk.load rfl rfl rfl (Blk.out Blk.pts.left.left _ _ (by first | rfl | assumption)))) ?_
    refine Sd.quiet 2 _ _ rfl rfl rfl rfl rfl (QOp.ok (fun X => OpOk.fieldAddr fld81_1 rfl)) ?_
    refine Sd.quiet 3 _ _ rfl rfl rfl rfl rfl (QOp.ok (fun X => OpOk.load rfl rfl rfl (Blk.out Blk.pts.left.left _ _ (by first | rfl | assumption)))) ?_
    refine Sd.quiet 4 _ _ rfl rfl rfl rfl rfl (QOp.ok (fun X => OpOk.fieldAddr fld81_2 rfl)) ?_
    refine Sd.quiet 5 _ _ rfl rfl rfl rfl rfl (QOp.ok (fun X => OpOk.load rfl rfl rfl (Blk.out Blk.pts.left.left _ _ (by first | rfl | assumption)))) ?_
    refine Sd.quiet 6 _ _ rfl rfl rfl rfl rfl (QOp.ok (fun X => OpOk.fieldAddr fld81_3 rfl)) ?_
    refine Sd.quiet 7 _ _ rfl rfl rfl rfl rfl (QOp.ok (fun X => OpOk.load rfl rfl rfl (Blk.out Blk.pts.left.left _ _ (by first | rfl | assumption)))) ?_
    refine Sd.quiet 8 _ _ rfl rfl rfl rfl rfl (QOp.ok (fun X => OpOk.assign rfl)) ?_
    refine Sd.quiet 9 _ _ rfl rfl rfl rfl rfl (QOp.ok (fun X => OpOk.assign rfl)) ?_
    refine Sd.quiet 10 _ _ rfl rfl rfl rfl rfl (QOp.ok (fun X => OpOk.assign rfl)) ?_
    refine Sd.quiet 11 _ _ rfl rfl rfl rfl rfl (QOp.ok (fun X => OpOk.assign rfl)) ?_
    (apply Sd.tail; case hall => kernel_rfl)
    refine RunL.mem (fl2 (sep_emp _) (sep_emp _)) ?_
    refine RunL.nil ?_
    refine Run.seq ?_
    refine Run.seq ?_
    refine Run.region ?_
    refine RunL.call cal37 rfl (s37) rfl (fun vx2 Ax2 hx2 => ?_)
    obtain ⟨x3, ⟨rfl, rfl⟩⟩ := hx2
    refine RunL.ok (OpOk.not rfl) rfl ?_
    refine RunL.nil ?_
    refine Run.condF rfl ?_
    refine Run.skip ?_
    refine Run.seq ?_
    refine Run.region ?_
    refine RunL.ok (OpOk.move rfl) rfl ?_
    refine RunL.call cal38 rfl (s38 rd.left.left) rfl (fun vx4 Ax4 hx4 => ?_)
    obtain ⟨x5, ⟨x6, ⟨rfl, rfl⟩⟩⟩ := hx4
    refine RunL.ok (OpOk.assign rfl) rfl ?_
    refine RunL.nil ?_
    refine Run.seq ?_
    refine Run.seq ?_
    refine Run.region ?_
    refine RunL.ok (OpOk.move rfl) rfl ?_
    refine RunL.ok (OpOk.eqlPN rfl rfl) rfl ?_
    refine RunL.nil ?_
    refine Run.condF rfl ?_
    refine Run.skip ?_
    refine Run.seq ?_
    refine Run.region ?_
    refine RunL.ok (OpOk.move rfl) rfl ?_
    refine RunL.call cal39 rfl (s39c (by assumption) (by assumption) (by assumption)) rfl (fun vx8 Ax8 hx8 => ?_)
    obtain ⟨x9, ⟨rfl, rfl⟩⟩ := hx8
    refine RunL.ok (OpOk.move rfl) rfl ?_
    refine RunL.ok (OpOk.ext20 rfl) rfl ?_
    refine RunL.ok (OpOk.ext21 rfl) rfl ?_
    refine RunL.alloc ti86 rfl (fun bx10 => ?_)
    refine RunL.storeAll ti86 rfl rfl rfl (ones rfl) rfl rfl ?_
    refine RunL.ok (OpOk.assign rfl) rfl ?_
    refine RunL.nil ?_
    refine Run.seq ?_
    refine Run.region ?_
    refine RunL.ok (OpOk.move rfl) rfl ?_
    refine RunL.call cal41 rfl (s41 rd.left.left.left.left.left.left) rfl (fun vx11 Ax11 hx11 => ?_)
    obtain rfl := hx11
    refine RunL.know (fun w s => (s.conv rfl).ownRd0) (fun rdx12 => ?_)
    refine RunL.call cal40 rfl (s40b (Rd.right rdx12) rfl (by assumption) (by assumption)) rfl (fun vx14 Ax14 hx14 => ?_)
    obtain ⟨x15, ⟨rfl, rfl⟩⟩ := hx14
    refine RunL.ok (OpOk.move rfl) rfl ?_
    refine RunL.ok (OpOk.ext20 rfl) rfl ?_
    refine RunL.ok (OpOk.ext21 rfl) rfl ?_
    refine RunL.alloc ti89 rfl (fun bx16 => ?_)
    refine RunL.storeAll ti89 rfl rfl rfl (ones rfl) rfl rfl ?_
    refine RunL.ok (OpOk.assign rfl) rfl ?_
    refine RunL.nil ?_
    refine Run.seq ?_
    refine Run.region ?_
    refine RunL.ok (OpOk.move rfl) rfl ?_
    refine RunL.ok (OpOk.move rfl) rfl ?_
    refine RunL.mem (frc (frl (frl (frl (frl rfl)))) rfl) ?_
    refine RunL.call cal42 rfl (s42a (by omega)) rfl (fun vx17 Ax17 hx17 => ?_)
    obtain ⟨rfl, rfl⟩ := hx17
    refine RunL.ok (OpOk.move rfl) rfl ?_
    refine RunL.ok (OpOk.ext20 rfl) rfl ?_
    refine RunL.ok (OpOk.ext21 rfl) rfl ?_
    refine RunL.ok (OpOk.assign rfl) rfl ?_
    refine RunL.ok (OpOk.assign rfl) rfl ?_
    refine RunL.nil ?_
    refine Run.seq ?_
    refine Run.seq ?_
    (apply Run.drawD [] (by rfl) (Eq.trans rfl rfl); case hchk => kernel_rfl)
    refine Sd.quiet 0 _ _ rfl rfl rfl rfl rfl (QOp.ok (fun X => OpOk.loadS rfl rfl ti86 rfl Blk.pts.left.left.left.left.left rfl)) ?_
    refine Sd.quiet 2 _ _ rfl rfl rfl rfl rfl (QOp.ok (fun X => OpOk.loadS rfl rfl ti89 rfl Blk.pts.left.left rfl)) ?_
    (refine Sd.exec 1 rfl rfl rfl rfl rfl ?hrest (by rfl) (fun Xx18 Kx18 hKx18 => ?_); case hrest => kernel_rfl)
    refine RunL.mem (fl2 (sep_emp _) rfl) ?_
    refine RunL.call cal44 rfl (s44 rdn.left.left.left.left.left.left.left.left.left.left (by omega)) rfl (fun vx19 Ax19 hx19 => ?_)
    obtain ⟨x20, ⟨x21, ⟨x22, ⟨rfl, rfl⟩⟩⟩⟩ := hx19
    refine RunL.know (fun w s => (s.conv rfl).ownRd0) (fun rdx23 => ?_)
    refine Sd.ret hKx18 (Eq.trans (frc (frl (frl rfl)) rfl) (gp2 rfl (asg rfl))) ⟨_, (emp_sep _).symm⟩ ?_
    (refine Sd.exec 3 rfl rfl rfl rfl rfl ?hrest (by rfl) (fun Xx24 Kx24 hKx24 => ?_); case hrest => kernel_rfl)
    refine RunL.mem (fl2 (flS rfl) rfl) ?_
    refine RunL.call cal43 rfl (s43 (Rd.right rdx23).left rdn.left.left.left.left.left.left.left.left.left.left.left.left) rfl (fun vx25 Ax25 hx25 => ?_)
    obtain ⟨x26, ⟨rfl, rfl⟩⟩ := hx25
    refine Sd.ret hKx24 (Eq.trans (frc (frl rfl) rfl) (gp2 rfl (asg (asg rfl)))) ⟨_, rfl⟩ ?_
    refine Sd.quiet 4 _ _ rfl rfl rfl rfl rfl (QOp.ok (fun X => OpOk.not rfl)) ?_
    refine Sd.quiet 5 _ _ rfl rfl rfl rfl rfl (QOp.ok (fun X => OpOk.move rfl)) ?_
    refine Sd.quiet 6 _ _ rfl rfl rfl rfl rfl (QOp.ok (fun X => OpOk.move rfl)) ?_
    refine Sd.quiet 7 _ _ rfl rfl rfl rfl rfl (QOp.ok (fun X => OpOk.move rfl)) ?_
    refine Sd.quiet 8 _ _ rfl rfl rfl rfl rfl (QOp.ok (fun X => OpOk.as (c := false) (OpOk.neq rfl rfl) (by rw [decide_eq_true (by omega)]; rfl))) ?_
    refine Sd.quiet 9 _ _ rfl rfl rfl rfl rfl (QOp.ok (fun X => OpOk.pickF rfl rfl)) ?_
    refine Sd.quiet 10 _ _ rfl rfl rfl rfl rfl (QOp.ok (fun X => OpOk.move rfl)) ?_
    refine Sd.quiet 11 _ _ rfl rfl rfl rfl rfl (QOp.ok (fun X => OpOk.loadS rfl rfl ti86 rfl Blk.pts.left.left.left.left.left rfl)) ?_
    refine Sd.quiet 12 _ _ rfl rfl rfl rfl rfl (QOp.ok (fun X => OpOk.move rfl)) ?_
    refine Sd.quiet 13 _ _ rfl rfl rfl rfl rfl (QOp.ok (fun X => OpOk.move rfl)) ?_
    refine Sd.quiet 15 _ _ rfl rfl rfl rfl rfl (QOp.ok (fun X => OpOk.loadS rfl rfl ti89 rfl Blk.pts.left.left rfl)) ?_
    refine Sd.quiet 16 _ _ rfl rfl rfl rfl rfl (QOp.ok (fun X => OpOk.move rfl)) ?_
    refine Sd.quiet 17 _ _ rfl rfl rfl rfl rfl (QOp.ok (fun X => OpOk.move rfl)) ?_
    (refine Sd.exec 14 rfl rfl rfl rfl rfl ?hrest (by rfl) (fun Xx27 Kx27 hKx27 => ?_); case hrest => kernel_rfl)
    refine RunL.mem (fl2 (flS (flS rfl)) rfl) ?_
    refine RunL.call cal45 rfl (s45 rdn.left.left.left.left.left.left.left.left.left.left.left.left.left) rfl (fun vx28 Ax28 hx28 => ?_)
    obtain ⟨x29, ⟨rfl, rfl⟩⟩ := hx28
    refine Sd.ret hKx27 (Eq.trans (frc (frl rfl) rfl) (gp2 rfl (asg (asg (asg rfl))))) ⟨_, rfl⟩ ?_
    (refine Sd.exec 18 rfl rfl rfl rfl rfl ?hrest (by rfl) (fun Xx30 Kx30 hKx30 => ?_); case hrest => kernel_rfl)
    refine RunL.mem (fl2 (flS (flS (flS rfl))) rfl) ?_
    refine RunL.call cal46 rfl (s46 rdn.left.left.left.left.left.left.left.left.left.left.left.left.left.left) rfl (fun vx31 Ax31 hx31 => ?_)
    obtain ⟨x32, ⟨rfl, rfl⟩⟩ := hx31
    refine Sd.ret hKx30 (Eq.trans (frc (frl rfl) rfl) (gp2 rfl (asg (asg (asg (asg rfl)))))) ⟨_, rfl⟩ ?_
    refine Sd.quiet 19 _ _ rfl rfl rfl rfl rfl (QOp.ok (fun X => OpOk.as (c := false) (OpOk.neq rfl rfl) (by rw [decide_eq_true (by omega)]; rfl))) ?_
    refine Sd.quiet 20 _ _ rfl rfl rfl rfl rfl (QOp.ok (fun X => OpOk.pickF rfl rfl)) ?_
    refine Sd.quiet 21 _ _ rfl rfl rfl rfl rfl (QOp.ok (fun X => OpOk.move rfl)) ?_
    refine Sd.quiet 22 _ _ rfl rfl rfl rfl rfl (QOp.ok (fun X => OpOk.loadS rfl rfl ti86 rfl Blk.pts.left.left.left.left.left rfl)) ?_
    refine Sd.quiet 24 _ _ rfl rfl rfl rfl rfl (QOp.ok (fun X => OpOk.loadS rfl rfl ti89 rfl Blk.pts.left.left rfl)) ?_
    (refine Sd.exec 23 rfl rfl rfl rfl rfl ?hrest (by rfl) (fun Xx33 Kx33 hKx33 => ?_); case hrest => kernel_rfl)
    refine RunL.mem (fl2 (flS (flS (flS (flS rfl)))) rfl) ?_
    refine RunL.call cal47 rfl (s47 rdn.left.left.left.left.left.left.left.left.left.left.left.left.left.left.left) rfl (fun vx34 Ax34 hx34 => ?_)
    obtain ⟨x35, ⟨rfl, rfl⟩⟩ := hx34
    refine Sd.ret hKx33 (Eq.trans (frc (frl rfl) rfl) (gp2 rfl (asg (asg (asg (asg (asg rfl))))))) ⟨_, rfl⟩ ?_
    (refine Sd.exec 25 rfl rfl rfl rfl rfl ?hrest (by rfl) (fun Xx36 Kx36 hKx36 => ?_); case hrest => kernel_rfl)
    refine RunL.mem (fl2 (flS (flS (flS (flS (flS rfl))))) rfl) ?_
    refine RunL.call cal48 rfl (s48 rdn.left.left.left.left.left.left.left.left.left.left.left.left.left.left.left.left) rfl (fun vx37 Ax37 hx37 => ?_)
    obtain ⟨x38, ⟨rfl, rfl⟩⟩ := hx37
    refine Sd.ret hKx36 (Eq.trans (frc (frl rfl) rfl) (gp2 rfl (asg (asg (asg (asg (asg (asg rfl)))))))) ⟨_, rfl⟩ ?_
    refine Sd.quiet 26 _ _ rfl rfl rfl rfl rfl (QOp.ok (fun X => OpOk.as (c := false) (OpOk.neq rfl rfl) (by rw [decide_eq_true (by omega)]; rfl))) ?_
    refine Sd.quiet 27 _ _ rfl rfl rfl rfl rfl (QOp.ok (fun X => OpOk.pickF rfl rfl)) ?_
    refine Sd.quiet 28 _ _ rfl rfl rfl rfl rfl (QOp.ok (fun X => OpOk.move rfl)) ?_
    refine Sd.quiet 29 _ _ rfl rfl rfl rfl rfl (QOp.ok (fun X => OpOk.move rfl)) ?_
    refine Sd.quiet 32 _ _ rfl rfl rfl rfl rfl (QOp.ok (fun X => OpOk.move rfl)) ?_
    (refine Sd.exec 30 rfl rfl rfl rfl rfl ?hrest (by rfl) (fun Xx39 Kx39 hKx39 => ?_); case hrest => kernel_rfl)
    refine RunL.mem (fl2 (flS (flS (flS (flS (flS (flS rfl)))))) rfl) ?_
    refine RunL.call cal49 rfl (s49 (by assumption)) rfl (fun vx40 Ax40 hx40 => ?_)
    obtain rfl := hx40
    refine RunL.know (fun w s => (s.conv rfl).ownRd0) (fun rdx41 => ?_)
    refine Sd.ret hKx39 (Eq.trans rfl (gp2 (sep_emp _).symm (asg (asg (asg (asg (asg (asg (asg (asg rfl)))))))))) ⟨_, (asg rfl)⟩ ?_
    refine Sd.quiet 31 _ _ rfl rfl rfl rfl rfl (QOp.ok (fun X => OpOk.strOf rfl rfl rfl rfl (Rd.right (Rd.right rdx41)).left)) ?_
    (refine Sd.exec 33 rfl rfl rfl rfl rfl ?hrest (by rfl) (fun Xx42 Kx42 hKx42 => ?_); case hrest => kernel_rfl)
    refine RunL.mem (fl2 (flS (flS (flS (flS (flS (flS (flS (flS rfl)))))))) (sep_emp _)) ?_
    refine RunL.call cal41 rfl (s41 rd.left.left.left.left.left.left.left.left.left.left.left.left.left.left.left.left.left.left) rfl (fun vx43 Ax43 hx43 => ?_)
    obtain rfl := hx43
    refine RunL.know (fun w s => (s.conv rfl).ownRd0) (fun rdx44 => ?_)
    refine Sd.ret hKx42 (Eq.trans rfl (gp2 (sep_emp _).symm (asg (asg (asg (asg (asg (asg (asg (asg (asg rfl))))))))))) ⟨_, rfl⟩ ?_
    refine Sd.quiet 34 _ _ rfl rfl rfl rfl rfl (QOp.ok (fun X => OpOk.strOf rfl rfl rfl rfl (Rd.right (Rd.right rdx44)).left)) ?_
    refine Sd.quiet 35 _ _ rfl rfl rfl rfl rfl (QOp.ok (fun X => OpOk.neqSS rfl rfl)) ?_
    refine Sd.quiet 36 _ _ rfl rfl rfl rfl rfl (QOp.ok (fun X => OpOk.pickF rfl rfl)) ?_
    (apply Sd.tail; case hall => kernel_rfl)
    refine RunL.mem (fl2 (flS (flS (flS (flS (flS (flS (flS (flS (flS rfl))))))))) (sep_emp _)) ?_
    refine RunL.nil ?_
    refine Run.condNF rfl (by first | omega | with_reducible rfl | assumption) ?_
    refine Run.skip ?_
    refine Run.seq ?_
    refine Run.seq ?_
    refine Run.region ?_
    refine RunL.ok (OpOk.move rfl) rfl ?_
    refine RunL.ok (OpOk.asT (OpOk.lss rfl rfl) (by omega)) rfl ?_
    refine RunL.ok (OpOk.move rfl) rfl ?_
    refine RunL.off rfl rfl rfl rfl ?_
    refine RunL.off rfl rfl rfl rfl ?_
    refine RunL.ok (OpOk.pickT rfl rfl) rfl ?_
    refine RunL.nil ?_
    refine Run.condT rfl ?_
    refine Run.seq ?_
    refine Run.region ?_
    refine RunL.ok (OpOk.move rfl) rfl ?_
    refine RunL.ok (OpOk.asT (OpOk.eql rfl rfl) (by omega)) rfl ?_
    refine RunL.ok (OpOk.move rfl) rfl ?_
    refine RunL.on rfl rfl ?_
    refine RunL.ok (OpOk.move rfl) rfl ?_
    refine RunL.on rfl rfl ?_
    refine RunL.ok (OpOk.lenV rfl rfl rfl) rfl ?_
    refine RunL.on rfl rfl ?_
    refine RunL.ok (OpOk.asT (OpOk.eql rfl rfl) (by omega)) rfl ?_
    refine RunL.ok (OpOk.pickT rfl rfl) rfl ?_
    refine RunL.ok (OpOk.assign rfl) rfl ?_
    refine RunL.nil ?_
    refine Run.ret1 Try.func10 rfl rfl ?_
    exact ⟨_, rfl, (asg (asg (asg (asg (asg (asg (asg (asg (asg (asg (asg (asg (asg (asg (asg (asg (asg as1)))))))))))))))))⟩
  · rcases Int.lt_or_le 5 s with hs5 | hs5
    · refine Run.seq ?_
      refine Run.region ?_
      refine RunL.box rfl rfl (fun bx1 => ?_)
      refine RunL.ok (OpOk.assign rfl) rfl ?_
      refine RunL.nil ?_
      refine Run.seq ?_
      (apply Run.drawD [] (by rfl) (sep_emp _).symm; case hchk => kernel_rfl)
      refine Sd.quiet 0 _ _ rfl rfl rfl rfl rfl (QOp.ok (fun X => OpOk.fieldAddr fld81_0 rfl)) ?_
      refine Sd.quiet 1 _ _ rfl rfl rfl rfl rfl (QOp.ok (fun X => OpOk.load rfl rfl rfl (Blk.out Blk.pts.left.left _ _ (by first | rfl | assumption)))) ?_
      refine Sd.quiet 2 _ _ rfl rfl rfl rfl rfl (QOp.ok (fun X => OpOk.fieldAddr fld81_1 rfl)) ?_
      refine Sd.quiet 3 _ _ rfl rfl rfl rfl rfl (QOp.ok (fun X => OpOk.load rfl rfl rfl (Blk.out Blk.pts.left.left _ _ (by first | rfl | assumption)))) ?_
      refine Sd.quiet 4 _ _ rfl rfl rfl rfl rfl (QOp.ok (fun X => OpOk.fieldAddr fld81_2 rfl)) ?_
      refine Sd.quiet 5 _ _ rfl rfl rfl rfl rfl (QOp.ok (fun X => OpOk.load rfl rfl rfl (Blk.out Blk.pts.left.left _ _ (by first | rfl | assumption)))) ?_
      refine Sd.quiet 6 _ _ rfl rfl rfl rfl rfl (QOp.ok (fun X => OpOk.fieldAddr fld81_3 rfl)) ?_
      refine Sd.quiet 7 _ _ rfl rfl rfl rfl rfl (QOp.ok (fun X => OpOk.load rfl rfl rfl (Blk.out Blk.pts.left.left _ _ (by first | rfl | assumption)))) ?_
      refine Sd.quiet 8 _ _ rfl rfl rfl rfl rfl (QOp.ok (fun X => OpOk.assign rfl)) ?_
      refine Sd.quiet 9 _ _ rfl rfl rfl rfl rfl (QOp.ok (fun X => OpOk.assign rfl)) ?_
      refine Sd.quiet 10 _ _ rfl rfl rfl rfl rfl (QOp.ok (fun X => OpOk.assign rfl)) ?_
      refine Sd.quiet 11 _ _ rfl rfl rfl rfl rfl (QOp.ok (fun X => OpOk.assign rfl)) ?_
      (apply Sd.tail; case hall => kernel_rfl)
      refine RunL.mem (fl2 (sep_emp _) (sep_emp _)) ?_
      refine RunL.nil ?_
      refine Run.seq ?_
      refine Run.seq ?_
      refine Run.region ?_
      refine RunL.call cal37 rfl (s37) rfl (fun vx2 Ax2 hx2 => ?_)
      obtain ⟨x3, ⟨rfl, rfl⟩⟩ := hx2
      refine RunL.ok (OpOk.not rfl) rfl ?_
      refine RunL.nil ?_
      refine Run.condF rfl ?_
      refine Run.skip ?_
      refine Run.seq ?_
      refine Run.region ?_
      refine RunL.ok (OpOk.move rfl) rfl ?_
      refine RunL.call cal38 rfl (s38 rd.left.left) rfl (fun vx4 Ax4 hx4 => ?_)
      obtain ⟨x5, ⟨x6, ⟨rfl, rfl⟩⟩⟩ := hx4
      refine RunL.ok (OpOk.assign rfl) rfl ?_
      refine RunL.nil ?_
      refine Run.seq ?_
      refine Run.seq ?_
      refine Run.region ?_
      refine RunL.ok (OpOk.move rfl) rfl ?_
      refine RunL.ok (OpOk.eqlPN rfl rfl) rfl ?_
      refine RunL.nil ?_
      refine Run.condF rfl ?_
      refine Run.skip ?_
      refine Run.seq ?_
      refine Run.region ?_
      refine RunL.ok (OpOk.move rfl) rfl ?_
      refine RunL.call cal39 rfl (s39c (by assumption) (by assumption) (by assumption)) rfl (fun vx8 Ax8 hx8 => ?_)
      obtain ⟨x9, ⟨rfl, rfl⟩⟩ := hx8
      refine RunL.ok (OpOk.move rfl) rfl ?_
      refine RunL.ok (OpOk.ext20 rfl) rfl ?_
      refine RunL.ok (OpOk.ext21 rfl) rfl ?_
      refine RunL.alloc ti86 rfl (fun bx10 => ?_)
      refine RunL.storeAll ti86 rfl rfl rfl (ones rfl) rfl rfl ?_
      refine RunL.ok (OpOk.assign rfl) rfl ?_
      refine RunL.nil ?_
      refine Run.seq ?_
      refine Run.region ?_
      refine RunL.ok (OpOk.move rfl) rfl ?_
      refine RunL.call cal41 rfl (s41 rd.left.left.left.left.left.left) rfl (fun vx11 Ax11 hx11 => ?_)
      obtain rfl := hx11
      refine RunL.know (fun w s => (s.conv rfl).ownRd0) (fun rdx12 => ?_)
      refine RunL.call cal40 rfl (s40b (Rd.right rdx12) rfl (by assumption) (by assumption)) rfl (fun vx14 Ax14 hx14 => ?_)
      obtain ⟨x15, ⟨rfl, rfl⟩⟩ := hx14
      refine RunL.ok (OpOk.move rfl) rfl ?_
      refine RunL.ok (OpOk.ext20 rfl) rfl ?_
      refine RunL.ok (OpOk.ext21 rfl) rfl ?_
      refine RunL.alloc ti89 rfl (fun bx16 => ?_)
      refine RunL.storeAll ti89 rfl rfl rfl (ones rfl) rfl rfl ?_
      refine RunL.ok (OpOk.assign rfl) rfl ?_
      refine RunL.nil ?_
      refine Run.seq ?_
      refine Run.region ?_
      refine RunL.ok (OpOk.move rfl) rfl ?_
      refine RunL.ok (OpOk.move rfl) rfl ?_
      refine RunL.mem (frc (frl (frl (frl (frl rfl)))) rfl) ?_
      refine RunL.call cal42 rfl (s42a (by omega)) rfl (fun vx17 Ax17 hx17 => ?_)
      obtain ⟨rfl, rfl⟩ := hx17
      refine RunL.ok (OpOk.move rfl) rfl ?_
      refine RunL.ok (OpOk.ext20 rfl) rfl ?_
      refine RunL.ok (OpOk.ext21 rfl) rfl ?_
      refine RunL.ok (OpOk.assign rfl) rfl ?_
      refine RunL.ok (OpOk.assign rfl) rfl ?_
      refine RunL.nil ?_
      refine Run.seq ?_
      refine Run.seq ?_
      (apply Run.drawD [] (by rfl) (Eq.trans rfl rfl); case hchk => kernel_rfl)
      refine Sd.quiet 0 _ _ rfl rfl rfl rfl rfl (QOp.ok (fun X => OpOk.loadS rfl rfl ti86 rfl Blk.pts.left.left.left.left.left rfl)) ?_
      refine Sd.quiet 2 _ _ rfl rfl rfl rfl rfl (QOp.ok (fun X => OpOk.loadS rfl rfl ti89 rfl Blk.pts.left.left rfl)) ?_
      (refine Sd.exec 1 rfl rfl rfl rfl rfl ?hrest (by rfl) (fun Xx18 Kx18 hKx18 => ?_); case hrest => kernel_rfl)
      refine RunL.mem (fl2 (sep_emp _) rfl) ?_
      refine RunL.call cal44 rfl (s44 rdn.left.left.left.left.left.left.left.left.left.left (by omega)) rfl (fun vx19 Ax19 hx19 => ?_)
      obtain ⟨x20, ⟨x21, ⟨x22, ⟨rfl, rfl⟩⟩⟩⟩ := hx19
      refine RunL.know (fun w s => (s.conv rfl).ownRd0) (fun rdx23 => ?_)
      refine Sd.ret hKx18 (Eq.trans (frc (frl (frl rfl)) rfl) (gp2 rfl (asg rfl))) ⟨_, (emp_sep _).symm⟩ ?_
      (refine Sd.exec 3 rfl rfl rfl rfl rfl ?hrest (by rfl) (fun Xx24 Kx24 hKx24 => ?_); case hrest => kernel_rfl)
      refine RunL.mem (fl2 (flS rfl) rfl) ?_
      refine RunL.call cal43 rfl (s43 (Rd.right rdx23).left rdn.left.left.left.left.left.left.left.left.left.left.left.left) rfl (fun vx25 Ax25 hx25 => ?_)
      obtain ⟨x26, ⟨rfl, rfl⟩⟩ := hx25
      refine Sd.ret hKx24 (Eq.trans (frc (frl rfl) rfl) (gp2 rfl (asg (asg rfl)))) ⟨_, rfl⟩ ?_
      refine Sd.quiet 4 _ _ rfl rfl rfl rfl rfl (QOp.ok (fun X => OpOk.not rfl)) ?_
      refine Sd.quiet 5 _ _ rfl rfl rfl rfl rfl (QOp.ok (fun X => OpOk.move rfl)) ?_
      refine Sd.quiet 6 _ _ rfl rfl rfl rfl rfl (QOp.ok (fun X => OpOk.move rfl)) ?_
      refine Sd.quiet 7 _ _ rfl rfl rfl rfl rfl (QOp.ok (fun X => OpOk.move rfl)) ?_
      refine Sd.quiet 8 _ _ rfl rfl rfl rfl rfl (QOp.ok (fun X => OpOk.as (c := false) (OpOk.neq rfl rfl) (by rw [decide_eq_true (by omega)]; rfl))) ?_
      refine Sd.quiet 9 _ _ rfl rfl rfl rfl rfl (QOp.ok (fun X => OpOk.pickF rfl rfl)) ?_
      refine Sd.quiet 10 _ _ rfl rfl rfl rfl rfl (QOp.ok (fun X => OpOk.move rfl)) ?_
      refine Sd.quiet 11 _ _ rfl rfl rfl rfl rfl (QOp.ok (fun X => OpOk.loadS rfl rfl ti86 rfl Blk.pts.left.left.left.left.left rfl)) ?_
      refine Sd.quiet 12 _ _ rfl rfl rfl rfl rfl (QOp.ok (fun X => OpOk.move rfl)) ?_
      refine Sd.quiet 13 _ _ rfl rfl rfl rfl rfl (QOp.ok (fun X => OpOk.move rfl)) ?_
      refine Sd.quiet 15 _ _ rfl rfl rfl rfl rfl (QOp.ok (fun X => OpOk.loadS rfl rfl ti89 rfl Blk.pts.left.left rfl)) ?_
      refine Sd.quiet 16 _ _ rfl rfl rfl rfl rfl (QOp.ok (fun X => OpOk.move rfl)) ?_
      refine Sd.quiet 17 _ _ rfl rfl rfl rfl rfl (QOp.ok (fun X => OpOk.move rfl)) ?_
      (refine Sd.exec 14 rfl rfl rfl rfl rfl ?hrest (by rfl) (fun Xx27 Kx27 hKx27 => ?_); case hrest => kernel_rfl)
      refine RunL.mem (fl2 (flS (flS rfl)) rfl) ?_
      refine RunL.call cal45 rfl (s45 rdn.left.left.left.left.left.left.left.left.left.left.left.left.left) rfl (fun vx28 Ax28 hx28 => ?_)
      obtain ⟨x29, ⟨rfl, rfl⟩⟩ := hx28
      refine Sd.ret hKx27 (Eq.trans (frc (frl rfl) rfl) (gp2 rfl (asg (asg (asg rfl))))) ⟨_, rfl⟩ ?_
      (refine Sd.exec 18 rfl rfl rfl rfl rfl ?hrest (by rfl) (fun Xx30 Kx30 hKx30 => ?_); case hrest => kernel_rfl)
      refine RunL.mem (fl2 (flS (flS (flS rfl))) rfl) ?_
      refine RunL.call cal46 rfl (s46 rdn.left.left.left.left.left.left.left.left.left.left.left.left.left.left) rfl (fun vx31 Ax31 hx31 => ?_)
      obtain ⟨x32, ⟨rfl, rfl⟩⟩ := hx31
      refine Sd.ret hKx30 (Eq.trans (frc (frl rfl) rfl) (gp2 rfl (asg (asg (asg (asg rfl)))))) ⟨_, rfl⟩ ?_
      refine Sd.quiet 19 _ _ rfl rfl rfl rfl rfl (QOp.ok (fun X => OpOk.as (c := false) (OpOk.neq rfl rfl) (by rw [decide_eq_true (by omega)]; rfl))) ?_
      refine Sd.quiet 20 _ _ rfl rfl rfl rfl rfl (QOp.ok (fun X => OpOk.pickF rfl rfl)) ?_
      refine Sd.quiet 21 _ _ rfl rfl rfl rfl rfl (QOp.ok (fun X => OpOk.move rfl)) ?_
      refine Sd.quiet 22 _ _ rfl rfl rfl rfl rfl (QOp.ok (fun X => OpOk.loadS rfl rfl ti86 rfl Blk.pts.left.left.left.left.left rfl)) ?_
      refine Sd.quiet 24 _ _ rfl rfl rfl rfl rfl (QOp.ok (fun X => OpOk.loadS rfl rfl ti89 rfl Blk.pts.left.left rfl)) ?_
      (refine Sd.exec 23 rfl rfl rfl rfl rfl ?hrest (by rfl) (fun Xx33 Kx33 hKx33 => ?_); case hrest => kernel_rfl)
      refine RunL.mem (fl2 (flS (flS (flS (flS rfl)))) rfl) ?_
      refine RunL.call cal47 rfl (s47 rdn.left.left.left.left.left.left.left.left.left.left.left.left.left.left.left) rfl (fun vx34 Ax34 hx34 => ?_)
      obtain ⟨x35, ⟨rfl, rfl⟩⟩ := hx34
      refine Sd.ret hKx33 (Eq.trans (frc (frl rfl) rfl) (gp2 rfl (asg (asg (asg (asg (asg rfl))))))) ⟨_, rfl⟩ ?_
      (refine Sd.exec 25 rfl rfl rfl rfl rfl ?hrest (by rfl) (fun Xx36 Kx36 hKx36 => ?_); case hrest => kernel_rfl)
      refine RunL.mem (fl2 (flS (flS (flS (flS (flS rfl))))) rfl) ?_
      refine RunL.call cal48 rfl (s48 rdn.left.left.left.left.left.left.left.left.left.left.left.left.left.left.left.left) rfl (fun vx37 Ax37 hx37 => ?_)
      obtain ⟨x38, ⟨rfl, rfl⟩⟩ := hx37
      refine Sd.ret hKx36 (Eq.trans (frc (frl rfl) rfl) (gp2 rfl (asg (asg (asg (asg (asg (asg rfl)))))))) ⟨_, rfl⟩ ?_
      refine Sd.quiet 26 _ _ rfl rfl rfl rfl rfl (QOp.ok (fun X => OpOk.as (c := false) (OpOk.neq rfl rfl) (by rw [decide_eq_true (by omega)]; rfl))) ?_
      refine Sd.quiet 27 _ _ rfl rfl rfl rfl rfl (QOp.ok (fun X => OpOk.pickF rfl rfl)) ?_
      refine Sd.quiet 28 _ _ rfl rfl rfl rfl rfl (QOp.ok (fun X => OpOk.move rfl)) ?_
      refine Sd.quiet 29 _ _ rfl rfl rfl rfl rfl (QOp.ok (fun X => OpOk.move rfl)) ?_
      refine Sd.quiet 32 _ _ rfl rfl rfl rfl rfl (QOp.ok (fun X => OpOk.move rfl)) ?_
      (refine Sd.exec 30 rfl rfl rfl rfl rfl ?hrest (by rfl) (fun Xx39 Kx39 hKx39 => ?_); case hrest => kernel_rfl)
      refine RunL.mem (fl2 (flS (flS (flS (flS (flS (flS rfl)))))) rfl) ?_
      refine RunL.call cal49 rfl (s49 (by assumption)) rfl (fun vx40 Ax40 hx40 => ?_)
      obtain rfl := hx40
      refine RunL.know (fun w s => (s.conv rfl).ownRd0) (fun rdx41 => ?_)
      refine Sd.ret hKx39 (Eq.trans rfl (gp2 (sep_emp _).symm (asg (asg (asg (asg (asg (asg (asg (asg rfl)))))))))) ⟨_, (asg rfl)⟩ ?_
      refine Sd.quiet 31 _ _ rfl rfl rfl rfl rfl (QOp.ok (fun X => OpOk.strOf rfl rfl rfl rfl (Rd.right (Rd.right rdx41)).left)) ?_
      (refine Sd.exec 33 rfl rfl rfl rfl rfl ?hrest (by rfl) (fun Xx42 Kx42 hKx42 => ?_); case hrest => kernel_rfl)
      refine RunL.mem (fl2 (flS (flS (flS (flS (flS (flS (flS (flS rfl)))))))) (sep_emp _)) ?_
      refine RunL.call cal41 rfl (s41 rd.left.left.left.left.left.left.left.left.left.left.left.left.left.left.left.left.left.left) rfl (fun vx43 Ax43 hx43 => ?_)
      obtain rfl := hx43
      refine RunL.know (fun w s => (s.conv rfl).ownRd0) (fun rdx44 => ?_)
      refine Sd.ret hKx42 (Eq.trans rfl (gp2 (sep_emp _).symm (asg (asg (asg (asg (asg (asg (asg (asg (asg rfl))))))))))) ⟨_, rfl⟩ ?_
      refine Sd.quiet 34 _ _ rfl rfl rfl rfl rfl (QOp.ok (fun X => OpOk.strOf rfl rfl rfl rfl (Rd.right (Rd.right rdx44)).left)) ?_
      refine Sd.quiet 35 _ _ rfl rfl rfl rfl rfl (QOp.ok (fun X => OpOk.neqSS rfl rfl)) ?_
      refine Sd.quiet 36 _ _ rfl rfl rfl rfl rfl (QOp.ok (fun X => OpOk.pickF rfl rfl)) ?_
      (apply Sd.tail; case hall => kernel_rfl)
      refine RunL.mem (fl2 (flS (flS (flS (flS (flS (flS (flS (flS (flS rfl))))))))) (sep_emp _)) ?_
      refine RunL.nil ?_
      refine Run.condNF rfl (by first | omega | with_reducible rfl | assumption) ?_
      refine Run.skip ?_
      refine Run.seq ?_
      refine Run.seq ?_
      refine Run.region ?_
      refine RunL.ok (OpOk.move rfl) rfl ?_
      refine RunL.ok (OpOk.asF (OpOk.lss rfl rfl) (by omega)) rfl ?_
      refine RunL.ok (OpOk.move rfl) rfl ?_
      refine RunL.on rfl rfl ?_
      refine RunL.ok (OpOk.move rfl) rfl ?_
      refine RunL.on rfl rfl ?_
      refine RunL.ok (OpOk.asT (OpOk.gtr rfl rfl) (by omega)) rfl ?_
      refine RunL.ok (OpOk.pickF rfl rfl) rfl ?_
      refine RunL.nil ?_
      refine Run.condT rfl ?_
      refine Run.seq ?_
      refine Run.region ?_
      refine RunL.ok (OpOk.move rfl) rfl ?_
      refine RunL.ok (OpOk.asT (OpOk.eql rfl rfl) (by omega)) rfl ?_
      refine RunL.ok (OpOk.move rfl) rfl ?_
      refine RunL.on rfl rfl ?_
      refine RunL.ok (OpOk.move rfl) rfl ?_
      refine RunL.on rfl rfl ?_
      refine RunL.ok (OpOk.lenV rfl rfl rfl) rfl ?_
      refine RunL.on rfl rfl ?_
      refine RunL.ok (OpOk.asT (OpOk.eql rfl rfl) (by omega)) rfl ?_
      refine RunL.ok (OpOk.pickT rfl rfl) rfl ?_
      refine RunL.ok (OpOk.assign rfl) rfl ?_
      refine RunL.nil ?_
      refine Run.ret1 Try.func10 rfl rfl ?_
      exact ⟨_, rfl, (asg (asg (asg (asg (asg (asg (asg (asg (asg (asg (asg (asg (asg (asg (asg (asg (asg as1)))))))))))))))))⟩
    · obtain ⟨S, rfl⟩ := Int.eq_ofNat_of_zero_le hs0
      have hbi : secOf (imgB bs) (3 + 2 * (S : Int)).toNat ++ secOf (imgB bs) (3 + 2 * (S : Int) + 1).toNat = ((imgB bs).drop (96 + 64 * S)).take (160 + 64 * S - (96 + 64 * S)) := by
        rw [body_is hl (s := S) (by omega), show (3 + 2 * (S : Int)).toNat = 3 + 2 * S by omega, show (3 + 2 * (S : Int) + 1).toNat = 3 + 2 * S + 1 by omega]
      refine Run.seq ?_
      refine Run.region ?_
      refine RunL.box rfl rfl (fun bx1 => ?_)
      refine RunL.ok (OpOk.assign rfl) rfl ?_
      refine RunL.nil ?_
      refine Run.seq ?_
      (apply Run.drawD [] (by rfl) (sep_emp _).symm; case hchk => kernel_rfl)
      refine Sd.quiet 0 _ _ rfl rfl rfl rfl rfl (QOp.ok (fun X => OpOk.fieldAddr fld81_0 rfl)) ?_
      refine Sd.quiet 1 _ _ rfl rfl rfl rfl rfl (QOp.ok (fun X => OpOk.load rfl rfl rfl (Blk.out Blk.pts.left.left _ _ (by first | rfl | assumption)))) ?_
      refine Sd.quiet 2 _ _ rfl rfl rfl rfl rfl (QOp.ok (fun X => OpOk.fieldAddr fld81_1 rfl)) ?_
      refine Sd.quiet 3 _ _ rfl rfl rfl rfl rfl (QOp.ok (fun X => OpOk.load rfl rfl rfl (Blk.out Blk.pts.left.left _ _ (by first | rfl | assumption)))) ?_
      refine Sd.quiet 4 _ _ rfl rfl rfl rfl rfl (QOp.ok (fun X => OpOk.fieldAddr fld81_2 rfl)) ?_
      refine Sd.quiet 5 _ _ rfl rfl rfl rfl rfl (QOp.ok (fun X => OpOk.load rfl rfl rfl (Blk.out Blk.pts.left.left _ _ (by first | rfl | assumption)))) ?_
      refine Sd.quiet 6 _ _ rfl rfl rfl rfl rfl (QOp.ok (fun X => OpOk.fieldAddr fld81_3 rfl)) ?_
      refine Sd.quiet 7 _ _ rfl rfl rfl rfl rfl (QOp.ok (fun X => OpOk.load rfl rfl rfl (Blk.out Blk.pts.left.left _ _ (by first | rfl | assumption)))) ?_
      refine Sd.quiet 8 _ _ rfl rfl rfl rfl rfl (QOp.ok (fun X => OpOk.assign rfl)) ?_
      refine Sd.quiet 9 _ _ rfl rfl rfl rfl rfl (QOp.ok (fun X => OpOk.assign rfl)) ?_
      refine Sd.quiet 10 _ _ rfl rfl rfl rfl rfl (QOp.ok (fun X => OpOk.assign rfl)) ?_
      refine Sd.quiet 11 _ _ rfl rfl rfl rfl rfl (QOp.ok (fun X => OpOk.assign rfl)) ?_
      (apply Sd.tail; case hall => kernel_rfl)
      refine RunL.mem (fl2 (sep_emp _) (sep_emp _)) ?_
      refine RunL.nil ?_
      refine Run.seq ?_
      refine Run.seq ?_
      refine Run.region ?_
      refine RunL.call cal37 rfl (s37) rfl (fun vx2 Ax2 hx2 => ?_)
      obtain ⟨x3, ⟨rfl, rfl⟩⟩ := hx2
      refine RunL.ok (OpOk.not rfl) rfl ?_
      refine RunL.nil ?_
      refine Run.condF rfl ?_
      refine Run.skip ?_
      refine Run.seq ?_
      refine Run.region ?_
      refine RunL.ok (OpOk.move rfl) rfl ?_
      refine RunL.call cal38 rfl (s38 rd.left.left) rfl (fun vx4 Ax4 hx4 => ?_)
      obtain ⟨x5, ⟨x6, ⟨rfl, rfl⟩⟩⟩ := hx4
      refine RunL.ok (OpOk.assign rfl) rfl ?_
      refine RunL.nil ?_
      refine Run.seq ?_
      refine Run.seq ?_
      refine Run.region ?_
      refine RunL.ok (OpOk.move rfl) rfl ?_
      refine RunL.ok (OpOk.eqlPN rfl rfl) rfl ?_
      refine RunL.nil ?_
      refine Run.condF rfl ?_
      refine Run.skip ?_
      refine Run.seq ?_
      refine Run.region ?_
      refine RunL.ok (OpOk.move rfl) rfl ?_
      refine RunL.call cal39 rfl (s39c (by assumption) (by assumption) (by assumption)) rfl (fun vx8 Ax8 hx8 => ?_)
      obtain ⟨x9, ⟨rfl, rfl⟩⟩ := hx8
      refine RunL.ok (OpOk.move rfl) rfl ?_
      refine RunL.ok (OpOk.ext20 rfl) rfl ?_
      refine RunL.ok (OpOk.ext21 rfl) rfl ?_
      refine RunL.alloc ti86 rfl (fun bx10 => ?_)
      refine RunL.storeAll ti86 rfl rfl rfl (ones rfl) rfl rfl ?_
      refine RunL.ok (OpOk.assign rfl) rfl ?_
      refine RunL.nil ?_
      refine Run.seq ?_
      refine Run.region ?_
      refine RunL.ok (OpOk.move rfl) rfl ?_
      refine RunL.call cal41 rfl (s41 rd.left.left.left.left.left.left) rfl (fun vx11 Ax11 hx11 => ?_)
      obtain rfl := hx11
      refine RunL.know (fun w s => (s.conv rfl).ownRd0) (fun rdx12 => ?_)
      refine RunL.call cal40 rfl (s40b (Rd.right rdx12) rfl (by assumption) (by assumption)) rfl (fun vx14 Ax14 hx14 => ?_)
      obtain ⟨x15, ⟨rfl, rfl⟩⟩ := hx14
      refine RunL.ok (OpOk.move rfl) rfl ?_
      refine RunL.ok (OpOk.ext20 rfl) rfl ?_
      refine RunL.ok (OpOk.ext21 rfl) rfl ?_
      refine RunL.alloc ti89 rfl (fun bx16 => ?_)
      refine RunL.storeAll ti89 rfl rfl rfl (ones rfl) rfl rfl ?_
      refine RunL.ok (OpOk.assign rfl) rfl ?_
      refine RunL.nil ?_
      refine Run.seq ?_
      refine Run.region ?_
      refine RunL.ok (OpOk.move rfl) rfl ?_
      refine RunL.ok (OpOk.move rfl) rfl ?_
      refine RunL.mem (frc (frl (frl (frl (frl rfl)))) rfl) ?_
      refine RunL.call cal42 rfl (s42b (by assumption) (by assumption) (by omega)) rfl (fun vx18 Ax18 hx18 => ?_)
      obtain ⟨x19, ⟨x20, ⟨rfl, rfl⟩⟩⟩ := hx18
      refine RunL.ok (OpOk.move rfl) rfl ?_
      refine RunL.ok (OpOk.ext20 rfl) rfl ?_
      refine RunL.ok (OpOk.ext21 rfl) rfl ?_
      refine RunL.ok (OpOk.assign rfl) rfl ?_
      refine RunL.ok (OpOk.assign rfl) rfl ?_
      refine RunL.nil ?_
      refine Run.seq ?_
      refine Run.seq ?_
      refine Run.know (fun w s => (s.conv (frl rfl)).ownRd0) (fun rdx21 => ?_)
      (apply Run.drawD [] (by rfl) (Eq.trans rfl rfl); case hchk => kernel_rfl)
      refine Sd.quiet 0 _ _ rfl rfl rfl rfl rfl (QOp.ok (fun X => OpOk.loadS rfl rfl ti86 rfl Blk.pts.left.left.left.left.left.left.left rfl)) ?_
      refine Sd.quiet 2 _ _ rfl rfl rfl rfl rfl (QOp.ok (fun X => OpOk.loadS rfl rfl ti89 rfl Blk.pts.left.left.left.left rfl)) ?_
      (refine Sd.exec 1 rfl rfl rfl rfl rfl ?hrest (by rfl) (fun Xx22 Kx22 hKx22 => ?_); case hrest => kernel_rfl)
      refine RunL.mem (fl2 (sep_emp _) rfl) ?_
      refine RunL.call cal44 rfl (s44 rdn.left.left.left.left.left.left.left.left.left.left.left.left (by omega)) rfl (fun vx23 Ax23 hx23 => ?_)
      obtain ⟨x24, ⟨x25, ⟨x26, ⟨rfl, rfl⟩⟩⟩⟩ := hx23
      refine RunL.know (fun w s => (s.conv rfl).ownRd0) (fun rdx27 => ?_)
      refine Sd.ret hKx22 (Eq.trans (frc (frl (frl rfl)) rfl) (gp2 rfl (asg rfl))) ⟨_, (emp_sep _).symm⟩ ?_
      (refine Sd.exec 3 rfl rfl rfl rfl rfl ?hrest (by rfl) (fun Xx28 Kx28 hKx28 => ?_); case hrest => kernel_rfl)
      refine RunL.mem (fl2 (flS rfl) rfl) ?_
      refine RunL.call cal43 rfl (s43 (Rd.right rdx27).left rdn.left.left.left.left.left.left.left.left.left.left.left.left.left.left) rfl (fun vx29 Ax29 hx29 => ?_)
      obtain ⟨x30, ⟨rfl, rfl⟩⟩ := hx29
      refine Sd.ret hKx28 (Eq.trans (frc (frl rfl) rfl) (gp2 rfl (asg (asg rfl)))) ⟨_, rfl⟩ ?_
      refine Sd.quiet 4 _ _ rfl rfl rfl rfl rfl (QOp.ok (fun X => OpOk.not rfl)) ?_
      refine Sd.quiet 5 _ _ rfl rfl rfl rfl rfl (QOp.ok (fun X => OpOk.move rfl)) ?_
      refine Sd.quiet 6 _ _ rfl rfl rfl rfl rfl (QOp.ok (fun X => OpOk.move rfl)) ?_
      refine Sd.quiet 7 _ _ rfl rfl rfl rfl rfl (QOp.ok (fun X => OpOk.move rfl)) ?_
      refine Sd.quiet 8 _ _ rfl rfl rfl rfl rfl (QOp.ok (fun X => OpOk.as (c := false) (OpOk.neq rfl rfl) (by rw [decide_eq_true (by omega)]; rfl))) ?_
      refine Sd.quiet 9 _ _ rfl rfl rfl rfl rfl (QOp.ok (fun X => OpOk.pickF rfl rfl)) ?_
      refine Sd.quiet 10 _ _ rfl rfl rfl rfl rfl (QOp.ok (fun X => OpOk.move rfl)) ?_
      refine Sd.quiet 11 _ _ rfl rfl rfl rfl rfl (QOp.ok (fun X => OpOk.loadS rfl rfl ti86 rfl Blk.pts.left.left.left.left.left.left.left rfl)) ?_
      refine Sd.quiet 12 _ _ rfl rfl rfl rfl rfl (QOp.ok (fun X => OpOk.move rfl)) ?_
      refine Sd.quiet 13 _ _ rfl rfl rfl rfl rfl (QOp.ok (fun X => OpOk.move rfl)) ?_
      refine Sd.quiet 15 _ _ rfl rfl rfl rfl rfl (QOp.ok (fun X => OpOk.loadS rfl rfl ti89 rfl Blk.pts.left.left.left.left rfl)) ?_
      refine Sd.quiet 16 _ _ rfl rfl rfl rfl rfl (QOp.ok (fun X => OpOk.move rfl)) ?_
      refine Sd.quiet 17 _ _ rfl rfl rfl rfl rfl (QOp.ok (fun X => OpOk.move rfl)) ?_
      (refine Sd.exec 14 rfl rfl rfl rfl rfl ?hrest (by rfl) (fun Xx31 Kx31 hKx31 => ?_); case hrest => kernel_rfl)
      refine RunL.mem (fl2 (flS (flS rfl)) rfl) ?_
      refine RunL.call cal45 rfl (s45 rdn.left.left.left.left.left.left.left.left.left.left.left.left.left.left.left) rfl (fun vx32 Ax32 hx32 => ?_)
      obtain ⟨x33, ⟨rfl, rfl⟩⟩ := hx32
      refine Sd.ret hKx31 (Eq.trans (frc (frl rfl) rfl) (gp2 rfl (asg (asg (asg rfl))))) ⟨_, rfl⟩ ?_
      (refine Sd.exec 18 rfl rfl rfl rfl rfl ?hrest (by rfl) (fun Xx34 Kx34 hKx34 => ?_); case hrest => kernel_rfl)
      refine RunL.mem (fl2 (flS (flS (flS rfl))) rfl) ?_
      refine RunL.call cal46 rfl (s46 rdn.left.left.left.left.left.left.left.left.left.left.left.left.left.left.left.left) rfl (fun vx35 Ax35 hx35 => ?_)
      obtain ⟨x36, ⟨rfl, rfl⟩⟩ := hx35
      refine Sd.ret hKx34 (Eq.trans (frc (frl rfl) rfl) (gp2 rfl (asg (asg (asg (asg rfl)))))) ⟨_, rfl⟩ ?_
      refine Sd.quiet 19 _ _ rfl rfl rfl rfl rfl (QOp.ok (fun X => OpOk.as (c := false) (OpOk.neq rfl rfl) (by rw [decide_eq_true (by omega)]; rfl))) ?_
      refine Sd.quiet 20 _ _ rfl rfl rfl rfl rfl (QOp.ok (fun X => OpOk.pickF rfl rfl)) ?_
      refine Sd.quiet 21 _ _ rfl rfl rfl rfl rfl (QOp.ok (fun X => OpOk.move rfl)) ?_
      refine Sd.quiet 22 _ _ rfl rfl rfl rfl rfl (QOp.ok (fun X => OpOk.loadS rfl rfl ti86 rfl Blk.pts.left.left.left.left.left.left.left rfl)) ?_
      refine Sd.quiet 24 _ _ rfl rfl rfl rfl rfl (QOp.ok (fun X => OpOk.loadS rfl rfl ti89 rfl Blk.pts.left.left.left.left rfl)) ?_
      (refine Sd.exec 23 rfl rfl rfl rfl rfl ?hrest (by rfl) (fun Xx37 Kx37 hKx37 => ?_); case hrest => kernel_rfl)
      refine RunL.mem (fl2 (flS (flS (flS (flS rfl)))) rfl) ?_
      refine RunL.call cal47 rfl (s47 rdn.left.left.left.left.left.left.left.left.left.left.left.left.left.left.left.left.left) rfl (fun vx38 Ax38 hx38 => ?_)
      obtain ⟨x39, ⟨rfl, rfl⟩⟩ := hx38
      refine Sd.ret hKx37 (Eq.trans (frc (frl rfl) rfl) (gp2 rfl (asg (asg (asg (asg (asg rfl))))))) ⟨_, rfl⟩ ?_
      (refine Sd.exec 25 rfl rfl rfl rfl rfl ?hrest (by rfl) (fun Xx40 Kx40 hKx40 => ?_); case hrest => kernel_rfl)
      refine RunL.mem (fl2 (flS (flS (flS (flS (flS rfl))))) rfl) ?_
      refine RunL.call cal48 rfl (s48 rdn.left.left.left.left.left.left.left.left.left.left.left.left.left.left.left.left.left.left) rfl (fun vx41 Ax41 hx41 => ?_)
      obtain ⟨x42, ⟨rfl, rfl⟩⟩ := hx41
      refine Sd.ret hKx40 (Eq.trans (frc (frl rfl) rfl) (gp2 rfl (asg (asg (asg (asg (asg (asg rfl)))))))) ⟨_, rfl⟩ ?_
      refine Sd.quiet 26 _ _ rfl rfl rfl rfl rfl (QOp.ok (fun X => OpOk.as (c := false) (OpOk.neq rfl rfl) (by rw [decide_eq_true (by omega)]; rfl))) ?_
      refine Sd.quiet 27 _ _ rfl rfl rfl rfl rfl (QOp.ok (fun X => OpOk.pickF rfl rfl)) ?_
      refine Sd.quiet 28 _ _ rfl rfl rfl rfl rfl (QOp.ok (fun X => OpOk.move rfl)) ?_
      refine Sd.quiet 29 _ _ rfl rfl rfl rfl rfl (QOp.ok (fun X => OpOk.move rfl)) ?_
      refine Sd.quiet 32 _ _ rfl rfl rfl rfl rfl (QOp.ok (fun X => OpOk.move rfl)) ?_
      (refine Sd.exec 30 rfl rfl rfl rfl rfl ?hrest (by rfl) (fun Xx43 Kx43 hKx43 => ?_); case hrest => kernel_rfl)
      refine RunL.mem (fl2 (flS (flS (flS (flS (flS (flS rfl)))))) rfl) ?_
      refine RunL.call cal49 rfl (s49 (by assumption)) rfl (fun vx44 Ax44 hx44 => ?_)
      obtain rfl := hx44
      refine RunL.know (fun w s => (s.conv rfl).ownRd0) (fun rdx45 => ?_)
      refine Sd.ret hKx43 (Eq.trans rfl (gp2 (sep_emp _).symm (asg (asg (asg (asg (asg (asg (asg (asg rfl)))))))))) ⟨_, (asg rfl)⟩ ?_
      refine Sd.quiet 31 _ _ rfl rfl rfl rfl rfl (QOp.ok (fun X => OpOk.strOf rfl rfl rfl rfl (Rd.right (Rd.right rdx45)).left)) ?_
      (refine Sd.exec 33 rfl rfl rfl rfl rfl ?hrest (by rfl) (fun Xx46 Kx46 hKx46 => ?_); case hrest => kernel_rfl)
      refine RunL.mem (fl2 (flS (flS (flS (flS (flS (flS (flS (flS rfl)))))))) (sep_emp _)) ?_
      refine RunL.call cal41 rfl (s41 rd.left.left.left.left.left.left.left.left.left.left.left.left.left.left.left.left.left.left.left.left) rfl (fun vx47 Ax47 hx47 => ?_)
      obtain rfl := hx47
      refine RunL.know (fun w s => (s.conv rfl).ownRd0) (fun rdx48 => ?_)
      refine Sd.ret hKx46 (Eq.trans rfl (gp2 (sep_emp _).symm (asg (asg (asg (asg (asg (asg (asg (asg (asg rfl))))))))))) ⟨_, rfl⟩ ?_
      refine Sd.quiet 34 _ _ rfl rfl rfl rfl rfl (QOp.ok (fun X => OpOk.strOf rfl rfl rfl rfl (Rd.right (Rd.right rdx48)).left)) ?_
      refine Sd.quiet 35 _ _ rfl rfl rfl rfl rfl (QOp.ok (fun X => OpOk.neqSS rfl rfl)) ?_
      refine Sd.quiet 36 _ _ rfl rfl rfl rfl rfl (QOp.ok (fun X => OpOk.pickF rfl rfl)) ?_
      (apply Sd.tail; case hall => kernel_rfl)
      refine RunL.mem (fl2 (flS (flS (flS (flS (flS (flS (flS (flS (flS rfl))))))))) (sep_emp _)) ?_
      refine RunL.nil ?_
      refine Run.condNF rfl (by first | omega | with_reducible rfl | assumption) ?_
      refine Run.skip ?_
      refine Run.seq ?_
      refine Run.seq ?_
      refine Run.region ?_
      refine RunL.ok (OpOk.move rfl) rfl ?_
      refine RunL.ok (OpOk.asF (OpOk.lss rfl rfl) (by omega)) rfl ?_
      refine RunL.ok (OpOk.move rfl) rfl ?_
      refine RunL.on rfl rfl ?_
      refine RunL.ok (OpOk.move rfl) rfl ?_
      refine RunL.on rfl rfl ?_
      refine RunL.ok (OpOk.asF (OpOk.gtr rfl rfl) (by omega)) rfl ?_
      refine RunL.ok (OpOk.pickF rfl rfl) rfl ?_
      refine RunL.nil ?_
      refine Run.condF rfl ?_
      refine Run.skip ?_
      refine Run.seq ?_
      refine Run.region ?_
      refine RunL.call cal39 rfl (s39a) rfl (fun vx49 Ax49 hx49 => ?_)
      obtain ⟨x50, ⟨rfl, rfl⟩⟩ := hx49
      refine RunL.ok (OpOk.move rfl) rfl ?_
      refine RunL.ok (OpOk.ext20 rfl) rfl ?_
      refine RunL.ok (OpOk.ext21 rfl) rfl ?_
      refine RunL.alloc ti86 rfl (fun bx51 => ?_)
      refine RunL.storeAll ti86 rfl rfl rfl (ones rfl) rfl rfl ?_
      refine RunL.ok (OpOk.assign rfl) rfl ?_
      refine RunL.nil ?_
      refine Run.seq ?_
      refine Run.drop [2] ?_
      (apply Run.drawD [] (by rfl) (sep_emp _).symm; case hchk => kernel_rfl)
      refine Sd.quiet 0 _ _ rfl rfl rfl rfl rfl (QOp.ok (fun X => OpOk.move rfl)) ?_
      refine Sd.quiet 1 _ _ rfl rfl rfl rfl rfl (QOp.ok (fun X => OpOk.asT (OpOk.eql rfl rfl) (by omega))) ?_
      refine Sd.quiet 2 _ _ rfl rfl rfl rfl rfl (QOp.ok (fun X => OpOk.move rfl)) ?_
      refine Sd.quiet 3 _ _ rfl rfl rfl rfl rfl (QOp.ok (fun X => OpOk.move rfl)) ?_
      refine Sd.quiet 4 _ _ rfl rfl rfl rfl rfl (QOp.ok (fun X => OpOk.strOf rfl rfl rfl rfl (Rd.right rdx21).left.left.left.left.left.left.left.left.left.left.left.left.left.left)) ?_
      refine Sd.quiet 5 _ _ rfl rfl rfl rfl rfl (QOp.ok (fun X => OpOk.move rfl)) ?_
      refine Sd.quiet 7 _ _ rfl rfl rfl rfl rfl (QOp.ok (fun X => OpOk.move rfl)) ?_
      refine Sd.quiet 8 _ _ rfl rfl rfl rfl rfl (QOp.ok (fun X => OpOk.mulN 64 _ rfl rfl rfl rfl (by omega))) ?_
      refine Sd.quiet 9 _ _ rfl rfl rfl rfl rfl (QOp.ok (fun X => OpOk.addN 96 _ rfl rfl rfl rfl (by omega))) ?_
      refine Sd.quiet 10 _ _ rfl rfl rfl rfl rfl (QOp.ok (fun X => OpOk.move rfl)) ?_
      refine Sd.quiet 11 _ _ rfl rfl rfl rfl rfl (QOp.ok (fun X => OpOk.mulN 64 _ rfl rfl rfl rfl (by omega))) ?_
      refine Sd.quiet 12 _ _ rfl rfl rfl rfl rfl (QOp.ok (fun X => OpOk.addN 160 _ rfl rfl rfl rfl (by omega))) ?_
      (refine Sd.exec 6 rfl rfl rfl rfl rfl ?hrest (by rfl) (fun Xx52 Kx52 hKx52 => ?_); case hrest => kernel_rfl)
      refine RunL.mem (fl2 (sep_emp _) (sep_emp _)) ?_
      refine RunL.call cal41 rfl (s41 rd.left.left.left.left.left.left.left.left.left.left.left.left.left.left.left.left.left.left.left.left.left.left.left) rfl (fun vx53 Ax53 hx53 => ?_)
      obtain rfl := hx53
      refine RunL.know (fun w s => (s.conv rfl).ownRd0) (fun rdx54 => ?_)
      refine Sd.ret hKx52 (Eq.trans rfl (gp2 (sep_emp _).symm rfl)) ⟨_, (emp_sep _).symm⟩ ?_
      refine Sd.quiet 13 _ _ rfl rfl rfl rfl rfl (QOp.ok (fun X => OpOk.cut rfl ti5 rfl (Rd.right rdx54).left ⟨_, rfl⟩ ⟨_, rfl⟩ (by omega) (by omega))) ?_
      refine Sd.quiet 14 _ _ rfl rfl rfl rfl rfl (QOp.ok (fun X => OpOk.strOf rfl rfl rfl rfl (Rd.cutB (Rd.right rdx54).left (by omega) (by omega)))) ?_
      refine Sd.quiet 15 _ _ rfl rfl rfl rfl rfl (QOp.ok (fun X => OpOk.asT (OpOk.eqlSS rfl rfl) (by omega))) ?_
      refine Sd.quiet 16 _ _ rfl rfl rfl rfl rfl (QOp.ok (fun X => OpOk.pickT rfl rfl)) ?_
      refine Sd.quiet 17 _ _ rfl rfl rfl rfl rfl (QOp.ok (fun X => OpOk.move rfl)) ?_
      refine Sd.quiet 18 _ _ rfl rfl rfl rfl rfl (QOp.ok (fun X => OpOk.move rfl)) ?_
      refine Sd.quiet 19 _ _ rfl rfl rfl rfl rfl (QOp.ok (fun X => OpOk.asT (OpOk.eql rfl rfl) (by omega))) ?_
      refine Sd.quiet 20 _ _ rfl rfl rfl rfl rfl (QOp.ok (fun X => OpOk.pickT rfl rfl)) ?_
      refine Sd.quiet 21 _ _ rfl rfl rfl rfl rfl (QOp.ok (fun X => OpOk.assign rfl)) ?_
      (apply Sd.tail; case hall => kernel_rfl)
      refine RunL.mem (fl2 rfl (sep_emp _)) ?_
      refine RunL.nil ?_
      refine Run.ret1 Try.func10 rfl rfl ?_
      exact ⟨_, rfl, (asg (asg (asg (asg (asg (asg (asg (asg (asg (asg (asg (asg (asg (asg (asg (asg (asg (asg (asg (asg (asg (asg as1))))))))))))))))))))))⟩
theorem reads_c (rd : Rd w0 A u 1 m (B bs)) (hs : sealed ((secOf (imgB bs) 0).take 30) = secOf (imgB bs) 0) (hf : faceOk (secOf (imgB bs) 0)) (hb : (bestF (imgB bs) 2).2.1 = 0) :
    Spec Try.prog w0 10 [.agg #[u, .int .i64 o, .int .i64 i, .int .i64 s]] A (fun v' A' => ∃ J, v' = .bool true ∧ A' = A * J) := by
  have hs2 : sealed ((secOf (imgB bs) 0).take (32 - 2)) = secOf (imgB bs) 0 := hs
  have hl := imgB_len bs
  have rdn : Rd w0 A (.slice none 0 0) 4 0 (Fl encT111 ([] : List En)) := Rd.nil 4
  refine Spec.of_run [(0, .agg #[u, .int .i64 o, .int .i64 i, .int .i64 s])] Try.func10 rfl (Nat.le_of_ble_eq_true rfl) (by repeat (first | exact trivial | refine ⟨rfl, ?_⟩)) ?_
  rcases Int.lt_or_le s 0 with hs0 | hs0
  · refine Run.seq ?_
    refine Run.region ?_
    refine RunL.box rfl rfl (fun bx1 => ?_)
    refine RunL.ok (OpOk.assign rfl) rfl ?_
    refine RunL.nil ?_
    refine Run.seq ?_
    (apply Run.drawD [] (by rfl) (sep_emp _).symm; case hchk => kernel_rfl)
    refine Sd.quiet 0 _ _ rfl rfl rfl rfl rfl (QOp.ok (fun X => OpOk.fieldAddr fld81_0 rfl)) ?_
    refine Sd.quiet 1 _ _ rfl rfl rfl rfl rfl (QOp.ok (fun X => OpOk.load rfl rfl rfl (Blk.out Blk.pts.left.left _ _ (by first | rfl | assumption)))) ?_
    refine Sd.quiet 2 _ _ rfl rfl rfl rfl rfl (QOp.ok (fun X => OpOk.fieldAddr fld81_1 rfl)) ?_
    refine Sd.quiet 3 _ _ rfl rfl rfl rfl rfl (QOp.ok (fun X => OpOk.load rfl rfl rfl (Blk.out Blk.pts.left.left _ _ (by first | rfl | assumption)))) ?_
    refine Sd.quiet 4 _ _ rfl rfl rfl rfl rfl (QOp.ok (fun X => OpOk.fieldAddr fld81_2 rfl)) ?_
    refine Sd.quiet 5 _ _ rfl rfl rfl rfl rfl (QOp.ok (fun X => OpOk.load rfl rfl rfl (Blk.out Blk.pts.left.left _ _ (by first | rfl | assumption)))) ?_
    refine Sd.quiet 6 _ _ rfl rfl rfl rfl rfl (QOp.ok (fun X => OpOk.fieldAddr fld81_3 rfl)) ?_
    refine Sd.quiet 7 _ _ rfl rfl rfl rfl rfl (QOp.ok (fun X => OpOk.load rfl rfl rfl (Blk.out Blk.pts.left.left _ _ (by first | rfl | assumption)))) ?_
    refine Sd.quiet 8 _ _ rfl rfl rfl rfl rfl (QOp.ok (fun X => OpOk.assign rfl)) ?_
    refine Sd.quiet 9 _ _ rfl rfl rfl rfl rfl (QOp.ok (fun X => OpOk.assign rfl)) ?_
    refine Sd.quiet 10 _ _ rfl rfl rfl rfl rfl (QOp.ok (fun X => OpOk.assign rfl)) ?_
    refine Sd.quiet 11 _ _ rfl rfl rfl rfl rfl (QOp.ok (fun X => OpOk.assign rfl)) ?_
    (apply Sd.tail; case hall => kernel_rfl)
    refine RunL.mem (fl2 (sep_emp _) (sep_emp _)) ?_
    refine RunL.nil ?_
    refine Run.seq ?_
    refine Run.seq ?_
    refine Run.region ?_
    refine RunL.call cal37 rfl (s37) rfl (fun vx2 Ax2 hx2 => ?_)
    obtain ⟨x3, ⟨rfl, rfl⟩⟩ := hx2
    refine RunL.ok (OpOk.not rfl) rfl ?_
    refine RunL.nil ?_
    refine Run.condF rfl ?_
    refine Run.skip ?_
    refine Run.seq ?_
    refine Run.region ?_
    refine RunL.ok (OpOk.move rfl) rfl ?_
    refine RunL.call cal38 rfl (s38 rd.left.left) rfl (fun vx4 Ax4 hx4 => ?_)
    obtain ⟨x5, ⟨x6, ⟨rfl, rfl⟩⟩⟩ := hx4
    refine RunL.ok (OpOk.assign rfl) rfl ?_
    refine RunL.nil ?_
    refine Run.seq ?_
    refine Run.seq ?_
    refine Run.region ?_
    refine RunL.ok (OpOk.move rfl) rfl ?_
    refine RunL.ok (OpOk.eqlPN rfl rfl) rfl ?_
    refine RunL.nil ?_
    refine Run.condF rfl ?_
    refine Run.skip ?_
    refine Run.seq ?_
    refine Run.region ?_
    refine RunL.ok (OpOk.move rfl) rfl ?_
    refine RunL.call cal39 rfl (s39d (by assumption) (by assumption) (by assumption) (by assumption)) rfl (fun vx9 Ax9 hx9 => ?_)
    obtain ⟨x10, ⟨rfl, rfl⟩⟩ := hx9
    refine RunL.ok (OpOk.move rfl) rfl ?_
    refine RunL.ok (OpOk.ext20 rfl) rfl ?_
    refine RunL.ok (OpOk.ext21 rfl) rfl ?_
    refine RunL.alloc ti86 rfl (fun bx11 => ?_)
    refine RunL.storeAll ti86 rfl rfl rfl (ones rfl) rfl rfl ?_
    refine RunL.ok (OpOk.assign rfl) rfl ?_
    refine RunL.nil ?_
    refine Run.seq ?_
    refine Run.region ?_
    refine RunL.ok (OpOk.move rfl) rfl ?_
    refine RunL.call cal41 rfl (s41 rd.left.left.left.left.left.left) rfl (fun vx12 Ax12 hx12 => ?_)
    obtain rfl := hx12
    refine RunL.know (fun w s => (s.conv rfl).ownRd0) (fun rdx13 => ?_)
    refine RunL.call cal40 rfl (s40c (Rd.right rdx13) rfl (by assumption) (by assumption) (by assumption)) rfl (fun vx16 Ax16 hx16 => ?_)
    obtain ⟨x17, ⟨rfl, rfl⟩⟩ := hx16
    refine RunL.ok (OpOk.move rfl) rfl ?_
    refine RunL.ok (OpOk.ext20 rfl) rfl ?_
    refine RunL.ok (OpOk.ext21 rfl) rfl ?_
    refine RunL.alloc ti89 rfl (fun bx18 => ?_)
    refine RunL.storeAll ti89 rfl rfl rfl (ones rfl) rfl rfl ?_
    refine RunL.ok (OpOk.assign rfl) rfl ?_
    refine RunL.nil ?_
    refine Run.seq ?_
    refine Run.region ?_
    refine RunL.ok (OpOk.move rfl) rfl ?_
    refine RunL.ok (OpOk.move rfl) rfl ?_
    refine RunL.mem (frc (frl (frl (frl (frl rfl)))) rfl) ?_
    refine RunL.call cal42 rfl (s42a (by omega)) rfl (fun vx19 Ax19 hx19 => ?_)
    obtain ⟨rfl, rfl⟩ := hx19
    refine RunL.ok (OpOk.move rfl) rfl ?_
    refine RunL.ok (OpOk.ext20 rfl) rfl ?_
    refine RunL.ok (OpOk.ext21 rfl) rfl ?_
    refine RunL.ok (OpOk.assign rfl) rfl ?_
    refine RunL.ok (OpOk.assign rfl) rfl ?_
    refine RunL.nil ?_
    refine Run.seq ?_
    refine Run.seq ?_
    (apply Run.drawD [] (by rfl) (Eq.trans rfl rfl); case hchk => kernel_rfl)
    refine Sd.quiet 0 _ _ rfl rfl rfl rfl rfl (QOp.ok (fun X => OpOk.loadS rfl rfl ti86 rfl Blk.pts.left.left.left.left.left rfl)) ?_
    refine Sd.quiet 2 _ _ rfl rfl rfl rfl rfl (QOp.ok (fun X => OpOk.loadS rfl rfl ti89 rfl Blk.pts.left.left rfl)) ?_
    (refine Sd.exec 1 rfl rfl rfl rfl rfl ?hrest (by rfl) (fun Xx20 Kx20 hKx20 => ?_); case hrest => kernel_rfl)
    refine RunL.mem (fl2 (sep_emp _) rfl) ?_
    refine RunL.call cal44 rfl (s44 rdn.left.left.left.left.left.left.left.left.left.left (by omega)) rfl (fun vx21 Ax21 hx21 => ?_)
    obtain ⟨x22, ⟨x23, ⟨x24, ⟨rfl, rfl⟩⟩⟩⟩ := hx21
    refine RunL.know (fun w s => (s.conv rfl).ownRd0) (fun rdx25 => ?_)
    refine Sd.ret hKx20 (Eq.trans (frc (frl (frl rfl)) rfl) (gp2 rfl (asg rfl))) ⟨_, (emp_sep _).symm⟩ ?_
    (refine Sd.exec 3 rfl rfl rfl rfl rfl ?hrest (by rfl) (fun Xx26 Kx26 hKx26 => ?_); case hrest => kernel_rfl)
    refine RunL.mem (fl2 (flS rfl) rfl) ?_
    refine RunL.call cal43 rfl (s43 (Rd.right rdx25).left rdn.left.left.left.left.left.left.left.left.left.left.left.left) rfl (fun vx27 Ax27 hx27 => ?_)
    obtain ⟨x28, ⟨rfl, rfl⟩⟩ := hx27
    refine Sd.ret hKx26 (Eq.trans (frc (frl rfl) rfl) (gp2 rfl (asg (asg rfl)))) ⟨_, rfl⟩ ?_
    refine Sd.quiet 4 _ _ rfl rfl rfl rfl rfl (QOp.ok (fun X => OpOk.not rfl)) ?_
    refine Sd.quiet 5 _ _ rfl rfl rfl rfl rfl (QOp.ok (fun X => OpOk.move rfl)) ?_
    refine Sd.quiet 6 _ _ rfl rfl rfl rfl rfl (QOp.ok (fun X => OpOk.move rfl)) ?_
    refine Sd.quiet 7 _ _ rfl rfl rfl rfl rfl (QOp.ok (fun X => OpOk.move rfl)) ?_
    refine Sd.quiet 8 _ _ rfl rfl rfl rfl rfl (QOp.ok (fun X => OpOk.as (c := false) (OpOk.neq rfl rfl) (by rw [decide_eq_true (by omega)]; rfl))) ?_
    refine Sd.quiet 9 _ _ rfl rfl rfl rfl rfl (QOp.ok (fun X => OpOk.pickF rfl rfl)) ?_
    refine Sd.quiet 10 _ _ rfl rfl rfl rfl rfl (QOp.ok (fun X => OpOk.move rfl)) ?_
    refine Sd.quiet 11 _ _ rfl rfl rfl rfl rfl (QOp.ok (fun X => OpOk.loadS rfl rfl ti86 rfl Blk.pts.left.left.left.left.left rfl)) ?_
    refine Sd.quiet 12 _ _ rfl rfl rfl rfl rfl (QOp.ok (fun X => OpOk.move rfl)) ?_
    refine Sd.quiet 13 _ _ rfl rfl rfl rfl rfl (QOp.ok (fun X => OpOk.move rfl)) ?_
    refine Sd.quiet 15 _ _ rfl rfl rfl rfl rfl (QOp.ok (fun X => OpOk.loadS rfl rfl ti89 rfl Blk.pts.left.left rfl)) ?_
    refine Sd.quiet 16 _ _ rfl rfl rfl rfl rfl (QOp.ok (fun X => OpOk.move rfl)) ?_
    refine Sd.quiet 17 _ _ rfl rfl rfl rfl rfl (QOp.ok (fun X => OpOk.move rfl)) ?_
    (refine Sd.exec 14 rfl rfl rfl rfl rfl ?hrest (by rfl) (fun Xx29 Kx29 hKx29 => ?_); case hrest => kernel_rfl)
    refine RunL.mem (fl2 (flS (flS rfl)) rfl) ?_
    refine RunL.call cal45 rfl (s45 rdn.left.left.left.left.left.left.left.left.left.left.left.left.left) rfl (fun vx30 Ax30 hx30 => ?_)
    obtain ⟨x31, ⟨rfl, rfl⟩⟩ := hx30
    refine Sd.ret hKx29 (Eq.trans (frc (frl rfl) rfl) (gp2 rfl (asg (asg (asg rfl))))) ⟨_, rfl⟩ ?_
    (refine Sd.exec 18 rfl rfl rfl rfl rfl ?hrest (by rfl) (fun Xx32 Kx32 hKx32 => ?_); case hrest => kernel_rfl)
    refine RunL.mem (fl2 (flS (flS (flS rfl))) rfl) ?_
    refine RunL.call cal46 rfl (s46 rdn.left.left.left.left.left.left.left.left.left.left.left.left.left.left) rfl (fun vx33 Ax33 hx33 => ?_)
    obtain ⟨x34, ⟨rfl, rfl⟩⟩ := hx33
    refine Sd.ret hKx32 (Eq.trans (frc (frl rfl) rfl) (gp2 rfl (asg (asg (asg (asg rfl)))))) ⟨_, rfl⟩ ?_
    refine Sd.quiet 19 _ _ rfl rfl rfl rfl rfl (QOp.ok (fun X => OpOk.as (c := false) (OpOk.neq rfl rfl) (by rw [decide_eq_true (by omega)]; rfl))) ?_
    refine Sd.quiet 20 _ _ rfl rfl rfl rfl rfl (QOp.ok (fun X => OpOk.pickF rfl rfl)) ?_
    refine Sd.quiet 21 _ _ rfl rfl rfl rfl rfl (QOp.ok (fun X => OpOk.move rfl)) ?_
    refine Sd.quiet 22 _ _ rfl rfl rfl rfl rfl (QOp.ok (fun X => OpOk.loadS rfl rfl ti86 rfl Blk.pts.left.left.left.left.left rfl)) ?_
    refine Sd.quiet 24 _ _ rfl rfl rfl rfl rfl (QOp.ok (fun X => OpOk.loadS rfl rfl ti89 rfl Blk.pts.left.left rfl)) ?_
    (refine Sd.exec 23 rfl rfl rfl rfl rfl ?hrest (by rfl) (fun Xx35 Kx35 hKx35 => ?_); case hrest => kernel_rfl)
    refine RunL.mem (fl2 (flS (flS (flS (flS rfl)))) rfl) ?_
    refine RunL.call cal47 rfl (s47 rdn.left.left.left.left.left.left.left.left.left.left.left.left.left.left.left) rfl (fun vx36 Ax36 hx36 => ?_)
    obtain ⟨x37, ⟨rfl, rfl⟩⟩ := hx36
    refine Sd.ret hKx35 (Eq.trans (frc (frl rfl) rfl) (gp2 rfl (asg (asg (asg (asg (asg rfl))))))) ⟨_, rfl⟩ ?_
    (refine Sd.exec 25 rfl rfl rfl rfl rfl ?hrest (by rfl) (fun Xx38 Kx38 hKx38 => ?_); case hrest => kernel_rfl)
    refine RunL.mem (fl2 (flS (flS (flS (flS (flS rfl))))) rfl) ?_
    refine RunL.call cal48 rfl (s48 rdn.left.left.left.left.left.left.left.left.left.left.left.left.left.left.left.left) rfl (fun vx39 Ax39 hx39 => ?_)
    obtain ⟨x40, ⟨rfl, rfl⟩⟩ := hx39
    refine Sd.ret hKx38 (Eq.trans (frc (frl rfl) rfl) (gp2 rfl (asg (asg (asg (asg (asg (asg rfl)))))))) ⟨_, rfl⟩ ?_
    refine Sd.quiet 26 _ _ rfl rfl rfl rfl rfl (QOp.ok (fun X => OpOk.as (c := false) (OpOk.neq rfl rfl) (by rw [decide_eq_true (by omega)]; rfl))) ?_
    refine Sd.quiet 27 _ _ rfl rfl rfl rfl rfl (QOp.ok (fun X => OpOk.pickF rfl rfl)) ?_
    refine Sd.quiet 28 _ _ rfl rfl rfl rfl rfl (QOp.ok (fun X => OpOk.move rfl)) ?_
    refine Sd.quiet 29 _ _ rfl rfl rfl rfl rfl (QOp.ok (fun X => OpOk.move rfl)) ?_
    refine Sd.quiet 32 _ _ rfl rfl rfl rfl rfl (QOp.ok (fun X => OpOk.move rfl)) ?_
    (refine Sd.exec 30 rfl rfl rfl rfl rfl ?hrest (by rfl) (fun Xx41 Kx41 hKx41 => ?_); case hrest => kernel_rfl)
    refine RunL.mem (fl2 (flS (flS (flS (flS (flS (flS rfl)))))) rfl) ?_
    refine RunL.call cal49 rfl (s49 (by assumption)) rfl (fun vx42 Ax42 hx42 => ?_)
    obtain rfl := hx42
    refine RunL.know (fun w s => (s.conv rfl).ownRd0) (fun rdx43 => ?_)
    refine Sd.ret hKx41 (Eq.trans rfl (gp2 (sep_emp _).symm (asg (asg (asg (asg (asg (asg (asg (asg rfl)))))))))) ⟨_, (asg rfl)⟩ ?_
    refine Sd.quiet 31 _ _ rfl rfl rfl rfl rfl (QOp.ok (fun X => OpOk.strOf rfl rfl rfl rfl (Rd.right (Rd.right rdx43)).left)) ?_
    (refine Sd.exec 33 rfl rfl rfl rfl rfl ?hrest (by rfl) (fun Xx44 Kx44 hKx44 => ?_); case hrest => kernel_rfl)
    refine RunL.mem (fl2 (flS (flS (flS (flS (flS (flS (flS (flS rfl)))))))) (sep_emp _)) ?_
    refine RunL.call cal41 rfl (s41 rd.left.left.left.left.left.left.left.left.left.left.left.left.left.left.left.left.left.left) rfl (fun vx45 Ax45 hx45 => ?_)
    obtain rfl := hx45
    refine RunL.know (fun w s => (s.conv rfl).ownRd0) (fun rdx46 => ?_)
    refine Sd.ret hKx44 (Eq.trans rfl (gp2 (sep_emp _).symm (asg (asg (asg (asg (asg (asg (asg (asg (asg rfl))))))))))) ⟨_, rfl⟩ ?_
    refine Sd.quiet 34 _ _ rfl rfl rfl rfl rfl (QOp.ok (fun X => OpOk.strOf rfl rfl rfl rfl (Rd.right (Rd.right rdx46)).left)) ?_
    refine Sd.quiet 35 _ _ rfl rfl rfl rfl rfl (QOp.ok (fun X => OpOk.neqSS rfl rfl)) ?_
    refine Sd.quiet 36 _ _ rfl rfl rfl rfl rfl (QOp.ok (fun X => OpOk.pickF rfl rfl)) ?_
    (apply Sd.tail; case hall => kernel_rfl)
    refine RunL.mem (fl2 (flS (flS (flS (flS (flS (flS (flS (flS (flS rfl))))))))) (sep_emp _)) ?_
    refine RunL.nil ?_
    refine Run.condNF rfl (by first | omega | with_reducible rfl | assumption) ?_
    refine Run.skip ?_
    refine Run.seq ?_
    refine Run.seq ?_
    refine Run.region ?_
    refine RunL.ok (OpOk.move rfl) rfl ?_
    refine RunL.ok (OpOk.asT (OpOk.lss rfl rfl) (by omega)) rfl ?_
    refine RunL.ok (OpOk.move rfl) rfl ?_
    refine RunL.off rfl rfl rfl rfl ?_
    refine RunL.off rfl rfl rfl rfl ?_
    refine RunL.ok (OpOk.pickT rfl rfl) rfl ?_
    refine RunL.nil ?_
    refine Run.condT rfl ?_
    refine Run.seq ?_
    refine Run.region ?_
    refine RunL.ok (OpOk.move rfl) rfl ?_
    refine RunL.ok (OpOk.asT (OpOk.eql rfl rfl) (by omega)) rfl ?_
    refine RunL.ok (OpOk.move rfl) rfl ?_
    refine RunL.on rfl rfl ?_
    refine RunL.ok (OpOk.move rfl) rfl ?_
    refine RunL.on rfl rfl ?_
    refine RunL.ok (OpOk.lenV rfl rfl rfl) rfl ?_
    refine RunL.on rfl rfl ?_
    refine RunL.ok (OpOk.asT (OpOk.eql rfl rfl) (by omega)) rfl ?_
    refine RunL.ok (OpOk.pickT rfl rfl) rfl ?_
    refine RunL.ok (OpOk.assign rfl) rfl ?_
    refine RunL.nil ?_
    refine Run.ret1 Try.func10 rfl rfl ?_
    exact ⟨_, rfl, (asg (asg (asg (asg (asg (asg (asg (asg (asg (asg (asg (asg (asg (asg (asg (asg (asg as1)))))))))))))))))⟩
  · rcases Int.lt_or_le 5 s with hs5 | hs5
    · refine Run.seq ?_
      refine Run.region ?_
      refine RunL.box rfl rfl (fun bx1 => ?_)
      refine RunL.ok (OpOk.assign rfl) rfl ?_
      refine RunL.nil ?_
      refine Run.seq ?_
      (apply Run.drawD [] (by rfl) (sep_emp _).symm; case hchk => kernel_rfl)
      refine Sd.quiet 0 _ _ rfl rfl rfl rfl rfl (QOp.ok (fun X => OpOk.fieldAddr fld81_0 rfl)) ?_
      refine Sd.quiet 1 _ _ rfl rfl rfl rfl rfl (QOp.ok (fun X => OpOk.load rfl rfl rfl (Blk.out Blk.pts.left.left _ _ (by first | rfl | assumption)))) ?_
      refine Sd.quiet 2 _ _ rfl rfl rfl rfl rfl (QOp.ok (fun X => OpOk.fieldAddr fld81_1 rfl)) ?_
      refine Sd.quiet 3 _ _ rfl rfl rfl rfl rfl (QOp.ok (fun X => OpOk.load rfl rfl rfl (Blk.out Blk.pts.left.left _ _ (by first | rfl | assumption)))) ?_
      refine Sd.quiet 4 _ _ rfl rfl rfl rfl rfl (QOp.ok (fun X => OpOk.fieldAddr fld81_2 rfl)) ?_
      refine Sd.quiet 5 _ _ rfl rfl rfl rfl rfl (QOp.ok (fun X => OpOk.load rfl rfl rfl (Blk.out Blk.pts.left.left _ _ (by first | rfl | assumption)))) ?_
      refine Sd.quiet 6 _ _ rfl rfl rfl rfl rfl (QOp.ok (fun X => OpOk.fieldAddr fld81_3 rfl)) ?_
      refine Sd.quiet 7 _ _ rfl rfl rfl rfl rfl (QOp.ok (fun X => OpOk.load rfl rfl rfl (Blk.out Blk.pts.left.left _ _ (by first | rfl | assumption)))) ?_
      refine Sd.quiet 8 _ _ rfl rfl rfl rfl rfl (QOp.ok (fun X => OpOk.assign rfl)) ?_
      refine Sd.quiet 9 _ _ rfl rfl rfl rfl rfl (QOp.ok (fun X => OpOk.assign rfl)) ?_
      refine Sd.quiet 10 _ _ rfl rfl rfl rfl rfl (QOp.ok (fun X => OpOk.assign rfl)) ?_
      refine Sd.quiet 11 _ _ rfl rfl rfl rfl rfl (QOp.ok (fun X => OpOk.assign rfl)) ?_
      (apply Sd.tail; case hall => kernel_rfl)
      refine RunL.mem (fl2 (sep_emp _) (sep_emp _)) ?_
      refine RunL.nil ?_
      refine Run.seq ?_
      refine Run.seq ?_
      refine Run.region ?_
      refine RunL.call cal37 rfl (s37) rfl (fun vx2 Ax2 hx2 => ?_)
      obtain ⟨x3, ⟨rfl, rfl⟩⟩ := hx2
      refine RunL.ok (OpOk.not rfl) rfl ?_
      refine RunL.nil ?_
      refine Run.condF rfl ?_
      refine Run.skip ?_
      refine Run.seq ?_
      refine Run.region ?_
      refine RunL.ok (OpOk.move rfl) rfl ?_
      refine RunL.call cal38 rfl (s38 rd.left.left) rfl (fun vx4 Ax4 hx4 => ?_)
      obtain ⟨x5, ⟨x6, ⟨rfl, rfl⟩⟩⟩ := hx4
      refine RunL.ok (OpOk.assign rfl) rfl ?_
      refine RunL.nil ?_
      refine Run.seq ?_
      refine Run.seq ?_
      refine Run.region ?_
      refine RunL.ok (OpOk.move rfl) rfl ?_
      refine RunL.ok (OpOk.eqlPN rfl rfl) rfl ?_
      refine RunL.nil ?_
      refine Run.condF rfl ?_
      refine Run.skip ?_
      refine Run.seq ?_
      refine Run.region ?_
      refine RunL.ok (OpOk.move rfl) rfl ?_
      refine RunL.call cal39 rfl (s39d (by assumption) (by assumption) (by assumption) (by assumption)) rfl (fun vx9 Ax9 hx9 => ?_)
      obtain ⟨x10, ⟨rfl, rfl⟩⟩ := hx9
      refine RunL.ok (OpOk.move rfl) rfl ?_
      refine RunL.ok (OpOk.ext20 rfl) rfl ?_
      refine RunL.ok (OpOk.ext21 rfl) rfl ?_
      refine RunL.alloc ti86 rfl (fun bx11 => ?_)
      refine RunL.storeAll ti86 rfl rfl rfl (ones rfl) rfl rfl ?_
      refine RunL.ok (OpOk.assign rfl) rfl ?_
      refine RunL.nil ?_
      refine Run.seq ?_
      refine Run.region ?_
      refine RunL.ok (OpOk.move rfl) rfl ?_
      refine RunL.call cal41 rfl (s41 rd.left.left.left.left.left.left) rfl (fun vx12 Ax12 hx12 => ?_)
      obtain rfl := hx12
      refine RunL.know (fun w s => (s.conv rfl).ownRd0) (fun rdx13 => ?_)
      refine RunL.call cal40 rfl (s40c (Rd.right rdx13) rfl (by assumption) (by assumption) (by assumption)) rfl (fun vx16 Ax16 hx16 => ?_)
      obtain ⟨x17, ⟨rfl, rfl⟩⟩ := hx16
      refine RunL.ok (OpOk.move rfl) rfl ?_
      refine RunL.ok (OpOk.ext20 rfl) rfl ?_
      refine RunL.ok (OpOk.ext21 rfl) rfl ?_
      refine RunL.alloc ti89 rfl (fun bx18 => ?_)
      refine RunL.storeAll ti89 rfl rfl rfl (ones rfl) rfl rfl ?_
      refine RunL.ok (OpOk.assign rfl) rfl ?_
      refine RunL.nil ?_
      refine Run.seq ?_
      refine Run.region ?_
      refine RunL.ok (OpOk.move rfl) rfl ?_
      refine RunL.ok (OpOk.move rfl) rfl ?_
      refine RunL.mem (frc (frl (frl (frl (frl rfl)))) rfl) ?_
      refine RunL.call cal42 rfl (s42a (by omega)) rfl (fun vx19 Ax19 hx19 => ?_)
      obtain ⟨rfl, rfl⟩ := hx19
      refine RunL.ok (OpOk.move rfl) rfl ?_
      refine RunL.ok (OpOk.ext20 rfl) rfl ?_
      refine RunL.ok (OpOk.ext21 rfl) rfl ?_
      refine RunL.ok (OpOk.assign rfl) rfl ?_
      refine RunL.ok (OpOk.assign rfl) rfl ?_
      refine RunL.nil ?_
      refine Run.seq ?_
      refine Run.seq ?_
      (apply Run.drawD [] (by rfl) (Eq.trans rfl rfl); case hchk => kernel_rfl)
      refine Sd.quiet 0 _ _ rfl rfl rfl rfl rfl (QOp.ok (fun X => OpOk.loadS rfl rfl ti86 rfl Blk.pts.left.left.left.left.left rfl)) ?_
      refine Sd.quiet 2 _ _ rfl rfl rfl rfl rfl (QOp.ok (fun X => OpOk.loadS rfl rfl ti89 rfl Blk.pts.left.left rfl)) ?_
      (refine Sd.exec 1 rfl rfl rfl rfl rfl ?hrest (by rfl) (fun Xx20 Kx20 hKx20 => ?_); case hrest => kernel_rfl)
      refine RunL.mem (fl2 (sep_emp _) rfl) ?_
      refine RunL.call cal44 rfl (s44 rdn.left.left.left.left.left.left.left.left.left.left (by omega)) rfl (fun vx21 Ax21 hx21 => ?_)
      obtain ⟨x22, ⟨x23, ⟨x24, ⟨rfl, rfl⟩⟩⟩⟩ := hx21
      refine RunL.know (fun w s => (s.conv rfl).ownRd0) (fun rdx25 => ?_)
      refine Sd.ret hKx20 (Eq.trans (frc (frl (frl rfl)) rfl) (gp2 rfl (asg rfl))) ⟨_, (emp_sep _).symm⟩ ?_
      (refine Sd.exec 3 rfl rfl rfl rfl rfl ?hrest (by rfl) (fun Xx26 Kx26 hKx26 => ?_); case hrest => kernel_rfl)
      refine RunL.mem (fl2 (flS rfl) rfl) ?_
      refine RunL.call cal43 rfl (s43 (Rd.right rdx25).left rdn.left.left.left.left.left.left.left.left.left.left.left.left) rfl (fun vx27 Ax27 hx27 => ?_)
      obtain ⟨x28, ⟨rfl, rfl⟩⟩ := hx27
      refine Sd.ret hKx26 (Eq.trans (frc (frl rfl) rfl) (gp2 rfl (asg (asg rfl)))) ⟨_, rfl⟩ ?_
      refine Sd.quiet 4 _ _ rfl rfl rfl rfl rfl (QOp.ok (fun X => OpOk.not rfl)) ?_
      refine Sd.quiet 5 _ _ rfl rfl rfl rfl rfl (QOp.ok (fun X => OpOk.move rfl)) ?_
      refine Sd.quiet 6 _ _ rfl rfl rfl rfl rfl (QOp.ok (fun X => OpOk.move rfl)) ?_
      refine Sd.quiet 7 _ _ rfl rfl rfl rfl rfl (QOp.ok (fun X => OpOk.move rfl)) ?_
      refine Sd.quiet 8 _ _ rfl rfl rfl rfl rfl (QOp.ok (fun X => OpOk.as (c := false) (OpOk.neq rfl rfl) (by rw [decide_eq_true (by omega)]; rfl))) ?_
      refine Sd.quiet 9 _ _ rfl rfl rfl rfl rfl (QOp.ok (fun X => OpOk.pickF rfl rfl)) ?_
      refine Sd.quiet 10 _ _ rfl rfl rfl rfl rfl (QOp.ok (fun X => OpOk.move rfl)) ?_
      refine Sd.quiet 11 _ _ rfl rfl rfl rfl rfl (QOp.ok (fun X => OpOk.loadS rfl rfl ti86 rfl Blk.pts.left.left.left.left.left rfl)) ?_
      refine Sd.quiet 12 _ _ rfl rfl rfl rfl rfl (QOp.ok (fun X => OpOk.move rfl)) ?_
      refine Sd.quiet 13 _ _ rfl rfl rfl rfl rfl (QOp.ok (fun X => OpOk.move rfl)) ?_
      refine Sd.quiet 15 _ _ rfl rfl rfl rfl rfl (QOp.ok (fun X => OpOk.loadS rfl rfl ti89 rfl Blk.pts.left.left rfl)) ?_
      refine Sd.quiet 16 _ _ rfl rfl rfl rfl rfl (QOp.ok (fun X => OpOk.move rfl)) ?_
      refine Sd.quiet 17 _ _ rfl rfl rfl rfl rfl (QOp.ok (fun X => OpOk.move rfl)) ?_
      (refine Sd.exec 14 rfl rfl rfl rfl rfl ?hrest (by rfl) (fun Xx29 Kx29 hKx29 => ?_); case hrest => kernel_rfl)
      refine RunL.mem (fl2 (flS (flS rfl)) rfl) ?_
      refine RunL.call cal45 rfl (s45 rdn.left.left.left.left.left.left.left.left.left.left.left.left.left) rfl (fun vx30 Ax30 hx30 => ?_)
      obtain ⟨x31, ⟨rfl, rfl⟩⟩ := hx30
      refine Sd.ret hKx29 (Eq.trans (frc (frl rfl) rfl) (gp2 rfl (asg (asg (asg rfl))))) ⟨_, rfl⟩ ?_
      (refine Sd.exec 18 rfl rfl rfl rfl rfl ?hrest (by rfl) (fun Xx32 Kx32 hKx32 => ?_); case hrest => kernel_rfl)
      refine RunL.mem (fl2 (flS (flS (flS rfl))) rfl) ?_
      refine RunL.call cal46 rfl (s46 rdn.left.left.left.left.left.left.left.left.left.left.left.left.left.left) rfl (fun vx33 Ax33 hx33 => ?_)
      obtain ⟨x34, ⟨rfl, rfl⟩⟩ := hx33
      refine Sd.ret hKx32 (Eq.trans (frc (frl rfl) rfl) (gp2 rfl (asg (asg (asg (asg rfl)))))) ⟨_, rfl⟩ ?_
      refine Sd.quiet 19 _ _ rfl rfl rfl rfl rfl (QOp.ok (fun X => OpOk.as (c := false) (OpOk.neq rfl rfl) (by rw [decide_eq_true (by omega)]; rfl))) ?_
      refine Sd.quiet 20 _ _ rfl rfl rfl rfl rfl (QOp.ok (fun X => OpOk.pickF rfl rfl)) ?_
      refine Sd.quiet 21 _ _ rfl rfl rfl rfl rfl (QOp.ok (fun X => OpOk.move rfl)) ?_
      refine Sd.quiet 22 _ _ rfl rfl rfl rfl rfl (QOp.ok (fun X => OpOk.loadS rfl rfl ti86 rfl Blk.pts.left.left.left.left.left rfl)) ?_
      refine Sd.quiet 24 _ _ rfl rfl rfl rfl rfl (QOp.ok (fun X => OpOk.loadS rfl rfl ti89 rfl Blk.pts.left.left rfl)) ?_
      (refine Sd.exec 23 rfl rfl rfl rfl rfl ?hrest (by rfl) (fun Xx35 Kx35 hKx35 => ?_); case hrest => kernel_rfl)
      refine RunL.mem (fl2 (flS (flS (flS (flS rfl)))) rfl) ?_
      refine RunL.call cal47 rfl (s47 rdn.left.left.left.left.left.left.left.left.left.left.left.left.left.left.left) rfl (fun vx36 Ax36 hx36 => ?_)
      obtain ⟨x37, ⟨rfl, rfl⟩⟩ := hx36
      refine Sd.ret hKx35 (Eq.trans (frc (frl rfl) rfl) (gp2 rfl (asg (asg (asg (asg (asg rfl))))))) ⟨_, rfl⟩ ?_
      (refine Sd.exec 25 rfl rfl rfl rfl rfl ?hrest (by rfl) (fun Xx38 Kx38 hKx38 => ?_); case hrest => kernel_rfl)
      refine RunL.mem (fl2 (flS (flS (flS (flS (flS rfl))))) rfl) ?_
      refine RunL.call cal48 rfl (s48 rdn.left.left.left.left.left.left.left.left.left.left.left.left.left.left.left.left) rfl (fun vx39 Ax39 hx39 => ?_)
      obtain ⟨x40, ⟨rfl, rfl⟩⟩ := hx39
      refine Sd.ret hKx38 (Eq.trans (frc (frl rfl) rfl) (gp2 rfl (asg (asg (asg (asg (asg (asg rfl)))))))) ⟨_, rfl⟩ ?_
      refine Sd.quiet 26 _ _ rfl rfl rfl rfl rfl (QOp.ok (fun X => OpOk.as (c := false) (OpOk.neq rfl rfl) (by rw [decide_eq_true (by omega)]; rfl))) ?_
      refine Sd.quiet 27 _ _ rfl rfl rfl rfl rfl (QOp.ok (fun X => OpOk.pickF rfl rfl)) ?_
      refine Sd.quiet 28 _ _ rfl rfl rfl rfl rfl (QOp.ok (fun X => OpOk.move rfl)) ?_
      refine Sd.quiet 29 _ _ rfl rfl rfl rfl rfl (QOp.ok (fun X => OpOk.move rfl)) ?_
      refine Sd.quiet 32 _ _ rfl rfl rfl rfl rfl (QOp.ok (fun X => OpOk.move rfl)) ?_
      (refine Sd.exec 30 rfl rfl rfl rfl rfl ?hrest (by rfl) (fun Xx41 Kx41 hKx41 => ?_); case hrest => kernel_rfl)
      refine RunL.mem (fl2 (flS (flS (flS (flS (flS (flS rfl)))))) rfl) ?_
      refine RunL.call cal49 rfl (s49 (by assumption)) rfl (fun vx42 Ax42 hx42 => ?_)
      obtain rfl := hx42
      refine RunL.know (fun w s => (s.conv rfl).ownRd0) (fun rdx43 => ?_)
      refine Sd.ret hKx41 (Eq.trans rfl (gp2 (sep_emp _).symm (asg (asg (asg (asg (asg (asg (asg (asg rfl)))))))))) ⟨_, (asg rfl)⟩ ?_
      refine Sd.quiet 31 _ _ rfl rfl rfl rfl rfl (QOp.ok (fun X => OpOk.strOf rfl rfl rfl rfl (Rd.right (Rd.right rdx43)).left)) ?_
      (refine Sd.exec 33 rfl rfl rfl rfl rfl ?hrest (by rfl) (fun Xx44 Kx44 hKx44 => ?_); case hrest => kernel_rfl)
      refine RunL.mem (fl2 (flS (flS (flS (flS (flS (flS (flS (flS rfl)))))))) (sep_emp _)) ?_
      refine RunL.call cal41 rfl (s41 rd.left.left.left.left.left.left.left.left.left.left.left.left.left.left.left.left.left.left) rfl (fun vx45 Ax45 hx45 => ?_)
      obtain rfl := hx45
      refine RunL.know (fun w s => (s.conv rfl).ownRd0) (fun rdx46 => ?_)
      refine Sd.ret hKx44 (Eq.trans rfl (gp2 (sep_emp _).symm (asg (asg (asg (asg (asg (asg (asg (asg (asg rfl))))))))))) ⟨_, rfl⟩ ?_
      refine Sd.quiet 34 _ _ rfl rfl rfl rfl rfl (QOp.ok (fun X => OpOk.strOf rfl rfl rfl rfl (Rd.right (Rd.right rdx46)).left)) ?_
      refine Sd.quiet 35 _ _ rfl rfl rfl rfl rfl (QOp.ok (fun X => OpOk.neqSS rfl rfl)) ?_
      refine Sd.quiet 36 _ _ rfl rfl rfl rfl rfl (QOp.ok (fun X => OpOk.pickF rfl rfl)) ?_
      (apply Sd.tail; case hall => kernel_rfl)
      refine RunL.mem (fl2 (flS (flS (flS (flS (flS (flS (flS (flS (flS rfl))))))))) (sep_emp _)) ?_
      refine RunL.nil ?_
      refine Run.condNF rfl (by first | omega | with_reducible rfl | assumption) ?_
      refine Run.skip ?_
      refine Run.seq ?_
      refine Run.seq ?_
      refine Run.region ?_
      refine RunL.ok (OpOk.move rfl) rfl ?_
      refine RunL.ok (OpOk.asF (OpOk.lss rfl rfl) (by omega)) rfl ?_
      refine RunL.ok (OpOk.move rfl) rfl ?_
      refine RunL.on rfl rfl ?_
      refine RunL.ok (OpOk.move rfl) rfl ?_
      refine RunL.on rfl rfl ?_
      refine RunL.ok (OpOk.asT (OpOk.gtr rfl rfl) (by omega)) rfl ?_
      refine RunL.ok (OpOk.pickF rfl rfl) rfl ?_
      refine RunL.nil ?_
      refine Run.condT rfl ?_
      refine Run.seq ?_
      refine Run.region ?_
      refine RunL.ok (OpOk.move rfl) rfl ?_
      refine RunL.ok (OpOk.asT (OpOk.eql rfl rfl) (by omega)) rfl ?_
      refine RunL.ok (OpOk.move rfl) rfl ?_
      refine RunL.on rfl rfl ?_
      refine RunL.ok (OpOk.move rfl) rfl ?_
      refine RunL.on rfl rfl ?_
      refine RunL.ok (OpOk.lenV rfl rfl rfl) rfl ?_
      refine RunL.on rfl rfl ?_
      refine RunL.ok (OpOk.asT (OpOk.eql rfl rfl) (by omega)) rfl ?_
      refine RunL.ok (OpOk.pickT rfl rfl) rfl ?_
      refine RunL.ok (OpOk.assign rfl) rfl ?_
      refine RunL.nil ?_
      refine Run.ret1 Try.func10 rfl rfl ?_
      exact ⟨_, rfl, (asg (asg (asg (asg (asg (asg (asg (asg (asg (asg (asg (asg (asg (asg (asg (asg (asg as1)))))))))))))))))⟩
    · obtain ⟨S, rfl⟩ := Int.eq_ofNat_of_zero_le hs0
      have hbi : secOf (imgB bs) (3 + 2 * (S : Int)).toNat ++ secOf (imgB bs) (3 + 2 * (S : Int) + 1).toNat = ((imgB bs).drop (96 + 64 * S)).take (160 + 64 * S - (96 + 64 * S)) := by
        rw [body_is hl (s := S) (by omega), show (3 + 2 * (S : Int)).toNat = 3 + 2 * S by omega, show (3 + 2 * (S : Int) + 1).toNat = 3 + 2 * S + 1 by omega]
      refine Run.seq ?_
      refine Run.region ?_
      refine RunL.box rfl rfl (fun bx1 => ?_)
      refine RunL.ok (OpOk.assign rfl) rfl ?_
      refine RunL.nil ?_
      refine Run.seq ?_
      (apply Run.drawD [] (by rfl) (sep_emp _).symm; case hchk => kernel_rfl)
      refine Sd.quiet 0 _ _ rfl rfl rfl rfl rfl (QOp.ok (fun X => OpOk.fieldAddr fld81_0 rfl)) ?_
      refine Sd.quiet 1 _ _ rfl rfl rfl rfl rfl (QOp.ok (fun X => OpOk.load rfl rfl rfl (Blk.out Blk.pts.left.left _ _ (by first | rfl | assumption)))) ?_
      refine Sd.quiet 2 _ _ rfl rfl rfl rfl rfl (QOp.ok (fun X => OpOk.fieldAddr fld81_1 rfl)) ?_
      refine Sd.quiet 3 _ _ rfl rfl rfl rfl rfl (QOp.ok (fun X => OpOk.load rfl rfl rfl (Blk.out Blk.pts.left.left _ _ (by first | rfl | assumption)))) ?_
      refine Sd.quiet 4 _ _ rfl rfl rfl rfl rfl (QOp.ok (fun X => OpOk.fieldAddr fld81_2 rfl)) ?_
      refine Sd.quiet 5 _ _ rfl rfl rfl rfl rfl (QOp.ok (fun X => OpOk.load rfl rfl rfl (Blk.out Blk.pts.left.left _ _ (by first | rfl | assumption)))) ?_
      refine Sd.quiet 6 _ _ rfl rfl rfl rfl rfl (QOp.ok (fun X => OpOk.fieldAddr fld81_3 rfl)) ?_
      refine Sd.quiet 7 _ _ rfl rfl rfl rfl rfl (QOp.ok (fun X => OpOk.load rfl rfl rfl (Blk.out Blk.pts.left.left _ _ (by first | rfl | assumption)))) ?_
      refine Sd.quiet 8 _ _ rfl rfl rfl rfl rfl (QOp.ok (fun X => OpOk.assign rfl)) ?_
      refine Sd.quiet 9 _ _ rfl rfl rfl rfl rfl (QOp.ok (fun X => OpOk.assign rfl)) ?_
      refine Sd.quiet 10 _ _ rfl rfl rfl rfl rfl (QOp.ok (fun X => OpOk.assign rfl)) ?_
      refine Sd.quiet 11 _ _ rfl rfl rfl rfl rfl (QOp.ok (fun X => OpOk.assign rfl)) ?_
      (apply Sd.tail; case hall => kernel_rfl)
      refine RunL.mem (fl2 (sep_emp _) (sep_emp _)) ?_
      refine RunL.nil ?_
      refine Run.seq ?_
      refine Run.seq ?_
      refine Run.region ?_
      refine RunL.call cal37 rfl (s37) rfl (fun vx2 Ax2 hx2 => ?_)
      obtain ⟨x3, ⟨rfl, rfl⟩⟩ := hx2
      refine RunL.ok (OpOk.not rfl) rfl ?_
      refine RunL.nil ?_
      refine Run.condF rfl ?_
      refine Run.skip ?_
      refine Run.seq ?_
      refine Run.region ?_
      refine RunL.ok (OpOk.move rfl) rfl ?_
      refine RunL.call cal38 rfl (s38 rd.left.left) rfl (fun vx4 Ax4 hx4 => ?_)
      obtain ⟨x5, ⟨x6, ⟨rfl, rfl⟩⟩⟩ := hx4
      refine RunL.ok (OpOk.assign rfl) rfl ?_
      refine RunL.nil ?_
      refine Run.seq ?_
      refine Run.seq ?_
      refine Run.region ?_
      refine RunL.ok (OpOk.move rfl) rfl ?_
      refine RunL.ok (OpOk.eqlPN rfl rfl) rfl ?_
      refine RunL.nil ?_
      refine Run.condF rfl ?_
      refine Run.skip ?_
      refine Run.seq ?_
      refine Run.region ?_
      refine RunL.ok (OpOk.move rfl) rfl ?_
      refine RunL.call cal39 rfl (s39d (by assumption) (by assumption) (by assumption) (by assumption)) rfl (fun vx9 Ax9 hx9 => ?_)
      obtain ⟨x10, ⟨rfl, rfl⟩⟩ := hx9
      refine RunL.ok (OpOk.move rfl) rfl ?_
      refine RunL.ok (OpOk.ext20 rfl) rfl ?_
      refine RunL.ok (OpOk.ext21 rfl) rfl ?_
      refine RunL.alloc ti86 rfl (fun bx11 => ?_)
      refine RunL.storeAll ti86 rfl rfl rfl (ones rfl) rfl rfl ?_
      refine RunL.ok (OpOk.assign rfl) rfl ?_
      refine RunL.nil ?_
      refine Run.seq ?_
      refine Run.region ?_
      refine RunL.ok (OpOk.move rfl) rfl ?_
      refine RunL.call cal41 rfl (s41 rd.left.left.left.left.left.left) rfl (fun vx12 Ax12 hx12 => ?_)
      obtain rfl := hx12
      refine RunL.know (fun w s => (s.conv rfl).ownRd0) (fun rdx13 => ?_)
      refine RunL.call cal40 rfl (s40c (Rd.right rdx13) rfl (by assumption) (by assumption) (by assumption)) rfl (fun vx16 Ax16 hx16 => ?_)
      obtain ⟨x17, ⟨rfl, rfl⟩⟩ := hx16
      refine RunL.ok (OpOk.move rfl) rfl ?_
      refine RunL.ok (OpOk.ext20 rfl) rfl ?_
      refine RunL.ok (OpOk.ext21 rfl) rfl ?_
      refine RunL.alloc ti89 rfl (fun bx18 => ?_)
      refine RunL.storeAll ti89 rfl rfl rfl (ones rfl) rfl rfl ?_
      refine RunL.ok (OpOk.assign rfl) rfl ?_
      refine RunL.nil ?_
      refine Run.seq ?_
      refine Run.region ?_
      refine RunL.ok (OpOk.move rfl) rfl ?_
      refine RunL.ok (OpOk.move rfl) rfl ?_
      refine RunL.mem (frc (frl (frl (frl (frl rfl)))) rfl) ?_
      refine RunL.call cal42 rfl (s42b (by assumption) (by assumption) (by omega)) rfl (fun vx20 Ax20 hx20 => ?_)
      obtain ⟨x21, ⟨x22, ⟨rfl, rfl⟩⟩⟩ := hx20
      refine RunL.ok (OpOk.move rfl) rfl ?_
      refine RunL.ok (OpOk.ext20 rfl) rfl ?_
      refine RunL.ok (OpOk.ext21 rfl) rfl ?_
      refine RunL.ok (OpOk.assign rfl) rfl ?_
      refine RunL.ok (OpOk.assign rfl) rfl ?_
      refine RunL.nil ?_
      refine Run.seq ?_
      refine Run.seq ?_
      refine Run.know (fun w s => (s.conv (frl rfl)).ownRd0) (fun rdx23 => ?_)
      (apply Run.drawD [] (by rfl) (Eq.trans rfl rfl); case hchk => kernel_rfl)
      refine Sd.quiet 0 _ _ rfl rfl rfl rfl rfl (QOp.ok (fun X => OpOk.loadS rfl rfl ti86 rfl Blk.pts.left.left.left.left.left.left.left rfl)) ?_
      refine Sd.quiet 2 _ _ rfl rfl rfl rfl rfl (QOp.ok (fun X => OpOk.loadS rfl rfl ti89 rfl Blk.pts.left.left.left.left rfl)) ?_
      (refine Sd.exec 1 rfl rfl rfl rfl rfl ?hrest (by rfl) (fun Xx24 Kx24 hKx24 => ?_); case hrest => kernel_rfl)
      refine RunL.mem (fl2 (sep_emp _) rfl) ?_
      refine RunL.call cal44 rfl (s44 rdn.left.left.left.left.left.left.left.left.left.left.left.left (by omega)) rfl (fun vx25 Ax25 hx25 => ?_)
      obtain ⟨x26, ⟨x27, ⟨x28, ⟨rfl, rfl⟩⟩⟩⟩ := hx25
      refine RunL.know (fun w s => (s.conv rfl).ownRd0) (fun rdx29 => ?_)
      refine Sd.ret hKx24 (Eq.trans (frc (frl (frl rfl)) rfl) (gp2 rfl (asg rfl))) ⟨_, (emp_sep _).symm⟩ ?_
      (refine Sd.exec 3 rfl rfl rfl rfl rfl ?hrest (by rfl) (fun Xx30 Kx30 hKx30 => ?_); case hrest => kernel_rfl)
      refine RunL.mem (fl2 (flS rfl) rfl) ?_
      refine RunL.call cal43 rfl (s43 (Rd.right rdx29).left rdn.left.left.left.left.left.left.left.left.left.left.left.left.left.left) rfl (fun vx31 Ax31 hx31 => ?_)
      obtain ⟨x32, ⟨rfl, rfl⟩⟩ := hx31
      refine Sd.ret hKx30 (Eq.trans (frc (frl rfl) rfl) (gp2 rfl (asg (asg rfl)))) ⟨_, rfl⟩ ?_
      refine Sd.quiet 4 _ _ rfl rfl rfl rfl rfl (QOp.ok (fun X => OpOk.not rfl)) ?_
      refine Sd.quiet 5 _ _ rfl rfl rfl rfl rfl (QOp.ok (fun X => OpOk.move rfl)) ?_
      refine Sd.quiet 6 _ _ rfl rfl rfl rfl rfl (QOp.ok (fun X => OpOk.move rfl)) ?_
      refine Sd.quiet 7 _ _ rfl rfl rfl rfl rfl (QOp.ok (fun X => OpOk.move rfl)) ?_
      refine Sd.quiet 8 _ _ rfl rfl rfl rfl rfl (QOp.ok (fun X => OpOk.as (c := false) (OpOk.neq rfl rfl) (by rw [decide_eq_true (by omega)]; rfl))) ?_
      refine Sd.quiet 9 _ _ rfl rfl rfl rfl rfl (QOp.ok (fun X => OpOk.pickF rfl rfl)) ?_
      refine Sd.quiet 10 _ _ rfl rfl rfl rfl rfl (QOp.ok (fun X => OpOk.move rfl)) ?_
      refine Sd.quiet 11 _ _ rfl rfl rfl rfl rfl (QOp.ok (fun X => OpOk.loadS rfl rfl ti86 rfl Blk.pts.left.left.left.left.left.left.left rfl)) ?_
      refine Sd.quiet 12 _ _ rfl rfl rfl rfl rfl (QOp.ok (fun X => OpOk.move rfl)) ?_
      refine Sd.quiet 13 _ _ rfl rfl rfl rfl rfl (QOp.ok (fun X => OpOk.move rfl)) ?_
      refine Sd.quiet 15 _ _ rfl rfl rfl rfl rfl (QOp.ok (fun X => OpOk.loadS rfl rfl ti89 rfl Blk.pts.left.left.left.left rfl)) ?_
      refine Sd.quiet 16 _ _ rfl rfl rfl rfl rfl (QOp.ok (fun X => OpOk.move rfl)) ?_
      refine Sd.quiet 17 _ _ rfl rfl rfl rfl rfl (QOp.ok (fun X => OpOk.move rfl)) ?_
      (refine Sd.exec 14 rfl rfl rfl rfl rfl ?hrest (by rfl) (fun Xx33 Kx33 hKx33 => ?_); case hrest => kernel_rfl)
      refine RunL.mem (fl2 (flS (flS rfl)) rfl) ?_
      refine RunL.call cal45 rfl (s45 rdn.left.left.left.left.left.left.left.left.left.left.left.left.left.left.left) rfl (fun vx34 Ax34 hx34 => ?_)
      obtain ⟨x35, ⟨rfl, rfl⟩⟩ := hx34
      refine Sd.ret hKx33 (Eq.trans (frc (frl rfl) rfl) (gp2 rfl (asg (asg (asg rfl))))) ⟨_, rfl⟩ ?_
      (refine Sd.exec 18 rfl rfl rfl rfl rfl ?hrest (by rfl) (fun Xx36 Kx36 hKx36 => ?_); case hrest => kernel_rfl)
      refine RunL.mem (fl2 (flS (flS (flS rfl))) rfl) ?_
      refine RunL.call cal46 rfl (s46 rdn.left.left.left.left.left.left.left.left.left.left.left.left.left.left.left.left) rfl (fun vx37 Ax37 hx37 => ?_)
      obtain ⟨x38, ⟨rfl, rfl⟩⟩ := hx37
      refine Sd.ret hKx36 (Eq.trans (frc (frl rfl) rfl) (gp2 rfl (asg (asg (asg (asg rfl)))))) ⟨_, rfl⟩ ?_
      refine Sd.quiet 19 _ _ rfl rfl rfl rfl rfl (QOp.ok (fun X => OpOk.as (c := false) (OpOk.neq rfl rfl) (by rw [decide_eq_true (by omega)]; rfl))) ?_
      refine Sd.quiet 20 _ _ rfl rfl rfl rfl rfl (QOp.ok (fun X => OpOk.pickF rfl rfl)) ?_
      refine Sd.quiet 21 _ _ rfl rfl rfl rfl rfl (QOp.ok (fun X => OpOk.move rfl)) ?_
      refine Sd.quiet 22 _ _ rfl rfl rfl rfl rfl (QOp.ok (fun X => OpOk.loadS rfl rfl ti86 rfl Blk.pts.left.left.left.left.left.left.left rfl)) ?_
      refine Sd.quiet 24 _ _ rfl rfl rfl rfl rfl (QOp.ok (fun X => OpOk.loadS rfl rfl ti89 rfl Blk.pts.left.left.left.left rfl)) ?_
      (refine Sd.exec 23 rfl rfl rfl rfl rfl ?hrest (by rfl) (fun Xx39 Kx39 hKx39 => ?_); case hrest => kernel_rfl)
      refine RunL.mem (fl2 (flS (flS (flS (flS rfl)))) rfl) ?_
      refine RunL.call cal47 rfl (s47 rdn.left.left.left.left.left.left.left.left.left.left.left.left.left.left.left.left.left) rfl (fun vx40 Ax40 hx40 => ?_)
      obtain ⟨x41, ⟨rfl, rfl⟩⟩ := hx40
      refine Sd.ret hKx39 (Eq.trans (frc (frl rfl) rfl) (gp2 rfl (asg (asg (asg (asg (asg rfl))))))) ⟨_, rfl⟩ ?_
      (refine Sd.exec 25 rfl rfl rfl rfl rfl ?hrest (by rfl) (fun Xx42 Kx42 hKx42 => ?_); case hrest => kernel_rfl)
      refine RunL.mem (fl2 (flS (flS (flS (flS (flS rfl))))) rfl) ?_
      refine RunL.call cal48 rfl (s48 rdn.left.left.left.left.left.left.left.left.left.left.left.left.left.left.left.left.left.left) rfl (fun vx43 Ax43 hx43 => ?_)
      obtain ⟨x44, ⟨rfl, rfl⟩⟩ := hx43
      refine Sd.ret hKx42 (Eq.trans (frc (frl rfl) rfl) (gp2 rfl (asg (asg (asg (asg (asg (asg rfl)))))))) ⟨_, rfl⟩ ?_
      refine Sd.quiet 26 _ _ rfl rfl rfl rfl rfl (QOp.ok (fun X => OpOk.as (c := false) (OpOk.neq rfl rfl) (by rw [decide_eq_true (by omega)]; rfl))) ?_
      refine Sd.quiet 27 _ _ rfl rfl rfl rfl rfl (QOp.ok (fun X => OpOk.pickF rfl rfl)) ?_
      refine Sd.quiet 28 _ _ rfl rfl rfl rfl rfl (QOp.ok (fun X => OpOk.move rfl)) ?_
      refine Sd.quiet 29 _ _ rfl rfl rfl rfl rfl (QOp.ok (fun X => OpOk.move rfl)) ?_
      refine Sd.quiet 32 _ _ rfl rfl rfl rfl rfl (QOp.ok (fun X => OpOk.move rfl)) ?_
      (refine Sd.exec 30 rfl rfl rfl rfl rfl ?hrest (by rfl) (fun Xx45 Kx45 hKx45 => ?_); case hrest => kernel_rfl)
      refine RunL.mem (fl2 (flS (flS (flS (flS (flS (flS rfl)))))) rfl) ?_
      refine RunL.call cal49 rfl (s49 (by assumption)) rfl (fun vx46 Ax46 hx46 => ?_)
      obtain rfl := hx46
      refine RunL.know (fun w s => (s.conv rfl).ownRd0) (fun rdx47 => ?_)
      refine Sd.ret hKx45 (Eq.trans rfl (gp2 (sep_emp _).symm (asg (asg (asg (asg (asg (asg (asg (asg rfl)))))))))) ⟨_, (asg rfl)⟩ ?_
      refine Sd.quiet 31 _ _ rfl rfl rfl rfl rfl (QOp.ok (fun X => OpOk.strOf rfl rfl rfl rfl (Rd.right (Rd.right rdx47)).left)) ?_
      (refine Sd.exec 33 rfl rfl rfl rfl rfl ?hrest (by rfl) (fun Xx48 Kx48 hKx48 => ?_); case hrest => kernel_rfl)
      refine RunL.mem (fl2 (flS (flS (flS (flS (flS (flS (flS (flS rfl)))))))) (sep_emp _)) ?_
      refine RunL.call cal41 rfl (s41 rd.left.left.left.left.left.left.left.left.left.left.left.left.left.left.left.left.left.left.left.left) rfl (fun vx49 Ax49 hx49 => ?_)
      obtain rfl := hx49
      refine RunL.know (fun w s => (s.conv rfl).ownRd0) (fun rdx50 => ?_)
      refine Sd.ret hKx48 (Eq.trans rfl (gp2 (sep_emp _).symm (asg (asg (asg (asg (asg (asg (asg (asg (asg rfl))))))))))) ⟨_, rfl⟩ ?_
      refine Sd.quiet 34 _ _ rfl rfl rfl rfl rfl (QOp.ok (fun X => OpOk.strOf rfl rfl rfl rfl (Rd.right (Rd.right rdx50)).left)) ?_
      refine Sd.quiet 35 _ _ rfl rfl rfl rfl rfl (QOp.ok (fun X => OpOk.neqSS rfl rfl)) ?_
      refine Sd.quiet 36 _ _ rfl rfl rfl rfl rfl (QOp.ok (fun X => OpOk.pickF rfl rfl)) ?_
      (apply Sd.tail; case hall => kernel_rfl)
      refine RunL.mem (fl2 (flS (flS (flS (flS (flS (flS (flS (flS (flS rfl))))))))) (sep_emp _)) ?_
      refine RunL.nil ?_
      refine Run.condNF rfl (by first | omega | with_reducible rfl | assumption) ?_
      refine Run.skip ?_
      refine Run.seq ?_
      refine Run.seq ?_
      refine Run.region ?_
      refine RunL.ok (OpOk.move rfl) rfl ?_
      refine RunL.ok (OpOk.asF (OpOk.lss rfl rfl) (by omega)) rfl ?_
      refine RunL.ok (OpOk.move rfl) rfl ?_
      refine RunL.on rfl rfl ?_
      refine RunL.ok (OpOk.move rfl) rfl ?_
      refine RunL.on rfl rfl ?_
      refine RunL.ok (OpOk.asF (OpOk.gtr rfl rfl) (by omega)) rfl ?_
      refine RunL.ok (OpOk.pickF rfl rfl) rfl ?_
      refine RunL.nil ?_
      refine Run.condF rfl ?_
      refine Run.skip ?_
      refine Run.seq ?_
      refine Run.region ?_
      refine RunL.call cal39 rfl (s39a) rfl (fun vx51 Ax51 hx51 => ?_)
      obtain ⟨x52, ⟨rfl, rfl⟩⟩ := hx51
      refine RunL.ok (OpOk.move rfl) rfl ?_
      refine RunL.ok (OpOk.ext20 rfl) rfl ?_
      refine RunL.ok (OpOk.ext21 rfl) rfl ?_
      refine RunL.alloc ti86 rfl (fun bx53 => ?_)
      refine RunL.storeAll ti86 rfl rfl rfl (ones rfl) rfl rfl ?_
      refine RunL.ok (OpOk.assign rfl) rfl ?_
      refine RunL.nil ?_
      refine Run.seq ?_
      refine Run.drop [2] ?_
      (apply Run.drawD [] (by rfl) (sep_emp _).symm; case hchk => kernel_rfl)
      refine Sd.quiet 0 _ _ rfl rfl rfl rfl rfl (QOp.ok (fun X => OpOk.move rfl)) ?_
      refine Sd.quiet 1 _ _ rfl rfl rfl rfl rfl (QOp.ok (fun X => OpOk.asT (OpOk.eql rfl rfl) (by omega))) ?_
      refine Sd.quiet 2 _ _ rfl rfl rfl rfl rfl (QOp.ok (fun X => OpOk.move rfl)) ?_
      refine Sd.quiet 3 _ _ rfl rfl rfl rfl rfl (QOp.ok (fun X => OpOk.move rfl)) ?_
      refine Sd.quiet 4 _ _ rfl rfl rfl rfl rfl (QOp.ok (fun X => OpOk.strOf rfl rfl rfl rfl (Rd.right rdx23).left.left.left.left.left.left.left.left.left.left.left.left.left.left)) ?_
      refine Sd.quiet 5 _ _ rfl rfl rfl rfl rfl (QOp.ok (fun X => OpOk.move rfl)) ?_
      refine Sd.quiet 7 _ _ rfl rfl rfl rfl rfl (QOp.ok (fun X => OpOk.move rfl)) ?_
      refine Sd.quiet 8 _ _ rfl rfl rfl rfl rfl (QOp.ok (fun X => OpOk.mulN 64 _ rfl rfl rfl rfl (by omega))) ?_
      refine Sd.quiet 9 _ _ rfl rfl rfl rfl rfl (QOp.ok (fun X => OpOk.addN 96 _ rfl rfl rfl rfl (by omega))) ?_
      refine Sd.quiet 10 _ _ rfl rfl rfl rfl rfl (QOp.ok (fun X => OpOk.move rfl)) ?_
      refine Sd.quiet 11 _ _ rfl rfl rfl rfl rfl (QOp.ok (fun X => OpOk.mulN 64 _ rfl rfl rfl rfl (by omega))) ?_
      refine Sd.quiet 12 _ _ rfl rfl rfl rfl rfl (QOp.ok (fun X => OpOk.addN 160 _ rfl rfl rfl rfl (by omega))) ?_
      (refine Sd.exec 6 rfl rfl rfl rfl rfl ?hrest (by rfl) (fun Xx54 Kx54 hKx54 => ?_); case hrest => kernel_rfl)
      refine RunL.mem (fl2 (sep_emp _) (sep_emp _)) ?_
      refine RunL.call cal41 rfl (s41 rd.left.left.left.left.left.left.left.left.left.left.left.left.left.left.left.left.left.left.left.left.left.left.left) rfl (fun vx55 Ax55 hx55 => ?_)
      obtain rfl := hx55
      refine RunL.know (fun w s => (s.conv rfl).ownRd0) (fun rdx56 => ?_)
      refine Sd.ret hKx54 (Eq.trans rfl (gp2 (sep_emp _).symm rfl)) ⟨_, (emp_sep _).symm⟩ ?_
      refine Sd.quiet 13 _ _ rfl rfl rfl rfl rfl (QOp.ok (fun X => OpOk.cut rfl ti5 rfl (Rd.right rdx56).left ⟨_, rfl⟩ ⟨_, rfl⟩ (by omega) (by omega))) ?_
      refine Sd.quiet 14 _ _ rfl rfl rfl rfl rfl (QOp.ok (fun X => OpOk.strOf rfl rfl rfl rfl (Rd.cutB (Rd.right rdx56).left (by omega) (by omega)))) ?_
      refine Sd.quiet 15 _ _ rfl rfl rfl rfl rfl (QOp.ok (fun X => OpOk.asT (OpOk.eqlSS rfl rfl) (by omega))) ?_
      refine Sd.quiet 16 _ _ rfl rfl rfl rfl rfl (QOp.ok (fun X => OpOk.pickT rfl rfl)) ?_
      refine Sd.quiet 17 _ _ rfl rfl rfl rfl rfl (QOp.ok (fun X => OpOk.move rfl)) ?_
      refine Sd.quiet 18 _ _ rfl rfl rfl rfl rfl (QOp.ok (fun X => OpOk.move rfl)) ?_
      refine Sd.quiet 19 _ _ rfl rfl rfl rfl rfl (QOp.ok (fun X => OpOk.asT (OpOk.eql rfl rfl) (by omega))) ?_
      refine Sd.quiet 20 _ _ rfl rfl rfl rfl rfl (QOp.ok (fun X => OpOk.pickT rfl rfl)) ?_
      refine Sd.quiet 21 _ _ rfl rfl rfl rfl rfl (QOp.ok (fun X => OpOk.assign rfl)) ?_
      (apply Sd.tail; case hall => kernel_rfl)
      refine RunL.mem (fl2 rfl (sep_emp _)) ?_
      refine RunL.nil ?_
      refine Run.ret1 Try.func10 rfl rfl ?_
      exact ⟨_, rfl, (asg (asg (asg (asg (asg (asg (asg (asg (asg (asg (asg (asg (asg (asg (asg (asg (asg (asg (asg (asg (asg (asg as1))))))))))))))))))))))⟩
theorem reads_d {q : Int} {t : Nat} {es : List En} (rd : Rd w0 A u 1 m (B bs)) (hS : Says (imgB bs) q t es) :
    Spec Try.prog w0 10 [.agg #[u, .int .i64 o, .int .i64 i, .int .i64 s]] A (fun v' A' => ∃ J, v' = .bool true ∧ A' = A * J) := by
  have he5 : es.length ≤ 1048576 := Nat.le_trans hS.facts.2.2.1 (by decide)
  have hl := imgB_len bs
  have rdn : Rd w0 A (.slice none 0 0) 4 0 (Fl encT111 ([] : List En)) := Rd.nil 4
  refine Spec.of_run [(0, .agg #[u, .int .i64 o, .int .i64 i, .int .i64 s])] Try.func10 rfl (Nat.le_of_ble_eq_true rfl) (by repeat (first | exact trivial | refine ⟨rfl, ?_⟩)) ?_
  rcases Int.lt_or_le s 0 with hs0 | hs0
  · refine Run.seq ?_
    refine Run.region ?_
    refine RunL.box rfl rfl (fun bx1 => ?_)
    refine RunL.ok (OpOk.assign rfl) rfl ?_
    refine RunL.nil ?_
    refine Run.seq ?_
    (apply Run.drawD [] (by rfl) (sep_emp _).symm; case hchk => kernel_rfl)
    refine Sd.quiet 0 _ _ rfl rfl rfl rfl rfl (QOp.ok (fun X => OpOk.fieldAddr fld81_0 rfl)) ?_
    refine Sd.quiet 1 _ _ rfl rfl rfl rfl rfl (QOp.ok (fun X => OpOk.load rfl rfl rfl (Blk.out Blk.pts.left.left _ _ (by first | rfl | assumption)))) ?_
    refine Sd.quiet 2 _ _ rfl rfl rfl rfl rfl (QOp.ok (fun X => OpOk.fieldAddr fld81_1 rfl)) ?_
    refine Sd.quiet 3 _ _ rfl rfl rfl rfl rfl (QOp.ok (fun X => OpOk.load rfl rfl rfl (Blk.out Blk.pts.left.left _ _ (by first | rfl | assumption)))) ?_
    refine Sd.quiet 4 _ _ rfl rfl rfl rfl rfl (QOp.ok (fun X => OpOk.fieldAddr fld81_2 rfl)) ?_
    refine Sd.quiet 5 _ _ rfl rfl rfl rfl rfl (QOp.ok (fun X => OpOk.load rfl rfl rfl (Blk.out Blk.pts.left.left _ _ (by first | rfl | assumption)))) ?_
    refine Sd.quiet 6 _ _ rfl rfl rfl rfl rfl (QOp.ok (fun X => OpOk.fieldAddr fld81_3 rfl)) ?_
    refine Sd.quiet 7 _ _ rfl rfl rfl rfl rfl (QOp.ok (fun X => OpOk.load rfl rfl rfl (Blk.out Blk.pts.left.left _ _ (by first | rfl | assumption)))) ?_
    refine Sd.quiet 8 _ _ rfl rfl rfl rfl rfl (QOp.ok (fun X => OpOk.assign rfl)) ?_
    refine Sd.quiet 9 _ _ rfl rfl rfl rfl rfl (QOp.ok (fun X => OpOk.assign rfl)) ?_
    refine Sd.quiet 10 _ _ rfl rfl rfl rfl rfl (QOp.ok (fun X => OpOk.assign rfl)) ?_
    refine Sd.quiet 11 _ _ rfl rfl rfl rfl rfl (QOp.ok (fun X => OpOk.assign rfl)) ?_
    (apply Sd.tail; case hall => kernel_rfl)
    refine RunL.mem (fl2 (sep_emp _) (sep_emp _)) ?_
    refine RunL.nil ?_
    refine Run.seq ?_
    refine Run.seq ?_
    refine Run.region ?_
    refine RunL.call cal37 rfl (s37) rfl (fun vx2 Ax2 hx2 => ?_)
    obtain ⟨x3, ⟨rfl, rfl⟩⟩ := hx2
    refine RunL.ok (OpOk.not rfl) rfl ?_
    refine RunL.nil ?_
    refine Run.condF rfl ?_
    refine Run.skip ?_
    refine Run.seq ?_
    refine Run.region ?_
    refine RunL.ok (OpOk.move rfl) rfl ?_
    refine RunL.call cal38 rfl (s38 rd.left.left) rfl (fun vx4 Ax4 hx4 => ?_)
    obtain ⟨x5, ⟨x6, ⟨rfl, rfl⟩⟩⟩ := hx4
    refine RunL.ok (OpOk.assign rfl) rfl ?_
    refine RunL.nil ?_
    refine Run.seq ?_
    refine Run.seq ?_
    refine Run.region ?_
    refine RunL.ok (OpOk.move rfl) rfl ?_
    refine RunL.ok (OpOk.eqlPN rfl rfl) rfl ?_
    refine RunL.nil ?_
    refine Run.condF rfl ?_
    refine Run.skip ?_
    refine Run.seq ?_
    refine Run.region ?_
    refine RunL.ok (OpOk.move rfl) rfl ?_
    refine RunL.call cal39 rfl (s39f (by assumption)) rfl (fun vx11 Ax11 hx11 => ?_)
    obtain ⟨x12, ⟨x13, ⟨x14, ⟨rfl, rfl⟩⟩⟩⟩ := hx11
    refine RunL.ok (OpOk.move rfl) rfl ?_
    refine RunL.ok (OpOk.ext20 rfl) rfl ?_
    refine RunL.ok (OpOk.ext21 rfl) rfl ?_
    refine RunL.alloc ti86 rfl (fun bx15 => ?_)
    refine RunL.storeAll ti86 rfl rfl rfl (ones rfl) rfl rfl ?_
    refine RunL.ok (OpOk.assign rfl) rfl ?_
    refine RunL.nil ?_
    refine Run.seq ?_
    refine Run.region ?_
    refine RunL.ok (OpOk.move rfl) rfl ?_
    refine RunL.call cal41 rfl (s41 rd.left.left.left.left.left.left.left) rfl (fun vx16 Ax16 hx16 => ?_)
    obtain rfl := hx16
    refine RunL.know (fun w s => (s.conv rfl).ownRd0) (fun rdx17 => ?_)
    refine RunL.call cal40 rfl (s40e (Rd.right rdx17) rfl (by assumption)) rfl (fun vx22 Ax22 hx22 => ?_)
    obtain ⟨x23, ⟨x24, ⟨x25, ⟨rfl, rfl⟩⟩⟩⟩ := hx22
    refine RunL.ok (OpOk.move rfl) rfl ?_
    refine RunL.ok (OpOk.ext20 rfl) rfl ?_
    refine RunL.ok (OpOk.ext21 rfl) rfl ?_
    refine RunL.alloc ti89 rfl (fun bx26 => ?_)
    refine RunL.storeAll ti89 rfl rfl rfl (ones rfl) rfl rfl ?_
    refine RunL.ok (OpOk.assign rfl) rfl ?_
    refine RunL.nil ?_
    refine Run.seq ?_
    refine Run.region ?_
    refine RunL.ok (OpOk.move rfl) rfl ?_
    refine RunL.ok (OpOk.move rfl) rfl ?_
    refine RunL.mem (frc (frl (frl (frl (frl (frl rfl))))) rfl) ?_
    refine RunL.call cal42 rfl (s42a (by omega)) rfl (fun vx27 Ax27 hx27 => ?_)
    obtain ⟨rfl, rfl⟩ := hx27
    refine RunL.ok (OpOk.move rfl) rfl ?_
    refine RunL.ok (OpOk.ext20 rfl) rfl ?_
    refine RunL.ok (OpOk.ext21 rfl) rfl ?_
    refine RunL.ok (OpOk.assign rfl) rfl ?_
    refine RunL.ok (OpOk.assign rfl) rfl ?_
    refine RunL.nil ?_
    refine Run.seq ?_
    refine Run.seq ?_
    refine Run.know (fun w s => (s.conv (frl (frl (frl (frl (frl (frl rfl))))))).ownRd0) (fun rdx28 => ?_)
    refine Run.know (fun w s => (s.conv (frl (frl rfl))).ownRd0) (fun rdx29 => ?_)
    (apply Run.drawD [] (by rfl) (Eq.trans rfl rfl); case hchk => kernel_rfl)
    refine Sd.quiet 0 _ _ rfl rfl rfl rfl rfl (QOp.ok (fun X => OpOk.loadS rfl rfl ti86 rfl Blk.pts.left.left.left.left.left.left rfl)) ?_
    refine Sd.quiet 2 _ _ rfl rfl rfl rfl rfl (QOp.ok (fun X => OpOk.loadS rfl rfl ti89 rfl Blk.pts.left.left rfl)) ?_
    (refine Sd.exec 1 rfl rfl rfl rfl rfl ?hrest (by rfl) (fun Xx30 Kx30 hKx30 => ?_); case hrest => kernel_rfl)
    refine RunL.mem (fl2 (sep_emp _) rfl) ?_
    refine RunL.call cal44 rfl (s44 (Rd.right rdx28).left.left.left.left.left.left.left (by assumption)) rfl (fun vx31 Ax31 hx31 => ?_)
    obtain ⟨x32, ⟨x33, ⟨x34, ⟨rfl, rfl⟩⟩⟩⟩ := hx31
    refine RunL.know (fun w s => (s.conv rfl).ownRd0) (fun rdx35 => ?_)
    refine Sd.ret hKx30 (Eq.trans (frc (frl (frl rfl)) rfl) (gp2 rfl (asg rfl))) ⟨_, (emp_sep _).symm⟩ ?_
    (refine Sd.exec 3 rfl rfl rfl rfl rfl ?hrest (by rfl) (fun Xx36 Kx36 hKx36 => ?_); case hrest => kernel_rfl)
    refine RunL.mem (fl2 (flS rfl) rfl) ?_
    refine RunL.call cal43 rfl (s43 (Rd.right rdx35).left (Rd.right rdx29).left.left.left.left.left) rfl (fun vx37 Ax37 hx37 => ?_)
    obtain ⟨x38, ⟨rfl, rfl⟩⟩ := hx37
    refine Sd.ret hKx36 (Eq.trans (frc (frl rfl) rfl) (gp2 rfl (asg (asg rfl)))) ⟨_, rfl⟩ ?_
    refine Sd.quiet 4 _ _ rfl rfl rfl rfl rfl (QOp.ok (fun X => OpOk.not rfl)) ?_
    refine Sd.quiet 5 _ _ rfl rfl rfl rfl rfl (QOp.ok (fun X => OpOk.move rfl)) ?_
    refine Sd.quiet 6 _ _ rfl rfl rfl rfl rfl (QOp.ok (fun X => OpOk.move rfl)) ?_
    refine Sd.quiet 7 _ _ rfl rfl rfl rfl rfl (QOp.ok (fun X => OpOk.move rfl)) ?_
    refine Sd.quiet 8 _ _ rfl rfl rfl rfl rfl (QOp.ok (fun X => OpOk.as (c := false) (OpOk.neq rfl rfl) (by rw [decide_eq_true (by omega)]; rfl))) ?_
    refine Sd.quiet 9 _ _ rfl rfl rfl rfl rfl (QOp.ok (fun X => OpOk.pickF rfl rfl)) ?_
    refine Sd.quiet 10 _ _ rfl rfl rfl rfl rfl (QOp.ok (fun X => OpOk.move rfl)) ?_
    refine Sd.quiet 11 _ _ rfl rfl rfl rfl rfl (QOp.ok (fun X => OpOk.loadS rfl rfl ti86 rfl Blk.pts.left.left.left.left.left.left rfl)) ?_
    refine Sd.quiet 12 _ _ rfl rfl rfl rfl rfl (QOp.ok (fun X => OpOk.move rfl)) ?_
    refine Sd.quiet 13 _ _ rfl rfl rfl rfl rfl (QOp.ok (fun X => OpOk.move rfl)) ?_
    refine Sd.quiet 15 _ _ rfl rfl rfl rfl rfl (QOp.ok (fun X => OpOk.loadS rfl rfl ti89 rfl Blk.pts.left.left rfl)) ?_
    refine Sd.quiet 16 _ _ rfl rfl rfl rfl rfl (QOp.ok (fun X => OpOk.move rfl)) ?_
    refine Sd.quiet 17 _ _ rfl rfl rfl rfl rfl (QOp.ok (fun X => OpOk.move rfl)) ?_
    (refine Sd.exec 14 rfl rfl rfl rfl rfl ?hrest (by rfl) (fun Xx39 Kx39 hKx39 => ?_); case hrest => kernel_rfl)
    refine RunL.mem (fl2 (flS (flS rfl)) rfl) ?_
    refine RunL.call cal45 rfl (s45 (Rd.right rdx28).left.left.left.left.left.left.left.left.left.left) rfl (fun vx40 Ax40 hx40 => ?_)
    obtain ⟨x41, ⟨rfl, rfl⟩⟩ := hx40
    refine Sd.ret hKx39 (Eq.trans (frc (frl rfl) rfl) (gp2 rfl (asg (asg (asg rfl))))) ⟨_, rfl⟩ ?_
    (refine Sd.exec 18 rfl rfl rfl rfl rfl ?hrest (by rfl) (fun Xx42 Kx42 hKx42 => ?_); case hrest => kernel_rfl)
    refine RunL.mem (fl2 (flS (flS (flS rfl))) rfl) ?_
    refine RunL.call cal46 rfl (s46 (Rd.right rdx29).left.left.left.left.left.left.left) rfl (fun vx43 Ax43 hx43 => ?_)
    obtain ⟨x44, ⟨rfl, rfl⟩⟩ := hx43
    refine Sd.ret hKx42 (Eq.trans (frc (frl rfl) rfl) (gp2 rfl (asg (asg (asg (asg rfl)))))) ⟨_, rfl⟩ ?_
    refine Sd.quiet 19 _ _ rfl rfl rfl rfl rfl (QOp.ok (fun X => OpOk.as (c := false) (OpOk.neq rfl rfl) (by rw [decide_eq_true (by omega)]; rfl))) ?_
    refine Sd.quiet 20 _ _ rfl rfl rfl rfl rfl (QOp.ok (fun X => OpOk.pickF rfl rfl)) ?_
    refine Sd.quiet 21 _ _ rfl rfl rfl rfl rfl (QOp.ok (fun X => OpOk.move rfl)) ?_
    refine Sd.quiet 22 _ _ rfl rfl rfl rfl rfl (QOp.ok (fun X => OpOk.loadS rfl rfl ti86 rfl Blk.pts.left.left.left.left.left.left rfl)) ?_
    refine Sd.quiet 24 _ _ rfl rfl rfl rfl rfl (QOp.ok (fun X => OpOk.loadS rfl rfl ti89 rfl Blk.pts.left.left rfl)) ?_
    (refine Sd.exec 23 rfl rfl rfl rfl rfl ?hrest (by rfl) (fun Xx45 Kx45 hKx45 => ?_); case hrest => kernel_rfl)
    refine RunL.mem (fl2 (flS (flS (flS (flS rfl)))) rfl) ?_
    refine RunL.call cal47 rfl (s47 (Rd.right rdx28).left.left.left.left.left.left.left.left.left.left.left.left) rfl (fun vx46 Ax46 hx46 => ?_)
    obtain ⟨x47, ⟨rfl, rfl⟩⟩ := hx46
    refine Sd.ret hKx45 (Eq.trans (frc (frl rfl) rfl) (gp2 rfl (asg (asg (asg (asg (asg rfl))))))) ⟨_, rfl⟩ ?_
    (refine Sd.exec 25 rfl rfl rfl rfl rfl ?hrest (by rfl) (fun Xx48 Kx48 hKx48 => ?_); case hrest => kernel_rfl)
    refine RunL.mem (fl2 (flS (flS (flS (flS (flS rfl))))) rfl) ?_
    refine RunL.call cal48 rfl (s48 (Rd.right rdx29).left.left.left.left.left.left.left.left.left) rfl (fun vx49 Ax49 hx49 => ?_)
    obtain ⟨x50, ⟨rfl, rfl⟩⟩ := hx49
    refine Sd.ret hKx48 (Eq.trans (frc (frl rfl) rfl) (gp2 rfl (asg (asg (asg (asg (asg (asg rfl)))))))) ⟨_, rfl⟩ ?_
    refine Sd.quiet 26 _ _ rfl rfl rfl rfl rfl (QOp.ok (fun X => OpOk.as (c := false) (OpOk.neq rfl rfl) (by rw [decide_eq_true (by omega)]; rfl))) ?_
    refine Sd.quiet 27 _ _ rfl rfl rfl rfl rfl (QOp.ok (fun X => OpOk.pickF rfl rfl)) ?_
    refine Sd.quiet 28 _ _ rfl rfl rfl rfl rfl (QOp.ok (fun X => OpOk.move rfl)) ?_
    refine Sd.quiet 29 _ _ rfl rfl rfl rfl rfl (QOp.ok (fun X => OpOk.move rfl)) ?_
    refine Sd.quiet 32 _ _ rfl rfl rfl rfl rfl (QOp.ok (fun X => OpOk.move rfl)) ?_
    (refine Sd.exec 30 rfl rfl rfl rfl rfl ?hrest (by rfl) (fun Xx51 Kx51 hKx51 => ?_); case hrest => kernel_rfl)
    refine RunL.mem (fl2 (flS (flS (flS (flS (flS (flS rfl)))))) rfl) ?_
    refine RunL.call cal49 rfl (s49 (by assumption)) rfl (fun vx52 Ax52 hx52 => ?_)
    obtain rfl := hx52
    refine RunL.know (fun w s => (s.conv rfl).ownRd0) (fun rdx53 => ?_)
    refine Sd.ret hKx51 (Eq.trans rfl (gp2 (sep_emp _).symm (asg (asg (asg (asg (asg (asg (asg (asg rfl)))))))))) ⟨_, (asg rfl)⟩ ?_
    refine Sd.quiet 31 _ _ rfl rfl rfl rfl rfl (QOp.ok (fun X => OpOk.strOf rfl rfl rfl rfl (Rd.right (Rd.right rdx53)).left)) ?_
    (refine Sd.exec 33 rfl rfl rfl rfl rfl ?hrest (by rfl) (fun Xx54 Kx54 hKx54 => ?_); case hrest => kernel_rfl)
    refine RunL.mem (fl2 (flS (flS (flS (flS (flS (flS (flS (flS rfl)))))))) (sep_emp _)) ?_
    refine RunL.call cal41 rfl (s41 rd.left.left.left.left.left.left.left.left.left.left.left.left.left.left.left.left.left.left.left.left) rfl (fun vx55 Ax55 hx55 => ?_)
    obtain rfl := hx55
    refine RunL.know (fun w s => (s.conv rfl).ownRd0) (fun rdx56 => ?_)
    refine Sd.ret hKx54 (Eq.trans rfl (gp2 (sep_emp _).symm (asg (asg (asg (asg (asg (asg (asg (asg (asg rfl))))))))))) ⟨_, rfl⟩ ?_
    refine Sd.quiet 34 _ _ rfl rfl rfl rfl rfl (QOp.ok (fun X => OpOk.strOf rfl rfl rfl rfl (Rd.right (Rd.right rdx56)).left)) ?_
    refine Sd.quiet 35 _ _ rfl rfl rfl rfl rfl (QOp.ok (fun X => OpOk.neqSS rfl rfl)) ?_
    refine Sd.quiet 36 _ _ rfl rfl rfl rfl rfl (QOp.ok (fun X => OpOk.pickF rfl rfl)) ?_
    (apply Sd.tail; case hall => kernel_rfl)
    refine RunL.mem (fl2 (flS (flS (flS (flS (flS (flS (flS (flS (flS rfl))))))))) (sep_emp _)) ?_
    refine RunL.nil ?_
    refine Run.condNF rfl (by first | omega | with_reducible rfl | assumption) ?_
    refine Run.skip ?_
    refine Run.seq ?_
    refine Run.seq ?_
    refine Run.region ?_
    refine RunL.ok (OpOk.move rfl) rfl ?_
    refine RunL.ok (OpOk.asT (OpOk.lss rfl rfl) (by omega)) rfl ?_
    refine RunL.ok (OpOk.move rfl) rfl ?_
    refine RunL.off rfl rfl rfl rfl ?_
    refine RunL.off rfl rfl rfl rfl ?_
    refine RunL.ok (OpOk.pickT rfl rfl) rfl ?_
    refine RunL.nil ?_
    refine Run.condT rfl ?_
    refine Run.seq ?_
    refine Run.region ?_
    refine RunL.ok (OpOk.move rfl) rfl ?_
    refine RunL.ok (OpOk.asT (OpOk.eql rfl rfl) (by omega)) rfl ?_
    refine RunL.ok (OpOk.move rfl) rfl ?_
    refine RunL.on rfl rfl ?_
    refine RunL.ok (OpOk.move rfl) rfl ?_
    refine RunL.on rfl rfl ?_
    refine RunL.ok (OpOk.lenV rfl rfl rfl) rfl ?_
    refine RunL.on rfl rfl ?_
    refine RunL.ok (OpOk.asT (OpOk.eql rfl rfl) (by omega)) rfl ?_
    refine RunL.ok (OpOk.pickT rfl rfl) rfl ?_
    refine RunL.ok (OpOk.assign rfl) rfl ?_
    refine RunL.nil ?_
    refine Run.ret1 Try.func10 rfl rfl ?_
    exact ⟨_, rfl, (asg (asg (asg (asg (asg (asg (asg (asg (asg (asg (asg (asg (asg (asg (asg (asg (asg (asg (asg as1)))))))))))))))))))⟩
  · rcases Int.lt_or_le 5 s with hs5 | hs5
    · refine Run.seq ?_
      refine Run.region ?_
      refine RunL.box rfl rfl (fun bx1 => ?_)
      refine RunL.ok (OpOk.assign rfl) rfl ?_
      refine RunL.nil ?_
      refine Run.seq ?_
      (apply Run.drawD [] (by rfl) (sep_emp _).symm; case hchk => kernel_rfl)
      refine Sd.quiet 0 _ _ rfl rfl rfl rfl rfl (QOp.ok (fun X => OpOk.fieldAddr fld81_0 rfl)) ?_
      refine Sd.quiet 1 _ _ rfl rfl rfl rfl rfl (QOp.ok (fun X => OpOk.load rfl rfl rfl (Blk.out Blk.pts.left.left _ _ (by first | rfl | assumption)))) ?_
      refine Sd.quiet 2 _ _ rfl rfl rfl rfl rfl (QOp.ok (fun X => OpOk.fieldAddr fld81_1 rfl)) ?_
      refine Sd.quiet 3 _ _ rfl rfl rfl rfl rfl (QOp.ok (fun X => OpOk.load rfl rfl rfl (Blk.out Blk.pts.left.left _ _ (by first | rfl | assumption)))) ?_
      refine Sd.quiet 4 _ _ rfl rfl rfl rfl rfl (QOp.ok (fun X => OpOk.fieldAddr fld81_2 rfl)) ?_
      refine Sd.quiet 5 _ _ rfl rfl rfl rfl rfl (QOp.ok (fun X => OpOk.load rfl rfl rfl (Blk.out Blk.pts.left.left _ _ (by first | rfl | assumption)))) ?_
      refine Sd.quiet 6 _ _ rfl rfl rfl rfl rfl (QOp.ok (fun X => OpOk.fieldAddr fld81_3 rfl)) ?_
      refine Sd.quiet 7 _ _ rfl rfl rfl rfl rfl (QOp.ok (fun X => OpOk.load rfl rfl rfl (Blk.out Blk.pts.left.left _ _ (by first | rfl | assumption)))) ?_
      refine Sd.quiet 8 _ _ rfl rfl rfl rfl rfl (QOp.ok (fun X => OpOk.assign rfl)) ?_
      refine Sd.quiet 9 _ _ rfl rfl rfl rfl rfl (QOp.ok (fun X => OpOk.assign rfl)) ?_
      refine Sd.quiet 10 _ _ rfl rfl rfl rfl rfl (QOp.ok (fun X => OpOk.assign rfl)) ?_
      refine Sd.quiet 11 _ _ rfl rfl rfl rfl rfl (QOp.ok (fun X => OpOk.assign rfl)) ?_
      (apply Sd.tail; case hall => kernel_rfl)
      refine RunL.mem (fl2 (sep_emp _) (sep_emp _)) ?_
      refine RunL.nil ?_
      refine Run.seq ?_
      refine Run.seq ?_
      refine Run.region ?_
      refine RunL.call cal37 rfl (s37) rfl (fun vx2 Ax2 hx2 => ?_)
      obtain ⟨x3, ⟨rfl, rfl⟩⟩ := hx2
      refine RunL.ok (OpOk.not rfl) rfl ?_
      refine RunL.nil ?_
      refine Run.condF rfl ?_
      refine Run.skip ?_
      refine Run.seq ?_
      refine Run.region ?_
      refine RunL.ok (OpOk.move rfl) rfl ?_
      refine RunL.call cal38 rfl (s38 rd.left.left) rfl (fun vx4 Ax4 hx4 => ?_)
      obtain ⟨x5, ⟨x6, ⟨rfl, rfl⟩⟩⟩ := hx4
      refine RunL.ok (OpOk.assign rfl) rfl ?_
      refine RunL.nil ?_
      refine Run.seq ?_
      refine Run.seq ?_
      refine Run.region ?_
      refine RunL.ok (OpOk.move rfl) rfl ?_
      refine RunL.ok (OpOk.eqlPN rfl rfl) rfl ?_
      refine RunL.nil ?_
      refine Run.condF rfl ?_
      refine Run.skip ?_
      refine Run.seq ?_
      refine Run.region ?_
      refine RunL.ok (OpOk.move rfl) rfl ?_
      refine RunL.call cal39 rfl (s39f (by assumption)) rfl (fun vx11 Ax11 hx11 => ?_)
      obtain ⟨x12, ⟨x13, ⟨x14, ⟨rfl, rfl⟩⟩⟩⟩ := hx11
      refine RunL.ok (OpOk.move rfl) rfl ?_
      refine RunL.ok (OpOk.ext20 rfl) rfl ?_
      refine RunL.ok (OpOk.ext21 rfl) rfl ?_
      refine RunL.alloc ti86 rfl (fun bx15 => ?_)
      refine RunL.storeAll ti86 rfl rfl rfl (ones rfl) rfl rfl ?_
      refine RunL.ok (OpOk.assign rfl) rfl ?_
      refine RunL.nil ?_
      refine Run.seq ?_
      refine Run.region ?_
      refine RunL.ok (OpOk.move rfl) rfl ?_
      refine RunL.call cal41 rfl (s41 rd.left.left.left.left.left.left.left) rfl (fun vx16 Ax16 hx16 => ?_)
      obtain rfl := hx16
      refine RunL.know (fun w s => (s.conv rfl).ownRd0) (fun rdx17 => ?_)
      refine RunL.call cal40 rfl (s40e (Rd.right rdx17) rfl (by assumption)) rfl (fun vx22 Ax22 hx22 => ?_)
      obtain ⟨x23, ⟨x24, ⟨x25, ⟨rfl, rfl⟩⟩⟩⟩ := hx22
      refine RunL.ok (OpOk.move rfl) rfl ?_
      refine RunL.ok (OpOk.ext20 rfl) rfl ?_
      refine RunL.ok (OpOk.ext21 rfl) rfl ?_
      refine RunL.alloc ti89 rfl (fun bx26 => ?_)
      refine RunL.storeAll ti89 rfl rfl rfl (ones rfl) rfl rfl ?_
      refine RunL.ok (OpOk.assign rfl) rfl ?_
      refine RunL.nil ?_
      refine Run.seq ?_
      refine Run.region ?_
      refine RunL.ok (OpOk.move rfl) rfl ?_
      refine RunL.ok (OpOk.move rfl) rfl ?_
      refine RunL.mem (frc (frl (frl (frl (frl (frl rfl))))) rfl) ?_
      refine RunL.call cal42 rfl (s42a (by omega)) rfl (fun vx27 Ax27 hx27 => ?_)
      obtain ⟨rfl, rfl⟩ := hx27
      refine RunL.ok (OpOk.move rfl) rfl ?_
      refine RunL.ok (OpOk.ext20 rfl) rfl ?_
      refine RunL.ok (OpOk.ext21 rfl) rfl ?_
      refine RunL.ok (OpOk.assign rfl) rfl ?_
      refine RunL.ok (OpOk.assign rfl) rfl ?_
      refine RunL.nil ?_
      refine Run.seq ?_
      refine Run.seq ?_
      refine Run.know (fun w s => (s.conv (frl (frl (frl (frl (frl (frl rfl))))))).ownRd0) (fun rdx28 => ?_)
      refine Run.know (fun w s => (s.conv (frl (frl rfl))).ownRd0) (fun rdx29 => ?_)
      (apply Run.drawD [] (by rfl) (Eq.trans rfl rfl); case hchk => kernel_rfl)
      refine Sd.quiet 0 _ _ rfl rfl rfl rfl rfl (QOp.ok (fun X => OpOk.loadS rfl rfl ti86 rfl Blk.pts.left.left.left.left.left.left rfl)) ?_
      refine Sd.quiet 2 _ _ rfl rfl rfl rfl rfl (QOp.ok (fun X => OpOk.loadS rfl rfl ti89 rfl Blk.pts.left.left rfl)) ?_
      (refine Sd.exec 1 rfl rfl rfl rfl rfl ?hrest (by rfl) (fun Xx30 Kx30 hKx30 => ?_); case hrest => kernel_rfl)
      refine RunL.mem (fl2 (sep_emp _) rfl) ?_
      refine RunL.call cal44 rfl (s44 (Rd.right rdx28).left.left.left.left.left.left.left (by assumption)) rfl (fun vx31 Ax31 hx31 => ?_)
      obtain ⟨x32, ⟨x33, ⟨x34, ⟨rfl, rfl⟩⟩⟩⟩ := hx31
      refine RunL.know (fun w s => (s.conv rfl).ownRd0) (fun rdx35 => ?_)
      refine Sd.ret hKx30 (Eq.trans (frc (frl (frl rfl)) rfl) (gp2 rfl (asg rfl))) ⟨_, (emp_sep _).symm⟩ ?_
      (refine Sd.exec 3 rfl rfl rfl rfl rfl ?hrest (by rfl) (fun Xx36 Kx36 hKx36 => ?_); case hrest => kernel_rfl)
      refine RunL.mem (fl2 (flS rfl) rfl) ?_
      refine RunL.call cal43 rfl (s43 (Rd.right rdx35).left (Rd.right rdx29).left.left.left.left.left) rfl (fun vx37 Ax37 hx37 => ?_)
      obtain ⟨x38, ⟨rfl, rfl⟩⟩ := hx37
      refine Sd.ret hKx36 (Eq.trans (frc (frl rfl) rfl) (gp2 rfl (asg (asg rfl)))) ⟨_, rfl⟩ ?_
      refine Sd.quiet 4 _ _ rfl rfl rfl rfl rfl (QOp.ok (fun X => OpOk.not rfl)) ?_
      refine Sd.quiet 5 _ _ rfl rfl rfl rfl rfl (QOp.ok (fun X => OpOk.move rfl)) ?_
      refine Sd.quiet 6 _ _ rfl rfl rfl rfl rfl (QOp.ok (fun X => OpOk.move rfl)) ?_
      refine Sd.quiet 7 _ _ rfl rfl rfl rfl rfl (QOp.ok (fun X => OpOk.move rfl)) ?_
      refine Sd.quiet 8 _ _ rfl rfl rfl rfl rfl (QOp.ok (fun X => OpOk.as (c := false) (OpOk.neq rfl rfl) (by rw [decide_eq_true (by omega)]; rfl))) ?_
      refine Sd.quiet 9 _ _ rfl rfl rfl rfl rfl (QOp.ok (fun X => OpOk.pickF rfl rfl)) ?_
      refine Sd.quiet 10 _ _ rfl rfl rfl rfl rfl (QOp.ok (fun X => OpOk.move rfl)) ?_
      refine Sd.quiet 11 _ _ rfl rfl rfl rfl rfl (QOp.ok (fun X => OpOk.loadS rfl rfl ti86 rfl Blk.pts.left.left.left.left.left.left rfl)) ?_
      refine Sd.quiet 12 _ _ rfl rfl rfl rfl rfl (QOp.ok (fun X => OpOk.move rfl)) ?_
      refine Sd.quiet 13 _ _ rfl rfl rfl rfl rfl (QOp.ok (fun X => OpOk.move rfl)) ?_
      refine Sd.quiet 15 _ _ rfl rfl rfl rfl rfl (QOp.ok (fun X => OpOk.loadS rfl rfl ti89 rfl Blk.pts.left.left rfl)) ?_
      refine Sd.quiet 16 _ _ rfl rfl rfl rfl rfl (QOp.ok (fun X => OpOk.move rfl)) ?_
      refine Sd.quiet 17 _ _ rfl rfl rfl rfl rfl (QOp.ok (fun X => OpOk.move rfl)) ?_
      (refine Sd.exec 14 rfl rfl rfl rfl rfl ?hrest (by rfl) (fun Xx39 Kx39 hKx39 => ?_); case hrest => kernel_rfl)
      refine RunL.mem (fl2 (flS (flS rfl)) rfl) ?_
      refine RunL.call cal45 rfl (s45 (Rd.right rdx28).left.left.left.left.left.left.left.left.left.left) rfl (fun vx40 Ax40 hx40 => ?_)
      obtain ⟨x41, ⟨rfl, rfl⟩⟩ := hx40
      refine Sd.ret hKx39 (Eq.trans (frc (frl rfl) rfl) (gp2 rfl (asg (asg (asg rfl))))) ⟨_, rfl⟩ ?_
      (refine Sd.exec 18 rfl rfl rfl rfl rfl ?hrest (by rfl) (fun Xx42 Kx42 hKx42 => ?_); case hrest => kernel_rfl)
      refine RunL.mem (fl2 (flS (flS (flS rfl))) rfl) ?_
      refine RunL.call cal46 rfl (s46 (Rd.right rdx29).left.left.left.left.left.left.left) rfl (fun vx43 Ax43 hx43 => ?_)
      obtain ⟨x44, ⟨rfl, rfl⟩⟩ := hx43
      refine Sd.ret hKx42 (Eq.trans (frc (frl rfl) rfl) (gp2 rfl (asg (asg (asg (asg rfl)))))) ⟨_, rfl⟩ ?_
      refine Sd.quiet 19 _ _ rfl rfl rfl rfl rfl (QOp.ok (fun X => OpOk.as (c := false) (OpOk.neq rfl rfl) (by rw [decide_eq_true (by omega)]; rfl))) ?_
      refine Sd.quiet 20 _ _ rfl rfl rfl rfl rfl (QOp.ok (fun X => OpOk.pickF rfl rfl)) ?_
      refine Sd.quiet 21 _ _ rfl rfl rfl rfl rfl (QOp.ok (fun X => OpOk.move rfl)) ?_
      refine Sd.quiet 22 _ _ rfl rfl rfl rfl rfl (QOp.ok (fun X => OpOk.loadS rfl rfl ti86 rfl Blk.pts.left.left.left.left.left.left rfl)) ?_
      refine Sd.quiet 24 _ _ rfl rfl rfl rfl rfl (QOp.ok (fun X => OpOk.loadS rfl rfl ti89 rfl Blk.pts.left.left rfl)) ?_
      (refine Sd.exec 23 rfl rfl rfl rfl rfl ?hrest (by rfl) (fun Xx45 Kx45 hKx45 => ?_); case hrest => kernel_rfl)
      refine RunL.mem (fl2 (flS (flS (flS (flS rfl)))) rfl) ?_
      refine RunL.call cal47 rfl (s47 (Rd.right rdx28).left.left.left.left.left.left.left.left.left.left.left.left) rfl (fun vx46 Ax46 hx46 => ?_)
      obtain ⟨x47, ⟨rfl, rfl⟩⟩ := hx46
      refine Sd.ret hKx45 (Eq.trans (frc (frl rfl) rfl) (gp2 rfl (asg (asg (asg (asg (asg rfl))))))) ⟨_, rfl⟩ ?_
      (refine Sd.exec 25 rfl rfl rfl rfl rfl ?hrest (by rfl) (fun Xx48 Kx48 hKx48 => ?_); case hrest => kernel_rfl)
      refine RunL.mem (fl2 (flS (flS (flS (flS (flS rfl))))) rfl) ?_
      refine RunL.call cal48 rfl (s48 (Rd.right rdx29).left.left.left.left.left.left.left.left.left) rfl (fun vx49 Ax49 hx49 => ?_)
      obtain ⟨x50, ⟨rfl, rfl⟩⟩ := hx49
      refine Sd.ret hKx48 (Eq.trans (frc (frl rfl) rfl) (gp2 rfl (asg (asg (asg (asg (asg (asg rfl)))))))) ⟨_, rfl⟩ ?_
      refine Sd.quiet 26 _ _ rfl rfl rfl rfl rfl (QOp.ok (fun X => OpOk.as (c := false) (OpOk.neq rfl rfl) (by rw [decide_eq_true (by omega)]; rfl))) ?_
      refine Sd.quiet 27 _ _ rfl rfl rfl rfl rfl (QOp.ok (fun X => OpOk.pickF rfl rfl)) ?_
      refine Sd.quiet 28 _ _ rfl rfl rfl rfl rfl (QOp.ok (fun X => OpOk.move rfl)) ?_
      refine Sd.quiet 29 _ _ rfl rfl rfl rfl rfl (QOp.ok (fun X => OpOk.move rfl)) ?_
      refine Sd.quiet 32 _ _ rfl rfl rfl rfl rfl (QOp.ok (fun X => OpOk.move rfl)) ?_
      (refine Sd.exec 30 rfl rfl rfl rfl rfl ?hrest (by rfl) (fun Xx51 Kx51 hKx51 => ?_); case hrest => kernel_rfl)
      refine RunL.mem (fl2 (flS (flS (flS (flS (flS (flS rfl)))))) rfl) ?_
      refine RunL.call cal49 rfl (s49 (by assumption)) rfl (fun vx52 Ax52 hx52 => ?_)
      obtain rfl := hx52
      refine RunL.know (fun w s => (s.conv rfl).ownRd0) (fun rdx53 => ?_)
      refine Sd.ret hKx51 (Eq.trans rfl (gp2 (sep_emp _).symm (asg (asg (asg (asg (asg (asg (asg (asg rfl)))))))))) ⟨_, (asg rfl)⟩ ?_
      refine Sd.quiet 31 _ _ rfl rfl rfl rfl rfl (QOp.ok (fun X => OpOk.strOf rfl rfl rfl rfl (Rd.right (Rd.right rdx53)).left)) ?_
      (refine Sd.exec 33 rfl rfl rfl rfl rfl ?hrest (by rfl) (fun Xx54 Kx54 hKx54 => ?_); case hrest => kernel_rfl)
      refine RunL.mem (fl2 (flS (flS (flS (flS (flS (flS (flS (flS rfl)))))))) (sep_emp _)) ?_
      refine RunL.call cal41 rfl (s41 rd.left.left.left.left.left.left.left.left.left.left.left.left.left.left.left.left.left.left.left.left) rfl (fun vx55 Ax55 hx55 => ?_)
      obtain rfl := hx55
      refine RunL.know (fun w s => (s.conv rfl).ownRd0) (fun rdx56 => ?_)
      refine Sd.ret hKx54 (Eq.trans rfl (gp2 (sep_emp _).symm (asg (asg (asg (asg (asg (asg (asg (asg (asg rfl))))))))))) ⟨_, rfl⟩ ?_
      refine Sd.quiet 34 _ _ rfl rfl rfl rfl rfl (QOp.ok (fun X => OpOk.strOf rfl rfl rfl rfl (Rd.right (Rd.right rdx56)).left)) ?_
      refine Sd.quiet 35 _ _ rfl rfl rfl rfl rfl (QOp.ok (fun X => OpOk.neqSS rfl rfl)) ?_
      refine Sd.quiet 36 _ _ rfl rfl rfl rfl rfl (QOp.ok (fun X => OpOk.pickF rfl rfl)) ?_
      (apply Sd.tail; case hall => kernel_rfl)
      refine RunL.mem (fl2 (flS (flS (flS (flS (flS (flS (flS (flS (flS rfl))))))))) (sep_emp _)) ?_
      refine RunL.nil ?_
      refine Run.condNF rfl (by first | omega | with_reducible rfl | assumption) ?_
      refine Run.skip ?_
      refine Run.seq ?_
      refine Run.seq ?_
      refine Run.region ?_
      refine RunL.ok (OpOk.move rfl) rfl ?_
      refine RunL.ok (OpOk.asF (OpOk.lss rfl rfl) (by omega)) rfl ?_
      refine RunL.ok (OpOk.move rfl) rfl ?_
      refine RunL.on rfl rfl ?_
      refine RunL.ok (OpOk.move rfl) rfl ?_
      refine RunL.on rfl rfl ?_
      refine RunL.ok (OpOk.asT (OpOk.gtr rfl rfl) (by omega)) rfl ?_
      refine RunL.ok (OpOk.pickF rfl rfl) rfl ?_
      refine RunL.nil ?_
      refine Run.condT rfl ?_
      refine Run.seq ?_
      refine Run.region ?_
      refine RunL.ok (OpOk.move rfl) rfl ?_
      refine RunL.ok (OpOk.asT (OpOk.eql rfl rfl) (by omega)) rfl ?_
      refine RunL.ok (OpOk.move rfl) rfl ?_
      refine RunL.on rfl rfl ?_
      refine RunL.ok (OpOk.move rfl) rfl ?_
      refine RunL.on rfl rfl ?_
      refine RunL.ok (OpOk.lenV rfl rfl rfl) rfl ?_
      refine RunL.on rfl rfl ?_
      refine RunL.ok (OpOk.asT (OpOk.eql rfl rfl) (by omega)) rfl ?_
      refine RunL.ok (OpOk.pickT rfl rfl) rfl ?_
      refine RunL.ok (OpOk.assign rfl) rfl ?_
      refine RunL.nil ?_
      refine Run.ret1 Try.func10 rfl rfl ?_
      exact ⟨_, rfl, (asg (asg (asg (asg (asg (asg (asg (asg (asg (asg (asg (asg (asg (asg (asg (asg (asg (asg (asg as1)))))))))))))))))))⟩
    · obtain ⟨S, rfl⟩ := Int.eq_ofNat_of_zero_le hs0
      have hbi : secOf (imgB bs) (3 + 2 * (S : Int)).toNat ++ secOf (imgB bs) (3 + 2 * (S : Int) + 1).toNat = ((imgB bs).drop (96 + 64 * S)).take (160 + 64 * S - (96 + 64 * S)) := by
        rw [body_is hl (s := S) (by omega), show (3 + 2 * (S : Int)).toNat = 3 + 2 * S by omega, show (3 + 2 * (S : Int) + 1).toNat = 3 + 2 * S + 1 by omega]
      refine Run.seq ?_
      refine Run.region ?_
      refine RunL.box rfl rfl (fun bx1 => ?_)
      refine RunL.ok (OpOk.assign rfl) rfl ?_
      refine RunL.nil ?_
      refine Run.seq ?_
      (apply Run.drawD [] (by rfl) (sep_emp _).symm; case hchk => kernel_rfl)
      refine Sd.quiet 0 _ _ rfl rfl rfl rfl rfl (QOp.ok (fun X => OpOk.fieldAddr fld81_0 rfl)) ?_
      refine Sd.quiet 1 _ _ rfl rfl rfl rfl rfl (QOp.ok (fun X => OpOk.load rfl rfl rfl (Blk.out Blk.pts.left.left _ _ (by first | rfl | assumption)))) ?_
      refine Sd.quiet 2 _ _ rfl rfl rfl rfl rfl (QOp.ok (fun X => OpOk.fieldAddr fld81_1 rfl)) ?_
      refine Sd.quiet 3 _ _ rfl rfl rfl rfl rfl (QOp.ok (fun X => OpOk.load rfl rfl rfl (Blk.out Blk.pts.left.left _ _ (by first | rfl | assumption)))) ?_
      refine Sd.quiet 4 _ _ rfl rfl rfl rfl rfl (QOp.ok (fun X => OpOk.fieldAddr fld81_2 rfl)) ?_
      refine Sd.quiet 5 _ _ rfl rfl rfl rfl rfl (QOp.ok (fun X => OpOk.load rfl rfl rfl (Blk.out Blk.pts.left.left _ _ (by first | rfl | assumption)))) ?_
      refine Sd.quiet 6 _ _ rfl rfl rfl rfl rfl (QOp.ok (fun X => OpOk.fieldAddr fld81_3 rfl)) ?_
      refine Sd.quiet 7 _ _ rfl rfl rfl rfl rfl (QOp.ok (fun X => OpOk.load rfl rfl rfl (Blk.out Blk.pts.left.left _ _ (by first | rfl | assumption)))) ?_
      refine Sd.quiet 8 _ _ rfl rfl rfl rfl rfl (QOp.ok (fun X => OpOk.assign rfl)) ?_
      refine Sd.quiet 9 _ _ rfl rfl rfl rfl rfl (QOp.ok (fun X => OpOk.assign rfl)) ?_
      refine Sd.quiet 10 _ _ rfl rfl rfl rfl rfl (QOp.ok (fun X => OpOk.assign rfl)) ?_
      refine Sd.quiet 11 _ _ rfl rfl rfl rfl rfl (QOp.ok (fun X => OpOk.assign rfl)) ?_
      (apply Sd.tail; case hall => kernel_rfl)
      refine RunL.mem (fl2 (sep_emp _) (sep_emp _)) ?_
      refine RunL.nil ?_
      refine Run.seq ?_
      refine Run.seq ?_
      refine Run.region ?_
      refine RunL.call cal37 rfl (s37) rfl (fun vx2 Ax2 hx2 => ?_)
      obtain ⟨x3, ⟨rfl, rfl⟩⟩ := hx2
      refine RunL.ok (OpOk.not rfl) rfl ?_
      refine RunL.nil ?_
      refine Run.condF rfl ?_
      refine Run.skip ?_
      refine Run.seq ?_
      refine Run.region ?_
      refine RunL.ok (OpOk.move rfl) rfl ?_
      refine RunL.call cal38 rfl (s38 rd.left.left) rfl (fun vx4 Ax4 hx4 => ?_)
      obtain ⟨x5, ⟨x6, ⟨rfl, rfl⟩⟩⟩ := hx4
      refine RunL.ok (OpOk.assign rfl) rfl ?_
      refine RunL.nil ?_
      refine Run.seq ?_
      refine Run.seq ?_
      refine Run.region ?_
      refine RunL.ok (OpOk.move rfl) rfl ?_
      refine RunL.ok (OpOk.eqlPN rfl rfl) rfl ?_
      refine RunL.nil ?_
      refine Run.condF rfl ?_
      refine Run.skip ?_
      refine Run.seq ?_
      refine Run.region ?_
      refine RunL.ok (OpOk.move rfl) rfl ?_
      refine RunL.call cal39 rfl (s39f (by assumption)) rfl (fun vx11 Ax11 hx11 => ?_)
      obtain ⟨x12, ⟨x13, ⟨x14, ⟨rfl, rfl⟩⟩⟩⟩ := hx11
      refine RunL.ok (OpOk.move rfl) rfl ?_
      refine RunL.ok (OpOk.ext20 rfl) rfl ?_
      refine RunL.ok (OpOk.ext21 rfl) rfl ?_
      refine RunL.alloc ti86 rfl (fun bx15 => ?_)
      refine RunL.storeAll ti86 rfl rfl rfl (ones rfl) rfl rfl ?_
      refine RunL.ok (OpOk.assign rfl) rfl ?_
      refine RunL.nil ?_
      refine Run.seq ?_
      refine Run.region ?_
      refine RunL.ok (OpOk.move rfl) rfl ?_
      refine RunL.call cal41 rfl (s41 rd.left.left.left.left.left.left.left) rfl (fun vx16 Ax16 hx16 => ?_)
      obtain rfl := hx16
      refine RunL.know (fun w s => (s.conv rfl).ownRd0) (fun rdx17 => ?_)
      refine RunL.call cal40 rfl (s40e (Rd.right rdx17) rfl (by assumption)) rfl (fun vx22 Ax22 hx22 => ?_)
      obtain ⟨x23, ⟨x24, ⟨x25, ⟨rfl, rfl⟩⟩⟩⟩ := hx22
      refine RunL.ok (OpOk.move rfl) rfl ?_
      refine RunL.ok (OpOk.ext20 rfl) rfl ?_
      refine RunL.ok (OpOk.ext21 rfl) rfl ?_
      refine RunL.alloc ti89 rfl (fun bx26 => ?_)
      refine RunL.storeAll ti89 rfl rfl rfl (ones rfl) rfl rfl ?_
      refine RunL.ok (OpOk.assign rfl) rfl ?_
      refine RunL.nil ?_
      refine Run.seq ?_
      refine Run.region ?_
      refine RunL.ok (OpOk.move rfl) rfl ?_
      refine RunL.ok (OpOk.move rfl) rfl ?_
      refine RunL.mem (frc (frl (frl (frl (frl (frl rfl))))) rfl) ?_
      refine RunL.call cal42 rfl (s42b (by assumption) (by assumption) (by omega)) rfl (fun vx28 Ax28 hx28 => ?_)
      obtain ⟨x29, ⟨x30, ⟨rfl, rfl⟩⟩⟩ := hx28
      refine RunL.ok (OpOk.move rfl) rfl ?_
      refine RunL.ok (OpOk.ext20 rfl) rfl ?_
      refine RunL.ok (OpOk.ext21 rfl) rfl ?_
      refine RunL.ok (OpOk.assign rfl) rfl ?_
      refine RunL.ok (OpOk.assign rfl) rfl ?_
      refine RunL.nil ?_
      refine Run.seq ?_
      refine Run.seq ?_
      refine Run.know (fun w s => (s.conv (frl (frl (frl (frl (frl (frl (frl (frl rfl))))))))).ownRd0) (fun rdx31 => ?_)
      refine Run.know (fun w s => (s.conv (frl (frl (frl (frl rfl))))).ownRd0) (fun rdx32 => ?_)
      refine Run.know (fun w s => (s.conv (frl rfl)).ownRd0) (fun rdx33 => ?_)
      (apply Run.drawD [] (by rfl) (Eq.trans rfl rfl); case hchk => kernel_rfl)
      refine Sd.quiet 0 _ _ rfl rfl rfl rfl rfl (QOp.ok (fun X => OpOk.loadS rfl rfl ti86 rfl Blk.pts.left.left.left.left.left.left.left.left rfl)) ?_
      refine Sd.quiet 2 _ _ rfl rfl rfl rfl rfl (QOp.ok (fun X => OpOk.loadS rfl rfl ti89 rfl Blk.pts.left.left.left.left rfl)) ?_
      (refine Sd.exec 1 rfl rfl rfl rfl rfl ?hrest (by rfl) (fun Xx34 Kx34 hKx34 => ?_); case hrest => kernel_rfl)
      refine RunL.mem (fl2 (sep_emp _) rfl) ?_
      refine RunL.call cal44 rfl (s44 (Rd.right rdx31).left.left.left.left.left.left.left.left.left (by assumption)) rfl (fun vx35 Ax35 hx35 => ?_)
      obtain ⟨x36, ⟨x37, ⟨x38, ⟨rfl, rfl⟩⟩⟩⟩ := hx35
      refine RunL.know (fun w s => (s.conv rfl).ownRd0) (fun rdx39 => ?_)
      refine Sd.ret hKx34 (Eq.trans (frc (frl (frl rfl)) rfl) (gp2 rfl (asg rfl))) ⟨_, (emp_sep _).symm⟩ ?_
      (refine Sd.exec 3 rfl rfl rfl rfl rfl ?hrest (by rfl) (fun Xx40 Kx40 hKx40 => ?_); case hrest => kernel_rfl)
      refine RunL.mem (fl2 (flS rfl) rfl) ?_
      refine RunL.call cal43 rfl (s43 (Rd.right rdx39).left (Rd.right rdx32).left.left.left.left.left.left.left) rfl (fun vx41 Ax41 hx41 => ?_)
      obtain ⟨x42, ⟨rfl, rfl⟩⟩ := hx41
      refine Sd.ret hKx40 (Eq.trans (frc (frl rfl) rfl) (gp2 rfl (asg (asg rfl)))) ⟨_, rfl⟩ ?_
      refine Sd.quiet 4 _ _ rfl rfl rfl rfl rfl (QOp.ok (fun X => OpOk.not rfl)) ?_
      refine Sd.quiet 5 _ _ rfl rfl rfl rfl rfl (QOp.ok (fun X => OpOk.move rfl)) ?_
      refine Sd.quiet 6 _ _ rfl rfl rfl rfl rfl (QOp.ok (fun X => OpOk.move rfl)) ?_
      refine Sd.quiet 7 _ _ rfl rfl rfl rfl rfl (QOp.ok (fun X => OpOk.move rfl)) ?_
      refine Sd.quiet 8 _ _ rfl rfl rfl rfl rfl (QOp.ok (fun X => OpOk.as (c := false) (OpOk.neq rfl rfl) (by rw [decide_eq_true (by omega)]; rfl))) ?_
      refine Sd.quiet 9 _ _ rfl rfl rfl rfl rfl (QOp.ok (fun X => OpOk.pickF rfl rfl)) ?_
      refine Sd.quiet 10 _ _ rfl rfl rfl rfl rfl (QOp.ok (fun X => OpOk.move rfl)) ?_
      refine Sd.quiet 11 _ _ rfl rfl rfl rfl rfl (QOp.ok (fun X => OpOk.loadS rfl rfl ti86 rfl Blk.pts.left.left.left.left.left.left.left.left rfl)) ?_
      refine Sd.quiet 12 _ _ rfl rfl rfl rfl rfl (QOp.ok (fun X => OpOk.move rfl)) ?_
      refine Sd.quiet 13 _ _ rfl rfl rfl rfl rfl (QOp.ok (fun X => OpOk.move rfl)) ?_
      refine Sd.quiet 15 _ _ rfl rfl rfl rfl rfl (QOp.ok (fun X => OpOk.loadS rfl rfl ti89 rfl Blk.pts.left.left.left.left rfl)) ?_
      refine Sd.quiet 16 _ _ rfl rfl rfl rfl rfl (QOp.ok (fun X => OpOk.move rfl)) ?_
      refine Sd.quiet 17 _ _ rfl rfl rfl rfl rfl (QOp.ok (fun X => OpOk.move rfl)) ?_
      (refine Sd.exec 14 rfl rfl rfl rfl rfl ?hrest (by rfl) (fun Xx43 Kx43 hKx43 => ?_); case hrest => kernel_rfl)
      refine RunL.mem (fl2 (flS (flS rfl)) rfl) ?_
      refine RunL.call cal45 rfl (s45 (Rd.right rdx31).left.left.left.left.left.left.left.left.left.left.left.left) rfl (fun vx44 Ax44 hx44 => ?_)
      obtain ⟨x45, ⟨rfl, rfl⟩⟩ := hx44
      refine Sd.ret hKx43 (Eq.trans (frc (frl rfl) rfl) (gp2 rfl (asg (asg (asg rfl))))) ⟨_, rfl⟩ ?_
      (refine Sd.exec 18 rfl rfl rfl rfl rfl ?hrest (by rfl) (fun Xx46 Kx46 hKx46 => ?_); case hrest => kernel_rfl)
      refine RunL.mem (fl2 (flS (flS (flS rfl))) rfl) ?_
      refine RunL.call cal46 rfl (s46 (Rd.right rdx32).left.left.left.left.left.left.left.left.left) rfl (fun vx47 Ax47 hx47 => ?_)
      obtain ⟨x48, ⟨rfl, rfl⟩⟩ := hx47
      refine Sd.ret hKx46 (Eq.trans (frc (frl rfl) rfl) (gp2 rfl (asg (asg (asg (asg rfl)))))) ⟨_, rfl⟩ ?_
      refine Sd.quiet 19 _ _ rfl rfl rfl rfl rfl (QOp.ok (fun X => OpOk.as (c := false) (OpOk.neq rfl rfl) (by rw [decide_eq_true (by omega)]; rfl))) ?_
      refine Sd.quiet 20 _ _ rfl rfl rfl rfl rfl (QOp.ok (fun X => OpOk.pickF rfl rfl)) ?_
      refine Sd.quiet 21 _ _ rfl rfl rfl rfl rfl (QOp.ok (fun X => OpOk.move rfl)) ?_
      refine Sd.quiet 22 _ _ rfl rfl rfl rfl rfl (QOp.ok (fun X => OpOk.loadS rfl rfl ti86 rfl Blk.pts.left.left.left.left.left.left.left.left rfl)) ?_
      refine Sd.quiet 24 _ _ rfl rfl rfl rfl rfl (QOp.ok (fun X => OpOk.loadS rfl rfl ti89 rfl Blk.pts.left.left.left.left rfl)) ?_
      (refine Sd.exec 23 rfl rfl rfl rfl rfl ?hrest (by rfl) (fun Xx49 Kx49 hKx49 => ?_); case hrest => kernel_rfl)
      refine RunL.mem (fl2 (flS (flS (flS (flS rfl)))) rfl) ?_
      refine RunL.call cal47 rfl (s47 (Rd.right rdx31).left.left.left.left.left.left.left.left.left.left.left.left.left.left) rfl (fun vx50 Ax50 hx50 => ?_)
      obtain ⟨x51, ⟨rfl, rfl⟩⟩ := hx50
      refine Sd.ret hKx49 (Eq.trans (frc (frl rfl) rfl) (gp2 rfl (asg (asg (asg (asg (asg rfl))))))) ⟨_, rfl⟩ ?_
      (refine Sd.exec 25 rfl rfl rfl rfl rfl ?hrest (by rfl) (fun Xx52 Kx52 hKx52 => ?_); case hrest => kernel_rfl)
      refine RunL.mem (fl2 (flS (flS (flS (flS (flS rfl))))) rfl) ?_
      refine RunL.call cal48 rfl (s48 (Rd.right rdx32).left.left.left.left.left.left.left.left.left.left.left) rfl (fun vx53 Ax53 hx53 => ?_)
      obtain ⟨x54, ⟨rfl, rfl⟩⟩ := hx53
      refine Sd.ret hKx52 (Eq.trans (frc (frl rfl) rfl) (gp2 rfl (asg (asg (asg (asg (asg (asg rfl)))))))) ⟨_, rfl⟩ ?_
      refine Sd.quiet 26 _ _ rfl rfl rfl rfl rfl (QOp.ok (fun X => OpOk.as (c := false) (OpOk.neq rfl rfl) (by rw [decide_eq_true (by omega)]; rfl))) ?_
      refine Sd.quiet 27 _ _ rfl rfl rfl rfl rfl (QOp.ok (fun X => OpOk.pickF rfl rfl)) ?_
      refine Sd.quiet 28 _ _ rfl rfl rfl rfl rfl (QOp.ok (fun X => OpOk.move rfl)) ?_
      refine Sd.quiet 29 _ _ rfl rfl rfl rfl rfl (QOp.ok (fun X => OpOk.move rfl)) ?_
      refine Sd.quiet 32 _ _ rfl rfl rfl rfl rfl (QOp.ok (fun X => OpOk.move rfl)) ?_
      (refine Sd.exec 30 rfl rfl rfl rfl rfl ?hrest (by rfl) (fun Xx55 Kx55 hKx55 => ?_); case hrest => kernel_rfl)
      refine RunL.mem (fl2 (flS (flS (flS (flS (flS (flS rfl)))))) rfl) ?_
      refine RunL.call cal49 rfl (s49 (by assumption)) rfl (fun vx56 Ax56 hx56 => ?_)
      obtain rfl := hx56
      refine RunL.know (fun w s => (s.conv rfl).ownRd0) (fun rdx57 => ?_)
      refine Sd.ret hKx55 (Eq.trans rfl (gp2 (sep_emp _).symm (asg (asg (asg (asg (asg (asg (asg (asg rfl)))))))))) ⟨_, (asg rfl)⟩ ?_
      refine Sd.quiet 31 _ _ rfl rfl rfl rfl rfl (QOp.ok (fun X => OpOk.strOf rfl rfl rfl rfl (Rd.right (Rd.right rdx57)).left)) ?_
      (refine Sd.exec 33 rfl rfl rfl rfl rfl ?hrest (by rfl) (fun Xx58 Kx58 hKx58 => ?_); case hrest => kernel_rfl)
      refine RunL.mem (fl2 (flS (flS (flS (flS (flS (flS (flS (flS rfl)))))))) (sep_emp _)) ?_
      refine RunL.call cal41 rfl (s41 rd.left.left.left.left.left.left.left.left.left.left.left.left.left.left.left.left.left.left.left.left.left.left) rfl (fun vx59 Ax59 hx59 => ?_)
      obtain rfl := hx59
      refine RunL.know (fun w s => (s.conv rfl).ownRd0) (fun rdx60 => ?_)
      refine Sd.ret hKx58 (Eq.trans rfl (gp2 (sep_emp _).symm (asg (asg (asg (asg (asg (asg (asg (asg (asg rfl))))))))))) ⟨_, rfl⟩ ?_
      refine Sd.quiet 34 _ _ rfl rfl rfl rfl rfl (QOp.ok (fun X => OpOk.strOf rfl rfl rfl rfl (Rd.right (Rd.right rdx60)).left)) ?_
      refine Sd.quiet 35 _ _ rfl rfl rfl rfl rfl (QOp.ok (fun X => OpOk.neqSS rfl rfl)) ?_
      refine Sd.quiet 36 _ _ rfl rfl rfl rfl rfl (QOp.ok (fun X => OpOk.pickF rfl rfl)) ?_
      (apply Sd.tail; case hall => kernel_rfl)
      refine RunL.mem (fl2 (flS (flS (flS (flS (flS (flS (flS (flS (flS rfl))))))))) (sep_emp _)) ?_
      refine RunL.nil ?_
      refine Run.condNF rfl (by first | omega | with_reducible rfl | assumption) ?_
      refine Run.skip ?_
      refine Run.seq ?_
      refine Run.seq ?_
      refine Run.region ?_
      refine RunL.ok (OpOk.move rfl) rfl ?_
      refine RunL.ok (OpOk.asF (OpOk.lss rfl rfl) (by omega)) rfl ?_
      refine RunL.ok (OpOk.move rfl) rfl ?_
      refine RunL.on rfl rfl ?_
      refine RunL.ok (OpOk.move rfl) rfl ?_
      refine RunL.on rfl rfl ?_
      refine RunL.ok (OpOk.asF (OpOk.gtr rfl rfl) (by omega)) rfl ?_
      refine RunL.ok (OpOk.pickF rfl rfl) rfl ?_
      refine RunL.nil ?_
      refine Run.condF rfl ?_
      refine Run.skip ?_
      refine Run.seq ?_
      refine Run.region ?_
      refine RunL.call cal39 rfl (s39a) rfl (fun vx61 Ax61 hx61 => ?_)
      obtain ⟨x62, ⟨rfl, rfl⟩⟩ := hx61
      refine RunL.ok (OpOk.move rfl) rfl ?_
      refine RunL.ok (OpOk.ext20 rfl) rfl ?_
      refine RunL.ok (OpOk.ext21 rfl) rfl ?_
      refine RunL.alloc ti86 rfl (fun bx63 => ?_)
      refine RunL.storeAll ti86 rfl rfl rfl (ones rfl) rfl rfl ?_
      refine RunL.ok (OpOk.assign rfl) rfl ?_
      refine RunL.nil ?_
      refine Run.seq ?_
      refine Run.drop [2] ?_
      (apply Run.drawD [] (by rfl) (sep_emp _).symm; case hchk => kernel_rfl)
      refine Sd.quiet 0 _ _ rfl rfl rfl rfl rfl (QOp.ok (fun X => OpOk.move rfl)) ?_
      refine Sd.quiet 1 _ _ rfl rfl rfl rfl rfl (QOp.ok (fun X => OpOk.asT (OpOk.eql rfl rfl) (by omega))) ?_
      refine Sd.quiet 2 _ _ rfl rfl rfl rfl rfl (QOp.ok (fun X => OpOk.move rfl)) ?_
      refine Sd.quiet 3 _ _ rfl rfl rfl rfl rfl (QOp.ok (fun X => OpOk.move rfl)) ?_
      refine Sd.quiet 4 _ _ rfl rfl rfl rfl rfl (QOp.ok (fun X => OpOk.strOf rfl rfl rfl rfl (Rd.right rdx33).left.left.left.left.left.left.left.left.left.left.left.left.left.left)) ?_
      refine Sd.quiet 5 _ _ rfl rfl rfl rfl rfl (QOp.ok (fun X => OpOk.move rfl)) ?_
      refine Sd.quiet 7 _ _ rfl rfl rfl rfl rfl (QOp.ok (fun X => OpOk.move rfl)) ?_
      refine Sd.quiet 8 _ _ rfl rfl rfl rfl rfl (QOp.ok (fun X => OpOk.mulN 64 _ rfl rfl rfl rfl (by omega))) ?_
      refine Sd.quiet 9 _ _ rfl rfl rfl rfl rfl (QOp.ok (fun X => OpOk.addN 96 _ rfl rfl rfl rfl (by omega))) ?_
      refine Sd.quiet 10 _ _ rfl rfl rfl rfl rfl (QOp.ok (fun X => OpOk.move rfl)) ?_
      refine Sd.quiet 11 _ _ rfl rfl rfl rfl rfl (QOp.ok (fun X => OpOk.mulN 64 _ rfl rfl rfl rfl (by omega))) ?_
      refine Sd.quiet 12 _ _ rfl rfl rfl rfl rfl (QOp.ok (fun X => OpOk.addN 160 _ rfl rfl rfl rfl (by omega))) ?_
      (refine Sd.exec 6 rfl rfl rfl rfl rfl ?hrest (by rfl) (fun Xx64 Kx64 hKx64 => ?_); case hrest => kernel_rfl)
      refine RunL.mem (fl2 (sep_emp _) (sep_emp _)) ?_
      refine RunL.call cal41 rfl (s41 rd.left.left.left.left.left.left.left.left.left.left.left.left.left.left.left.left.left.left.left.left.left.left.left.left.left) rfl (fun vx65 Ax65 hx65 => ?_)
      obtain rfl := hx65
      refine RunL.know (fun w s => (s.conv rfl).ownRd0) (fun rdx66 => ?_)
      refine Sd.ret hKx64 (Eq.trans rfl (gp2 (sep_emp _).symm rfl)) ⟨_, (emp_sep _).symm⟩ ?_
      refine Sd.quiet 13 _ _ rfl rfl rfl rfl rfl (QOp.ok (fun X => OpOk.cut rfl ti5 rfl (Rd.right rdx66).left ⟨_, rfl⟩ ⟨_, rfl⟩ (by omega) (by omega))) ?_
      refine Sd.quiet 14 _ _ rfl rfl rfl rfl rfl (QOp.ok (fun X => OpOk.strOf rfl rfl rfl rfl (Rd.cutB (Rd.right rdx66).left (by omega) (by omega)))) ?_
      refine Sd.quiet 15 _ _ rfl rfl rfl rfl rfl (QOp.ok (fun X => OpOk.asT (OpOk.eqlSS rfl rfl) (by omega))) ?_
      refine Sd.quiet 16 _ _ rfl rfl rfl rfl rfl (QOp.ok (fun X => OpOk.pickT rfl rfl)) ?_
      refine Sd.quiet 17 _ _ rfl rfl rfl rfl rfl (QOp.ok (fun X => OpOk.move rfl)) ?_
      refine Sd.quiet 18 _ _ rfl rfl rfl rfl rfl (QOp.ok (fun X => OpOk.move rfl)) ?_
      refine Sd.quiet 19 _ _ rfl rfl rfl rfl rfl (QOp.ok (fun X => OpOk.asT (OpOk.eql rfl rfl) (by omega))) ?_
      refine Sd.quiet 20 _ _ rfl rfl rfl rfl rfl (QOp.ok (fun X => OpOk.pickT rfl rfl)) ?_
      refine Sd.quiet 21 _ _ rfl rfl rfl rfl rfl (QOp.ok (fun X => OpOk.assign rfl)) ?_
      (apply Sd.tail; case hall => kernel_rfl)
      refine RunL.mem (fl2 rfl (sep_emp _)) ?_
      refine RunL.nil ?_
      refine Run.ret1 Try.func10 rfl rfl ?_
      exact ⟨_, rfl, (asg (asg (asg (asg (asg (asg (asg (asg (asg (asg (asg (asg (asg (asg (asg (asg (asg (asg (asg (asg (asg (asg (asg (asg as1))))))))))))))))))))))))⟩
theorem reads_spec (rd : Rd w0 A u 1 m (B bs)) :
    Spec Try.prog w0 10 [.agg #[u, .int .i64 o, .int .i64 i, .int .i64 s]] A (fun v' A' => ∃ J, v' = .bool true ∧ A' = A * J) := by
  by_cases h1 : sealed ((secOf (imgB bs) 0).take 30) = secOf (imgB bs) 0
  · by_cases h2 : faceOk (secOf (imgB bs) 0)
    · rcases bestF_is (imgB bs) with ⟨h3, _⟩ | ⟨t, ht, hok, h3⟩
      · exact reads_c rd h1 h2 (by rw [h3])
      · exact reads_d rd ⟨imgB_len bs, h1, h2, h3, ht⟩
    · exact reads_b rd h1 h2
  · exact reads_a rd h1
end
end Go.Proofs.Yteopadjihklkmaa
end
