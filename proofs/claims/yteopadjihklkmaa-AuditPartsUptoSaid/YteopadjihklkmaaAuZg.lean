/- The law AuditParts, walked. -/
import Derived.Test.YteopadjihklkmaaAuZf
namespace Go.Proofs.Yteopadjihklkmaa
open Go Go.Proofs
set_option maxRecDepth 100000
set_option maxHeartbeats 4000000
set_option linter.unusedSimpArgs false
section
variable {w0 : World} {A : Asn}
theorem auditParts_spec {ops cut : Int} {sv jv wv : SV} {ps : List Po} {js : List Jn} (rd : Rd w0 (old w0) sv.1 3 ps.length (Fl encT126 ps)) (al : Alls (GP w0) (old w0) ps) (rdj : Rd w0 (old w0) jv.1 10 js.length (Fl encT47 js)) (hin : ∀ q ∈ ps, ∀ s ∈ q.2.2.2, inI s.2) (hL : (shs ps).length ≤ 1048576) :
    Spec Try.prog w0 5 [.agg #[.int .i64 ops, sv.1, jv.1, wv.1], .int .i64 cut] (old w0) (fun v' A' => v' = .bool true ∧ Grew (old w0) A') := by
  have hone1 := sv.2
  have hone2 := jv.2
  have hone3 := wv.2
  have hmx := rd.max
  have hmxj := rdj.max
  rcases Decidable.em (ps.length ≤ 200 ∧ js.length ≤ 200) with hsm | hbig
  · obtain ⟨h1, h2⟩ := hsm
    rcases Decidable.em (0 ≤ cut ∧ cut < (ps.length : Int)) with hc | hc
    · obtain ⟨k, rfl⟩ := Int.eq_ofNat_of_zero_le hc.1
      have hkl : k ≤ ps.length := by omega
      have rdA : Rd w0 (old w0) (Go.Proofs.Yteopadjihklkmaa.cutM sv.1 0 k k 3) 3 k (Fl encT126 (ps.take k)) := by
        have := Rd.cutM rd (Nat.zero_le k) hkl (Nat.le_refl k)
        rwa [Fl_drop (enc := encT126) (fun _ => rfl), Fl_take (enc := encT126) (fun _ => rfl), List.drop_zero, Nat.sub_zero] at this
      have rdB : Rd w0 (old w0) (Go.Proofs.Yteopadjihklkmaa.cutV sv.1 k ps.length 3) 3 (ps.length - k) (Fl encT126 (ps.drop k)) := by
        have := Rd.cutFl (enc := encT126) (s := 3) (fun _ => rfl) rd hkl (Nat.le_refl ps.length)
        rwa [List.take_of_length_le (by rw [List.length_drop]; exact Nat.le_refl _)] at this
      have alA := al.take (i := k)
      have alB := al.drop (i := k)
      have inA : ∀ q ∈ ps.take k, ∀ s ∈ q.2.2.2, inI s.2 := fun q hq => hin q (List.mem_of_mem_take hq)
      have inB : ∀ q ∈ ps.drop k, ∀ s ∈ q.2.2.2, inI s.2 := fun q hq => hin q (List.mem_of_mem_drop hq)
      have hcut := shs_cut ps k
      have hcl := congrArg List.length hcut
      rw [List.length_append] at hcl
      have hLA : (shs (ps.take k)).length ≤ 1048576 := by omega
      have hLB : (shs (ps.drop k)).length ≤ 1048576 := by omega
      have kA : KeysAre (ps.take k) ((ps.take k).map keyP) := ⟨rfl⟩
      have kB : KeysAre (ps.drop k) ((ps.drop k).map keyP) := ⟨rfl⟩
      have kC : KeysAre ps ((ps.take k).map keyP ++ (ps.drop k).map keyP) := ⟨by rw [← List.map_append, List.take_append_drop]⟩
      have hmm := missF_two ((ps.take k).map keyP) ((ps.drop k).map keyP) js
      have hm1 := missF_len ((ps.take k).map keyP) js
      obtain ⟨e, la, tA⟩ : ∃ e la, totF ops (shs (ps.take k)) = (e, la) := ⟨_, _, rfl⟩
      obtain ⟨f, lb, tB⟩ : ∃ e la, totF ops (shs (ps.drop k)) = (e, la) := ⟨_, _, rfl⟩
      obtain ⟨g, lc, tC⟩ : ∃ e la, totF ops (shs ps) = (e, la) := ⟨_, _, rfl⟩
      obtain ⟨p1, p2, p3⟩ := parts_tot tA tB (hcut ▸ tC)
      have iA : TotIs ops (ps.take k) e la := ⟨tA⟩
      have iB : TotIs ops (ps.drop k) f lb := ⟨tB⟩
      have iC : TotIs ops ps g lc := ⟨tC⟩
      have p4 : ¬ (g = 2 ∧ e = 0 ∧ f = 0) := fun h => p2 h.1 h.2.1 h.2.2
      clear p2 hcut hcl tA tB tC
      rcases Decidable.em (e = 0 ∧ f = 0 ∧ g = 0) with hall | hall
      · obtain ⟨rfl, rfl, rfl⟩ := hall
        obtain ⟨l0, l1, l2, l3⟩ := p3 rfl rfl rfl
        clear p1 p3 p4
        refine Spec.of_run [(0, .agg #[.int .i64 ops, sv.1, jv.1, wv.1]), (1, .int .i64 (k : Int))] Try.func5 rfl (Nat.le_of_ble_eq_true rfl) (by repeat (first | exact trivial | refine ⟨rfl, ?_⟩)) ?_
        refine Run.seq ?_
        refine Run.region ?_
        refine RunL.box rfl rfl (fun bx1 => ?_)
        refine RunL.ok (OpOk.assign rfl) rfl ?_
        refine RunL.nil ?_
        refine Run.seq ?_
        refine Run.seq ?_
        refine Run.region ?_
        refine RunL.call cal14 rfl (s14) rfl (fun vx2 Ax2 hx2 => ?_)
        obtain ⟨x3, ⟨rfl, rfl⟩⟩ := hx2
        refine RunL.ok (OpOk.not rfl) rfl ?_
        refine RunL.ok (OpOk.move rfl) rfl ?_
        refine RunL.on rfl rfl ?_
        refine RunL.ok (OpOk.fieldAddr fld34_1 rfl) rfl ?_
        refine RunL.on rfl rfl ?_
        refine RunL.ok (OpOk.load rfl rfl rfl (Blk.out Blk.pts.left _ _ (by first | rfl | assumption))) rfl ?_
        refine RunL.on rfl rfl ?_
        refine RunL.ok (OpOk.lenR rfl rfl rd.left.left rfl) rfl ?_
        refine RunL.on rfl rfl ?_
        refine RunL.ok (OpOk.asF (OpOk.gtr rfl rfl) (by omega)) rfl ?_
        refine RunL.ok (OpOk.pickF rfl rfl) rfl ?_
        refine RunL.ok (OpOk.move rfl) rfl ?_
        refine RunL.on rfl rfl ?_
        refine RunL.ok (OpOk.fieldAddr fld34_2 rfl) rfl ?_
        refine RunL.on rfl rfl ?_
        refine RunL.ok (OpOk.load rfl rfl rfl (Blk.out Blk.pts.left _ _ (by first | rfl | assumption))) rfl ?_
        refine RunL.on rfl rfl ?_
        refine RunL.ok (OpOk.lenR rfl rfl rdj.left.left rfl) rfl ?_
        refine RunL.on rfl rfl ?_
        refine RunL.ok (OpOk.asF (OpOk.gtr rfl rfl) (by omega)) rfl ?_
        refine RunL.ok (OpOk.pickF rfl rfl) rfl ?_
        refine RunL.nil ?_
        refine Run.condF rfl ?_
        refine Run.skip ?_
        refine Run.seq ?_
        refine Run.region ?_
        refine RunL.ok (OpOk.fieldAddr fld34_1 rfl) rfl ?_
        refine RunL.ok (OpOk.load rfl rfl rfl (Blk.out Blk.pts.left _ _ (by first | rfl | assumption))) rfl ?_
        refine RunL.ok (OpOk.lenR rfl rfl rd.left.left rfl) rfl ?_
        refine RunL.ok (OpOk.assign rfl) rfl ?_
        refine RunL.nil ?_
        refine Run.seq ?_
        refine Run.seq ?_
        refine Run.region ?_
        refine RunL.ok (OpOk.move rfl) rfl ?_
        refine RunL.ok (OpOk.asT (OpOk.geq rfl rfl) (by omega)) rfl ?_
        refine RunL.ok (OpOk.move rfl) rfl ?_
        refine RunL.on rfl rfl ?_
        refine RunL.ok (OpOk.move rfl) rfl ?_
        refine RunL.on rfl rfl ?_
        refine RunL.ok (OpOk.move rfl) rfl ?_
        refine RunL.on rfl rfl ?_
        refine RunL.ok (OpOk.asT (OpOk.lss rfl rfl) (by omega)) rfl ?_
        refine RunL.ok (OpOk.pickT rfl rfl) rfl ?_
        refine RunL.nil ?_
        refine Run.condT rfl ?_
        refine Run.region ?_
        refine RunL.ok (OpOk.move rfl) rfl ?_
        refine RunL.ok (OpOk.assign rfl) rfl ?_
        refine RunL.nil ?_
        refine Run.seq ?_
        (apply Run.drawD [] (by rfl) (sep_emp _).symm; case hchk => kernel_rfl)
        refine Sd.quiet 0 _ _ rfl rfl rfl rfl rfl (QOp.ok (fun X => OpOk.fieldAddr fld34_0 rfl)) ?_
        refine Sd.quiet 1 _ _ rfl rfl rfl rfl rfl (QOp.ok (fun X => OpOk.load rfl rfl rfl (Blk.out Blk.pts.left.left.left _ _ (by first | rfl | assumption)))) ?_
        refine Sd.quiet 2 _ _ rfl rfl rfl rfl rfl (QOp.ok (fun X => OpOk.fieldAddr fld34_1 rfl)) ?_
        refine Sd.quiet 3 _ _ rfl rfl rfl rfl rfl (QOp.ok (fun X => OpOk.load rfl rfl rfl (Blk.out Blk.pts.left.left.left _ _ (by first | rfl | assumption)))) ?_
        refine Sd.quiet 4 _ _ rfl rfl rfl rfl rfl (QOp.ok (fun X => OpOk.move rfl)) ?_
        refine Sd.quiet 5 _ _ rfl rfl rfl rfl rfl (QOp.ok (fun X => OpOk.move rfl)) ?_
        refine Sd.quiet 6 _ _ rfl rfl rfl rfl rfl (QOp.ok (fun X => OpOk.cutM0 rfl ti126 rfl rd.left.left.left.left ⟨_, rfl⟩ ⟨_, rfl⟩ (by omega))) ?_
        (refine Sd.exec 7 rfl rfl rfl rfl rfl ?hrest (by rfl) (fun Xx4 Kx4 hKx4 => ?_); case hrest => kernel_rfl)
        refine RunL.mem (fl2 (sep_emp _) (sep_emp _)) ?_
        refine RunL.call cal17 rfl (s17b rdA.left.left.left alA.left.left.left (by assumption) (by assumption) (by assumption)) rfl (fun vx5 Ax5 hx5 => ?_)
        obtain ⟨x6, ⟨x7, ⟨rfl, rfl⟩⟩⟩ := hx5
        refine RunL.know (fun w s => (s.conv rfl).ownRd0) (fun rdx8 => ?_)
        refine Sd.ret hKx4 (Eq.trans rfl (gp2 (sep_emp _).symm (asg rfl))) ⟨_, (emp_sep _).symm⟩ ?_
        refine Sd.quiet 8 _ _ rfl rfl rfl rfl rfl (QOp.ok (fun X => OpOk.move rfl)) ?_
        refine Sd.quiet 9 _ _ rfl rfl rfl rfl rfl (QOp.ok (fun X => OpOk.ext20 rfl)) ?_
        refine Sd.quiet 10 _ _ rfl rfl rfl rfl rfl (QOp.ok (fun X => OpOk.ext21 rfl)) ?_
        refine Sd.quiet 11 _ _ rfl rfl rfl rfl rfl (QOp.ok (fun X => OpOk.assign rfl)) ?_
        refine Sd.quiet 12 _ _ rfl rfl rfl rfl rfl (QOp.ok (fun X => OpOk.assign rfl)) ?_
        (apply Sd.tail; case hall => kernel_rfl)
        refine RunL.mem (fl2 (flS rfl) (sep_emp _)) ?_
        refine RunL.nil ?_
        refine Run.seq ?_
        (apply Run.drawD [] (by rfl) (sep_emp _).symm; case hchk => kernel_rfl)
        refine Sd.quiet 0 _ _ rfl rfl rfl rfl rfl (QOp.ok (fun X => OpOk.fieldAddr fld34_0 rfl)) ?_
        refine Sd.quiet 1 _ _ rfl rfl rfl rfl rfl (QOp.ok (fun X => OpOk.load rfl rfl rfl (Blk.out Blk.pts.left.left.left.left.left _ _ (by first | rfl | assumption)))) ?_
        refine Sd.quiet 2 _ _ rfl rfl rfl rfl rfl (QOp.ok (fun X => OpOk.fieldAddr fld34_1 rfl)) ?_
        refine Sd.quiet 3 _ _ rfl rfl rfl rfl rfl (QOp.ok (fun X => OpOk.load rfl rfl rfl (Blk.out Blk.pts.left.left.left.left.left _ _ (by first | rfl | assumption)))) ?_
        refine Sd.quiet 4 _ _ rfl rfl rfl rfl rfl (QOp.ok (fun X => OpOk.move rfl)) ?_
        refine Sd.quiet 5 _ _ rfl rfl rfl rfl rfl (QOp.ok (fun X => OpOk.cut rfl ti126 rfl rd.left.left.left.left.left.left ⟨_, rfl⟩ rfl (by omega) (by omega))) ?_
        (refine Sd.exec 6 rfl rfl rfl rfl rfl ?hrest (by rfl) (fun Xx9 Kx9 hKx9 => ?_); case hrest => kernel_rfl)
        refine RunL.mem (fl2 (sep_emp _) (sep_emp _)) ?_
        refine RunL.call cal17 rfl (s17b rdB.left.left.left.left.left alB.left.left.left.left.left (by assumption) (by assumption) (by assumption)) rfl (fun vx10 Ax10 hx10 => ?_)
        obtain ⟨x11, ⟨x12, ⟨rfl, rfl⟩⟩⟩ := hx10
        refine RunL.know (fun w s => (s.conv rfl).ownRd0) (fun rdx13 => ?_)
        refine Sd.ret hKx9 (Eq.trans rfl (gp2 (sep_emp _).symm (asg rfl))) ⟨_, (emp_sep _).symm⟩ ?_
        refine Sd.quiet 7 _ _ rfl rfl rfl rfl rfl (QOp.ok (fun X => OpOk.move rfl)) ?_
        refine Sd.quiet 8 _ _ rfl rfl rfl rfl rfl (QOp.ok (fun X => OpOk.ext20 rfl)) ?_
        refine Sd.quiet 9 _ _ rfl rfl rfl rfl rfl (QOp.ok (fun X => OpOk.ext21 rfl)) ?_
        refine Sd.quiet 10 _ _ rfl rfl rfl rfl rfl (QOp.ok (fun X => OpOk.assign rfl)) ?_
        refine Sd.quiet 11 _ _ rfl rfl rfl rfl rfl (QOp.ok (fun X => OpOk.assign rfl)) ?_
        (apply Sd.tail; case hall => kernel_rfl)
        refine RunL.mem (fl2 (flS rfl) (sep_emp _)) ?_
        refine RunL.nil ?_
        refine Run.seq ?_
        refine Run.region ?_
        refine RunL.ok (OpOk.fieldAddr fld34_0 rfl) rfl ?_
        refine RunL.ok (OpOk.load rfl rfl rfl (Blk.out Blk.pts.left.left.left.left.left _ _ (by first | rfl | assumption))) rfl ?_
        refine RunL.ok (OpOk.fieldAddr fld34_1 rfl) rfl ?_
        refine RunL.ok (OpOk.load rfl rfl rfl (Blk.out Blk.pts.left.left.left.left.left _ _ (by first | rfl | assumption))) rfl ?_
        refine RunL.call cal17 rfl (s17b rd.left.left.left.left.left.left al.left.left.left.left.left.left (by assumption) (by assumption) (by assumption)) rfl (fun vx14 Ax14 hx14 => ?_)
        obtain ⟨x15, ⟨x16, ⟨rfl, rfl⟩⟩⟩ := hx14
        refine RunL.ok (OpOk.move rfl) rfl ?_
        refine RunL.ok (OpOk.ext20 rfl) rfl ?_
        refine RunL.ok (OpOk.ext21 rfl) rfl ?_
        refine RunL.ok (OpOk.assign rfl) rfl ?_
        refine RunL.ok (OpOk.assign rfl) rfl ?_
        refine RunL.nil ?_
        refine Run.seq ?_
        refine Run.seq ?_
        refine Run.region ?_
        refine RunL.ok (OpOk.move rfl) rfl ?_
        refine RunL.ok (OpOk.asT (OpOk.eql rfl rfl) (by omega)) rfl ?_
        refine RunL.ok (OpOk.move rfl) rfl ?_
        refine RunL.on rfl rfl ?_
        refine RunL.ok (OpOk.move rfl) rfl ?_
        refine RunL.on rfl rfl ?_
        refine RunL.ok (OpOk.asT (OpOk.eql rfl rfl) (by omega)) rfl ?_
        refine RunL.ok (OpOk.pickT rfl rfl) rfl ?_
        refine RunL.ok (OpOk.move rfl) rfl ?_
        refine RunL.on rfl rfl ?_
        refine RunL.ok (OpOk.move rfl) rfl ?_
        refine RunL.on rfl rfl ?_
        refine RunL.ok (OpOk.asT (OpOk.eql rfl rfl) (by omega)) rfl ?_
        refine RunL.ok (OpOk.pickT rfl rfl) rfl ?_
        refine RunL.nil ?_
        refine Run.condT rfl ?_
        refine Run.seq ?_
        refine Run.region ?_
        refine RunL.ok (OpOk.assign rfl) rfl ?_
        refine RunL.nil ?_
        refine Run.block ?_
        refine Run.jump ((Run.loopJ (X := Nat × Asn) (fun x => [(12, .int .i64 (x.1 : Int)), (11, .int .i64 0), (10, x15), (9, .int .i64 0), (8, x11), (7, .int .i64 0), (6, x6), (5, .int .i64 (k : Int)), (2, .pointer (some ⟨bx1, 0, none⟩))]) (fun x => old w0 * x.2 * pts bx1 (.cells (Value.agg #[.int .i64 ops, sv.1, jv.1, wv.1]).cells 34 (0, 0)) * own 3 1 x6 la.length (I la) * own 3 1 x11 lb.length (I lb) * own 3 1 x15 lc.length (I lc)) (fun x => x.1 ≤ lc.length) (fun x => lc.length - x.1) (0, _) (Nat.zero_le _) (fun x hx ih => ?_))) ⟨rfl, rfl, rfl, rfl, rfl, rfl, rfl, rfl, rfl, trivial⟩ (Grew.of (Eq.trans (frc rfl (frc (frl rfl) (frc (frl (frl rfl)) (frc (frl (frl (frl (frl rfl)))) rfl)))) (congrArg (· * _) (congrArg (· * _) (congrArg (· * _) (congrArg (· * _) (asg (asg (asg as1)))))))) (Grew.refl _))
        obtain ⟨i, J⟩ := x
        simp only at hx ih ⊢
        rcases Nat.lt_or_ge i lc.length with hlt | hge
        · obtain ⟨q1, q2⟩ := l3 i hlt
          obtain ⟨q2, q3⟩ := q2
          refine Run.seq ?_
          refine Run.seq ?_
          refine Run.region ?_
          refine RunL.ok (OpOk.move rfl) rfl ?_
          refine RunL.ok (OpOk.move rfl) rfl ?_
          refine RunL.know (fun w s => (s.conv rfl).ownRd0) (fun rdy1 => ?_)
          refine RunL.ok (OpOk.lenR rfl rfl (Rd.right rdy1) rfl) rfl ?_
          refine RunL.ok (OpOk.asT (OpOk.lss rfl rfl) (by omega)) rfl ?_
          refine RunL.nil ?_
          refine Run.condT rfl ?_
          refine Run.skip ?_
          refine Run.seq ?_
          refine Run.block ?_
          refine Run.seq ?_
          (apply Run.drawD [] (by rfl) (sep_emp _).symm; case hchk => kernel_rfl)
          refine Sd.quiet 0 _ _ rfl rfl rfl rfl rfl (QOp.ok (fun X => OpOk.move rfl)) ?_
          refine Sd.quiet 1 _ _ rfl rfl rfl rfl rfl (QOp.ok (fun X => OpOk.move rfl)) ?_
          refine Sd.quiet 2 _ _ rfl rfl rfl rfl rfl (QOp.ok (fun X => OpOk.idx1N rfl ti3 rfl (Rd.right rdy1).left.left rfl (by omega))) ?_
          refine Sd.quiet 3 _ _ rfl rfl rfl rfl rfl (QOp.ok (fun X => OpOk.load rfl rfl rfl (Rd.getIE (by assumption) (Rd.right rdy1).left.left (by omega)))) ?_
          refine Sd.quiet 4 _ _ rfl rfl rfl rfl rfl (QOp.ok (fun X => OpOk.move rfl)) ?_
          refine Sd.quiet 5 _ _ rfl rfl rfl rfl rfl (QOp.ok (fun X => OpOk.move rfl)) ?_
          refine Sd.quiet 6 _ _ rfl rfl rfl rfl rfl (QOp.ok (fun X => OpOk.idx1N rfl ti3 rfl (Rd.right rdx8).left.left.left.left rfl (by omega))) ?_
          refine Sd.quiet 7 _ _ rfl rfl rfl rfl rfl (QOp.ok (fun X => OpOk.load rfl rfl rfl (Rd.getI (Rd.right rdx8).left.left.left.left (by omega)))) ?_
          refine Sd.quiet 8 _ _ rfl rfl rfl rfl rfl (QOp.ok (fun X => OpOk.move rfl)) ?_
          refine Sd.quiet 9 _ _ rfl rfl rfl rfl rfl (QOp.ok (fun X => OpOk.move rfl)) ?_
          refine Sd.quiet 10 _ _ rfl rfl rfl rfl rfl (QOp.ok (fun X => OpOk.idx1N rfl ti3 rfl (Rd.right rdx13).left.left.left rfl (by omega))) ?_
          refine Sd.quiet 11 _ _ rfl rfl rfl rfl rfl (QOp.ok (fun X => OpOk.load rfl rfl rfl (Rd.getI (Rd.right rdx13).left.left.left (by omega)))) ?_
          refine Sd.quiet 12 _ _ rfl rfl rfl rfl rfl (QOp.ok (fun X => OpOk.add rfl rfl (wrapI (by omega) (by omega)))) ?_
          refine Sd.quiet 13 _ _ rfl rfl rfl rfl rfl (QOp.ok (fun X => OpOk.as (c := false) (OpOk.neq rfl rfl) (by rw [decide_eq_true (by omega)]; rfl))) ?_
          (apply Sd.tail; case hall => kernel_rfl)
          refine RunL.mem (fl2 (sep_emp _) (sep_emp _)) ?_
          refine RunL.nil ?_
          refine Run.condF rfl ?_
          refine Run.skip ?_
          refine Run.inBlock ?_
          refine Run.region ?_
          refine RunL.ok (OpOk.move rfl) rfl ?_
          refine RunL.ok (OpOk.addN _ 1 rfl rfl rfl rfl (by omega)) rfl ?_
          refine RunL.ok (OpOk.assign rfl) rfl ?_
          refine RunL.nil ?_
          refine Run.jump ((ih (i + 1, J) (by dsimp only; omega) (by dsimp only; omega))) ⟨rfl, rfl, rfl, rfl, rfl, rfl, rfl, rfl, rfl, trivial⟩ ((Grew.refl _))
        · obtain rfl : i = lc.length := by omega
          clear ih
          refine Run.seq ?_
          refine Run.seq ?_
          refine Run.region ?_
          refine RunL.ok (OpOk.move rfl) rfl ?_
          refine RunL.ok (OpOk.move rfl) rfl ?_
          refine RunL.know (fun w s => (s.conv rfl).ownRd0) (fun rdy1 => ?_)
          refine RunL.ok (OpOk.lenR rfl rfl (Rd.right rdy1) rfl) rfl ?_
          refine RunL.ok (OpOk.asF (OpOk.lss rfl rfl) (by omega)) rfl ?_
          refine RunL.nil ?_
          refine Run.condF rfl ?_
          refine Run.exit rfl ?_
          refine Run.seq ?_
          refine Run.seq ?_
          refine Run.region ?_
          refine RunL.ok (OpOk.move rfl) rfl ?_
          refine RunL.ok (OpOk.asT (OpOk.eql rfl rfl) (by omega)) rfl ?_
          refine RunL.ok (OpOk.move rfl) rfl ?_
          refine RunL.on rfl rfl ?_
          refine RunL.ok (OpOk.move rfl) rfl ?_
          refine RunL.on rfl rfl ?_
          refine RunL.ok (OpOk.as (c := false) (OpOk.neq rfl rfl) (by rw [decide_eq_true (by omega)]; rfl)) rfl ?_
          refine RunL.ok (OpOk.pickT rfl rfl) rfl ?_
          refine RunL.ok (OpOk.move rfl) rfl ?_
          refine RunL.on rfl rfl ?_
          refine RunL.ok (OpOk.move rfl) rfl ?_
          refine RunL.on rfl rfl ?_
          refine RunL.ok (OpOk.asF (OpOk.eql rfl rfl) (by omega)) rfl ?_
          refine RunL.on rfl rfl ?_
          refine RunL.ok (OpOk.move rfl) rfl ?_
          refine RunL.off rfl rfl rfl rfl ?_
          refine RunL.off rfl rfl rfl rfl ?_
          refine RunL.on rfl rfl ?_
          refine RunL.ok (OpOk.pickF rfl rfl) rfl ?_
          refine RunL.on rfl rfl ?_
          refine RunL.ok (OpOk.move rfl) rfl ?_
          refine RunL.off rfl rfl rfl rfl ?_
          refine RunL.off rfl rfl rfl rfl ?_
          refine RunL.on rfl rfl ?_
          refine RunL.ok (OpOk.pickF rfl rfl) rfl ?_
          refine RunL.ok (OpOk.pickF rfl rfl) rfl ?_
          refine RunL.nil ?_
          refine Run.condF rfl ?_
          refine Run.skip ?_
          refine Run.seq ?_
          (apply Run.drawD [] (by rfl) (sep_emp _).symm; case hchk => kernel_rfl)
          refine Sd.quiet 0 _ _ rfl rfl rfl rfl rfl (QOp.ok (fun X => OpOk.fieldAddr fld34_2 rfl)) ?_
          refine Sd.quiet 1 _ _ rfl rfl rfl rfl rfl (QOp.ok (fun X => OpOk.load rfl rfl rfl (Blk.out Blk.pts.left.left.left.left.left _ _ (by first | rfl | assumption)))) ?_
          refine Sd.quiet 2 _ _ rfl rfl rfl rfl rfl (QOp.ok (fun X => OpOk.fieldAddr fld34_1 rfl)) ?_
          refine Sd.quiet 3 _ _ rfl rfl rfl rfl rfl (QOp.ok (fun X => OpOk.load rfl rfl rfl (Blk.out Blk.pts.left.left.left.left.left _ _ (by first | rfl | assumption)))) ?_
          refine Sd.quiet 4 _ _ rfl rfl rfl rfl rfl (QOp.ok (fun X => OpOk.move rfl)) ?_
          refine Sd.quiet 5 _ _ rfl rfl rfl rfl rfl (QOp.ok (fun X => OpOk.move rfl)) ?_
          refine Sd.quiet 6 _ _ rfl rfl rfl rfl rfl (QOp.ok (fun X => OpOk.cutM0 rfl ti126 rfl rd.left.left.left.left.left.left.left ⟨_, rfl⟩ ⟨_, rfl⟩ (by omega))) ?_
          refine Sd.quiet 8 _ _ rfl rfl rfl rfl rfl (QOp.ok (fun X => OpOk.fieldAddr fld34_1 rfl)) ?_
          refine Sd.quiet 9 _ _ rfl rfl rfl rfl rfl (QOp.ok (fun X => OpOk.load rfl rfl rfl (Blk.out Blk.pts.left.left.left.left.left _ _ (by first | rfl | assumption)))) ?_
          refine Sd.quiet 10 _ _ rfl rfl rfl rfl rfl (QOp.ok (fun X => OpOk.move rfl)) ?_
          refine Sd.quiet 11 _ _ rfl rfl rfl rfl rfl (QOp.ok (fun X => OpOk.cut rfl ti126 rfl rd.left.left.left.left.left.left.left ⟨_, rfl⟩ rfl (by omega) (by omega))) ?_
          (refine Sd.exec 7 rfl rfl rfl rfl rfl ?hrest (by rfl) (fun Xy2 Ky2 hKy2 => ?_); case hrest => kernel_rfl)
          refine RunL.mem (fl2 (sep_emp _) (sep_emp _)) ?_
          refine RunL.call cal19 rfl (s19a rdj.left.left.left.left.left.left rdA.left.left.left.left.left.left (by omega) (by assumption)) rfl (fun vy3 Ay3 hy3 => ?_)
          obtain ⟨y4, rfl⟩ := hy3
          refine RunL.know (fun w s => (s.conv rfl).ownRd0) (fun rdy5 => ?_)
          refine Sd.ret hKy2 (Eq.trans rfl (gp2 (sep_emp _).symm (asg rfl))) ⟨_, (emp_sep _).symm⟩ ?_
          (refine Sd.exec 12 rfl rfl rfl rfl rfl ?hrest (by rfl) (fun Xy6 Ky6 hKy6 => ?_); case hrest => kernel_rfl)
          refine RunL.mem (fl2 (flS rfl) (sep_emp _)) ?_
          refine RunL.call cal19 rfl (s19a (Rd.right rdy5) rdB.left.left.left.left.left.left.left.left (by omega) (by assumption)) rfl (fun vy7 Ay7 hy7 => ?_)
          obtain ⟨y8, rfl⟩ := hy7
          refine RunL.know (fun w s => (s.conv rfl).ownRd0) (fun rdy9 => ?_)
          refine Sd.ret hKy6 (Eq.trans rfl (gp2 (sep_emp _).symm (asg (asg (asg rfl))))) ⟨_, (asg rfl)⟩ ?_
          refine Sd.quiet 13 _ _ rfl rfl rfl rfl rfl (QOp.ok (fun X => OpOk.assign rfl)) ?_
          (apply Sd.tail; case hall => kernel_rfl)
          refine RunL.mem (fl2 (flS (flS (flS rfl))) (sep_emp _)) ?_
          refine RunL.nil ?_
          refine Run.seq ?_
          refine Run.region ?_
          refine RunL.ok (OpOk.move rfl) rfl ?_
          refine RunL.ok (OpOk.fieldAddr fld34_2 rfl) rfl ?_
          refine RunL.ok (OpOk.load rfl rfl rfl (Blk.out Blk.pts.left.left.left.left.left.left.left _ _ (by first | rfl | assumption))) rfl ?_
          refine RunL.ok (OpOk.fieldAddr fld34_1 rfl) rfl ?_
          refine RunL.ok (OpOk.load rfl rfl rfl (Blk.out Blk.pts.left.left.left.left.left.left.left _ _ (by first | rfl | assumption))) rfl ?_
          refine RunL.call cal19 rfl (s19a rdj.left.left.left.left.left.left.left.left.left rd.left.left.left.left.left.left.left.left.left (by omega) (by assumption)) rfl (fun vy10 Ay10 hy10 => ?_)
          obtain ⟨y11, rfl⟩ := hy10
          refine RunL.know (fun w s => (s.conv rfl).ownRd0) (fun rdy12 => ?_)
          refine RunL.call cal21 rfl (s21 (Rd.right rdy9).left.left (Rd.right rdy12)) rfl (fun vy13 Ay13 hy13 => ?_)
          obtain ⟨rfl, rfl⟩ := hy13
          refine RunL.ok (OpOk.assign rfl) rfl ?_
          refine RunL.nil ?_
          refine Run.ret1 Try.func5 rfl rfl ?_
          rw [decide_eq_true (by first | omega | with_reducible rfl | assumption)]
          exact ⟨rfl, ⟨_, (asg (asg (asg (asg (asg (asg (asg (asg (asg (asg as1))))))))))⟩⟩
      · clear p3
        refine Spec.of_run [(0, .agg #[.int .i64 ops, sv.1, jv.1, wv.1]), (1, .int .i64 (k : Int))] Try.func5 rfl (Nat.le_of_ble_eq_true rfl) (by repeat (first | exact trivial | refine ⟨rfl, ?_⟩)) ?_
        refine Run.seq ?_
        refine Run.region ?_
        refine RunL.box rfl rfl (fun bx1 => ?_)
        refine RunL.ok (OpOk.assign rfl) rfl ?_
        refine RunL.nil ?_
        refine Run.seq ?_
        refine Run.seq ?_
        refine Run.region ?_
        refine RunL.call cal14 rfl (s14) rfl (fun vx2 Ax2 hx2 => ?_)
        obtain ⟨x3, ⟨rfl, rfl⟩⟩ := hx2
        refine RunL.ok (OpOk.not rfl) rfl ?_
        refine RunL.ok (OpOk.move rfl) rfl ?_
        refine RunL.on rfl rfl ?_
        refine RunL.ok (OpOk.fieldAddr fld34_1 rfl) rfl ?_
        refine RunL.on rfl rfl ?_
        refine RunL.ok (OpOk.load rfl rfl rfl (Blk.out Blk.pts.left _ _ (by first | rfl | assumption))) rfl ?_
        refine RunL.on rfl rfl ?_
        refine RunL.ok (OpOk.lenR rfl rfl rd.left.left rfl) rfl ?_
        refine RunL.on rfl rfl ?_
        refine RunL.ok (OpOk.asF (OpOk.gtr rfl rfl) (by omega)) rfl ?_
        refine RunL.ok (OpOk.pickF rfl rfl) rfl ?_
        refine RunL.ok (OpOk.move rfl) rfl ?_
        refine RunL.on rfl rfl ?_
        refine RunL.ok (OpOk.fieldAddr fld34_2 rfl) rfl ?_
        refine RunL.on rfl rfl ?_
        refine RunL.ok (OpOk.load rfl rfl rfl (Blk.out Blk.pts.left _ _ (by first | rfl | assumption))) rfl ?_
        refine RunL.on rfl rfl ?_
        refine RunL.ok (OpOk.lenR rfl rfl rdj.left.left rfl) rfl ?_
        refine RunL.on rfl rfl ?_
        refine RunL.ok (OpOk.asF (OpOk.gtr rfl rfl) (by omega)) rfl ?_
        refine RunL.ok (OpOk.pickF rfl rfl) rfl ?_
        refine RunL.nil ?_
        refine Run.condF rfl ?_
        refine Run.skip ?_
        refine Run.seq ?_
        refine Run.region ?_
        refine RunL.ok (OpOk.fieldAddr fld34_1 rfl) rfl ?_
        refine RunL.ok (OpOk.load rfl rfl rfl (Blk.out Blk.pts.left _ _ (by first | rfl | assumption))) rfl ?_
        refine RunL.ok (OpOk.lenR rfl rfl rd.left.left rfl) rfl ?_
        refine RunL.ok (OpOk.assign rfl) rfl ?_
        refine RunL.nil ?_
        refine Run.seq ?_
        refine Run.seq ?_
        refine Run.region ?_
        refine RunL.ok (OpOk.move rfl) rfl ?_
        refine RunL.ok (OpOk.asT (OpOk.geq rfl rfl) (by omega)) rfl ?_
        refine RunL.ok (OpOk.move rfl) rfl ?_
        refine RunL.on rfl rfl ?_
        refine RunL.ok (OpOk.move rfl) rfl ?_
        refine RunL.on rfl rfl ?_
        refine RunL.ok (OpOk.move rfl) rfl ?_
        refine RunL.on rfl rfl ?_
        refine RunL.ok (OpOk.asT (OpOk.lss rfl rfl) (by omega)) rfl ?_
        refine RunL.ok (OpOk.pickT rfl rfl) rfl ?_
        refine RunL.nil ?_
        refine Run.condT rfl ?_
        refine Run.region ?_
        refine RunL.ok (OpOk.move rfl) rfl ?_
        refine RunL.ok (OpOk.assign rfl) rfl ?_
        refine RunL.nil ?_
        refine Run.seq ?_
        (apply Run.drawD [] (by rfl) (sep_emp _).symm; case hchk => kernel_rfl)
        refine Sd.quiet 0 _ _ rfl rfl rfl rfl rfl (QOp.ok (fun X => OpOk.fieldAddr fld34_0 rfl)) ?_
        refine Sd.quiet 1 _ _ rfl rfl rfl rfl rfl (QOp.ok (fun X => OpOk.load rfl rfl rfl (Blk.out Blk.pts.left.left.left _ _ (by first | rfl | assumption)))) ?_
        refine Sd.quiet 2 _ _ rfl rfl rfl rfl rfl (QOp.ok (fun X => OpOk.fieldAddr fld34_1 rfl)) ?_
        refine Sd.quiet 3 _ _ rfl rfl rfl rfl rfl (QOp.ok (fun X => OpOk.load rfl rfl rfl (Blk.out Blk.pts.left.left.left _ _ (by first | rfl | assumption)))) ?_
        refine Sd.quiet 4 _ _ rfl rfl rfl rfl rfl (QOp.ok (fun X => OpOk.move rfl)) ?_
        refine Sd.quiet 5 _ _ rfl rfl rfl rfl rfl (QOp.ok (fun X => OpOk.move rfl)) ?_
        refine Sd.quiet 6 _ _ rfl rfl rfl rfl rfl (QOp.ok (fun X => OpOk.cutM0 rfl ti126 rfl rd.left.left.left.left ⟨_, rfl⟩ ⟨_, rfl⟩ (by omega))) ?_
        (refine Sd.exec 7 rfl rfl rfl rfl rfl ?hrest (by rfl) (fun Xx4 Kx4 hKx4 => ?_); case hrest => kernel_rfl)
        refine RunL.mem (fl2 (sep_emp _) (sep_emp _)) ?_
        refine RunL.call cal17 rfl (s17b rdA.left.left.left alA.left.left.left (by assumption) (by assumption) (by assumption)) rfl (fun vx5 Ax5 hx5 => ?_)
        obtain ⟨x6, ⟨x7, ⟨rfl, rfl⟩⟩⟩ := hx5
        refine RunL.know (fun w s => (s.conv rfl).ownRd0) (fun rdx8 => ?_)
        refine Sd.ret hKx4 (Eq.trans rfl (gp2 (sep_emp _).symm (asg rfl))) ⟨_, (emp_sep _).symm⟩ ?_
        refine Sd.quiet 8 _ _ rfl rfl rfl rfl rfl (QOp.ok (fun X => OpOk.move rfl)) ?_
        refine Sd.quiet 9 _ _ rfl rfl rfl rfl rfl (QOp.ok (fun X => OpOk.ext20 rfl)) ?_
        refine Sd.quiet 10 _ _ rfl rfl rfl rfl rfl (QOp.ok (fun X => OpOk.ext21 rfl)) ?_
        refine Sd.quiet 11 _ _ rfl rfl rfl rfl rfl (QOp.ok (fun X => OpOk.assign rfl)) ?_
        refine Sd.quiet 12 _ _ rfl rfl rfl rfl rfl (QOp.ok (fun X => OpOk.assign rfl)) ?_
        (apply Sd.tail; case hall => kernel_rfl)
        refine RunL.mem (fl2 (flS rfl) (sep_emp _)) ?_
        refine RunL.nil ?_
        refine Run.seq ?_
        (apply Run.drawD [] (by rfl) (sep_emp _).symm; case hchk => kernel_rfl)
        refine Sd.quiet 0 _ _ rfl rfl rfl rfl rfl (QOp.ok (fun X => OpOk.fieldAddr fld34_0 rfl)) ?_
        refine Sd.quiet 1 _ _ rfl rfl rfl rfl rfl (QOp.ok (fun X => OpOk.load rfl rfl rfl (Blk.out Blk.pts.left.left.left.left.left _ _ (by first | rfl | assumption)))) ?_
        refine Sd.quiet 2 _ _ rfl rfl rfl rfl rfl (QOp.ok (fun X => OpOk.fieldAddr fld34_1 rfl)) ?_
        refine Sd.quiet 3 _ _ rfl rfl rfl rfl rfl (QOp.ok (fun X => OpOk.load rfl rfl rfl (Blk.out Blk.pts.left.left.left.left.left _ _ (by first | rfl | assumption)))) ?_
        refine Sd.quiet 4 _ _ rfl rfl rfl rfl rfl (QOp.ok (fun X => OpOk.move rfl)) ?_
        refine Sd.quiet 5 _ _ rfl rfl rfl rfl rfl (QOp.ok (fun X => OpOk.cut rfl ti126 rfl rd.left.left.left.left.left.left ⟨_, rfl⟩ rfl (by omega) (by omega))) ?_
        (refine Sd.exec 6 rfl rfl rfl rfl rfl ?hrest (by rfl) (fun Xx9 Kx9 hKx9 => ?_); case hrest => kernel_rfl)
        refine RunL.mem (fl2 (sep_emp _) (sep_emp _)) ?_
        refine RunL.call cal17 rfl (s17b rdB.left.left.left.left.left alB.left.left.left.left.left (by assumption) (by assumption) (by assumption)) rfl (fun vx10 Ax10 hx10 => ?_)
        obtain ⟨x11, ⟨x12, ⟨rfl, rfl⟩⟩⟩ := hx10
        refine RunL.know (fun w s => (s.conv rfl).ownRd0) (fun rdx13 => ?_)
        refine Sd.ret hKx9 (Eq.trans rfl (gp2 (sep_emp _).symm (asg rfl))) ⟨_, (emp_sep _).symm⟩ ?_
        refine Sd.quiet 7 _ _ rfl rfl rfl rfl rfl (QOp.ok (fun X => OpOk.move rfl)) ?_
        refine Sd.quiet 8 _ _ rfl rfl rfl rfl rfl (QOp.ok (fun X => OpOk.ext20 rfl)) ?_
        refine Sd.quiet 9 _ _ rfl rfl rfl rfl rfl (QOp.ok (fun X => OpOk.ext21 rfl)) ?_
        refine Sd.quiet 10 _ _ rfl rfl rfl rfl rfl (QOp.ok (fun X => OpOk.assign rfl)) ?_
        refine Sd.quiet 11 _ _ rfl rfl rfl rfl rfl (QOp.ok (fun X => OpOk.assign rfl)) ?_
        (apply Sd.tail; case hall => kernel_rfl)
        refine RunL.mem (fl2 (flS rfl) (sep_emp _)) ?_
        refine RunL.nil ?_
        refine Run.seq ?_
        refine Run.region ?_
        refine RunL.ok (OpOk.fieldAddr fld34_0 rfl) rfl ?_
        refine RunL.ok (OpOk.load rfl rfl rfl (Blk.out Blk.pts.left.left.left.left.left _ _ (by first | rfl | assumption))) rfl ?_
        refine RunL.ok (OpOk.fieldAddr fld34_1 rfl) rfl ?_
        refine RunL.ok (OpOk.load rfl rfl rfl (Blk.out Blk.pts.left.left.left.left.left _ _ (by first | rfl | assumption))) rfl ?_
        refine RunL.call cal17 rfl (s17b rd.left.left.left.left.left.left al.left.left.left.left.left.left (by assumption) (by assumption) (by assumption)) rfl (fun vx14 Ax14 hx14 => ?_)
        obtain ⟨x15, ⟨x16, ⟨rfl, rfl⟩⟩⟩ := hx14
        refine RunL.ok (OpOk.move rfl) rfl ?_
        refine RunL.ok (OpOk.ext20 rfl) rfl ?_
        refine RunL.ok (OpOk.ext21 rfl) rfl ?_
        refine RunL.ok (OpOk.assign rfl) rfl ?_
        refine RunL.ok (OpOk.assign rfl) rfl ?_
        refine RunL.nil ?_
        refine Run.seq ?_
        refine Run.seq ?_
        refine Run.region ?_
        refine RunL.ok (OpOk.move rfl) rfl ?_
        refine RunL.ok (OpOk.eql rfl rfl) rfl ?_
        refine RunL.ok (OpOk.move rfl) rfl ?_
        refine RunL.splitD (t := 71) rfl (fun x17 => ?_) (fun x17 => ?_)
        · refine RunL.on rfl rfl ?_
          refine RunL.ok (OpOk.move rfl) rfl ?_
          refine RunL.on rfl rfl ?_
          refine RunL.ok (OpOk.eql rfl rfl) rfl ?_
          refine RunL.ok (OpOk.pickT rfl rfl) rfl ?_
          refine RunL.ok (OpOk.move rfl) rfl ?_
          refine RunL.splitD (t := 75) rfl (fun x18 => ?_) (fun x18 => ?_)
          · refine RunL.on rfl rfl ?_
            refine RunL.ok (OpOk.move rfl) rfl ?_
            refine RunL.on rfl rfl ?_
            refine RunL.ok (OpOk.asF (OpOk.eql rfl rfl) (by omega)) rfl ?_
            refine RunL.ok (OpOk.pickT rfl rfl) rfl ?_
            refine RunL.nil ?_
            refine Run.condF rfl ?_
            refine Run.skip ?_
            refine Run.seq ?_
            refine Run.seq ?_
            refine Run.region ?_
            refine RunL.ok (OpOk.move rfl) rfl ?_
            refine RunL.ok (OpOk.asF (OpOk.eql rfl rfl) (by omega)) rfl ?_
            refine RunL.ok (OpOk.move rfl) rfl ?_
            refine RunL.off rfl rfl rfl rfl ?_
            refine RunL.off rfl rfl rfl rfl ?_
            refine RunL.ok (OpOk.pickF rfl rfl) rfl ?_
            refine RunL.ok (OpOk.move rfl) rfl ?_
            refine RunL.on rfl rfl ?_
            refine RunL.ok (OpOk.move rfl) rfl ?_
            refine RunL.on rfl rfl ?_
            refine RunL.ok (OpOk.asF (OpOk.eql rfl rfl) (by omega)) rfl ?_
            refine RunL.on rfl rfl ?_
            refine RunL.ok (OpOk.move rfl) rfl ?_
            refine RunL.off rfl rfl rfl rfl ?_
            refine RunL.off rfl rfl rfl rfl ?_
            refine RunL.on rfl rfl ?_
            refine RunL.ok (OpOk.pickF rfl rfl) rfl ?_
            refine RunL.on rfl rfl ?_
            refine RunL.ok (OpOk.move rfl) rfl ?_
            refine RunL.off rfl rfl rfl rfl ?_
            refine RunL.off rfl rfl rfl rfl ?_
            refine RunL.on rfl rfl ?_
            refine RunL.ok (OpOk.pickF rfl rfl) rfl ?_
            refine RunL.ok (OpOk.pickF rfl rfl) rfl ?_
            refine RunL.nil ?_
            refine Run.condF rfl ?_
            refine Run.skip ?_
            refine Run.seq ?_
            refine Run.know (fun w s => (s.conv rfl).ownRd0) (fun rdx19 => ?_)
            (apply Run.drawD [] (by rfl) (sep_emp _).symm; case hchk => kernel_rfl)
            refine Sd.quiet 0 _ _ rfl rfl rfl rfl rfl (QOp.ok (fun X => OpOk.fieldAddr fld34_2 rfl)) ?_
            refine Sd.quiet 1 _ _ rfl rfl rfl rfl rfl (QOp.ok (fun X => OpOk.load rfl rfl rfl (Blk.out Blk.pts.left.left.left.left.left.left.left.left.left _ _ (by first | rfl | assumption)))) ?_
            refine Sd.quiet 2 _ _ rfl rfl rfl rfl rfl (QOp.ok (fun X => OpOk.fieldAddr fld34_1 rfl)) ?_
            refine Sd.quiet 3 _ _ rfl rfl rfl rfl rfl (QOp.ok (fun X => OpOk.load rfl rfl rfl (Blk.out Blk.pts.left.left.left.left.left.left.left.left.left _ _ (by first | rfl | assumption)))) ?_
            refine Sd.quiet 4 _ _ rfl rfl rfl rfl rfl (QOp.ok (fun X => OpOk.move rfl)) ?_
            refine Sd.quiet 5 _ _ rfl rfl rfl rfl rfl (QOp.ok (fun X => OpOk.move rfl)) ?_
            refine Sd.quiet 6 _ _ rfl rfl rfl rfl rfl (QOp.ok (fun X => OpOk.cutM0 rfl ti126 rfl rd.left.left.left.left.left.left.left.left.left.left ⟨_, rfl⟩ ⟨_, rfl⟩ (by omega))) ?_
            refine Sd.quiet 8 _ _ rfl rfl rfl rfl rfl (QOp.ok (fun X => OpOk.fieldAddr fld34_1 rfl)) ?_
            refine Sd.quiet 9 _ _ rfl rfl rfl rfl rfl (QOp.ok (fun X => OpOk.load rfl rfl rfl (Blk.out Blk.pts.left.left.left.left.left.left.left.left.left _ _ (by first | rfl | assumption)))) ?_
            refine Sd.quiet 10 _ _ rfl rfl rfl rfl rfl (QOp.ok (fun X => OpOk.move rfl)) ?_
            refine Sd.quiet 11 _ _ rfl rfl rfl rfl rfl (QOp.ok (fun X => OpOk.cut rfl ti126 rfl rd.left.left.left.left.left.left.left.left.left.left ⟨_, rfl⟩ rfl (by omega) (by omega))) ?_
            (refine Sd.exec 7 rfl rfl rfl rfl rfl ?hrest (by rfl) (fun Xx20 Kx20 hKx20 => ?_); case hrest => kernel_rfl)
            refine RunL.mem (fl2 (sep_emp _) (sep_emp _)) ?_
            refine RunL.call cal19 rfl (s19a rdj.left.left.left.left.left.left.left.left.left rdA.left.left.left.left.left.left.left.left.left (by omega) (by assumption)) rfl (fun vx21 Ax21 hx21 => ?_)
            obtain ⟨x22, rfl⟩ := hx21
            refine RunL.know (fun w s => (s.conv rfl).ownRd0) (fun rdx23 => ?_)
            refine Sd.ret hKx20 (Eq.trans rfl (gp2 (sep_emp _).symm (asg rfl))) ⟨_, (emp_sep _).symm⟩ ?_
            (refine Sd.exec 12 rfl rfl rfl rfl rfl ?hrest (by rfl) (fun Xx24 Kx24 hKx24 => ?_); case hrest => kernel_rfl)
            refine RunL.mem (fl2 (flS rfl) (sep_emp _)) ?_
            refine RunL.call cal19 rfl (s19a (Rd.right rdx23) rdB.left.left.left.left.left.left.left.left.left.left.left (by omega) (by assumption)) rfl (fun vx25 Ax25 hx25 => ?_)
            obtain ⟨x26, rfl⟩ := hx25
            refine RunL.know (fun w s => (s.conv rfl).ownRd0) (fun rdx27 => ?_)
            refine Sd.ret hKx24 (Eq.trans rfl (gp2 (sep_emp _).symm (asg (asg (asg rfl))))) ⟨_, (asg rfl)⟩ ?_
            refine Sd.quiet 13 _ _ rfl rfl rfl rfl rfl (QOp.ok (fun X => OpOk.assign rfl)) ?_
            (apply Sd.tail; case hall => kernel_rfl)
            refine RunL.mem (fl2 (flS (flS (flS rfl))) (sep_emp _)) ?_
            refine RunL.nil ?_
            refine Run.seq ?_
            refine Run.region ?_
            refine RunL.ok (OpOk.move rfl) rfl ?_
            refine RunL.ok (OpOk.fieldAddr fld34_2 rfl) rfl ?_
            refine RunL.ok (OpOk.load rfl rfl rfl (Blk.out Blk.pts.left.left.left.left.left.left.left.left.left.left.left _ _ (by first | rfl | assumption))) rfl ?_
            refine RunL.ok (OpOk.fieldAddr fld34_1 rfl) rfl ?_
            refine RunL.ok (OpOk.load rfl rfl rfl (Blk.out Blk.pts.left.left.left.left.left.left.left.left.left.left.left _ _ (by first | rfl | assumption))) rfl ?_
            refine RunL.call cal19 rfl (s19a rdj.left.left.left.left.left.left.left.left.left.left.left.left rd.left.left.left.left.left.left.left.left.left.left.left.left (by omega) (by assumption)) rfl (fun vx28 Ax28 hx28 => ?_)
            obtain ⟨x29, rfl⟩ := hx28
            refine RunL.know (fun w s => (s.conv rfl).ownRd0) (fun rdx30 => ?_)
            refine RunL.call cal21 rfl (s21 (Rd.right rdx27).left.left (Rd.right rdx30)) rfl (fun vx31 Ax31 hx31 => ?_)
            obtain ⟨rfl, rfl⟩ := hx31
            refine RunL.ok (OpOk.assign rfl) rfl ?_
            refine RunL.nil ?_
            refine Run.ret1 Try.func5 rfl rfl ?_
            rw [decide_eq_true (by first | omega | with_reducible rfl | assumption)]
            exact ⟨rfl, ⟨_, (asg (asg (asg (asg (asg (asg (asg (asg (asg (asg (asg (asg (asg as1)))))))))))))⟩⟩
          refine RunL.off rfl rfl rfl rfl ?_
          refine RunL.off rfl rfl rfl rfl ?_
          refine RunL.ok (OpOk.pickF rfl rfl) rfl ?_
          refine RunL.nil ?_
          refine Run.condF rfl ?_
          refine Run.skip ?_
          refine Run.seq ?_
          refine Run.seq ?_
          refine Run.region ?_
          refine RunL.ok (OpOk.move rfl) rfl ?_
          refine RunL.ok (OpOk.eql rfl rfl) rfl ?_
          refine RunL.ok (OpOk.move rfl) rfl ?_
          refine RunL.splitD (t := 101) rfl (fun x32 => ?_) (fun x32 => ?_)
          · refine RunL.on rfl rfl ?_
            refine RunL.ok (OpOk.move rfl) rfl ?_
            refine RunL.on rfl rfl ?_
            refine RunL.ok (OpOk.as (c := false) (OpOk.neq rfl rfl) (by rw [decide_eq_true (by omega)]; rfl)) rfl ?_
            refine RunL.ok (OpOk.pickT rfl rfl) rfl ?_
            refine RunL.ok (OpOk.move rfl) rfl ?_
            refine RunL.on rfl rfl ?_
            refine RunL.ok (OpOk.move rfl) rfl ?_
            refine RunL.on rfl rfl ?_
            refine RunL.ok (OpOk.asF (OpOk.eql rfl rfl) (by omega)) rfl ?_
            refine RunL.on rfl rfl ?_
            refine RunL.ok (OpOk.move rfl) rfl ?_
            refine RunL.off rfl rfl rfl rfl ?_
            refine RunL.off rfl rfl rfl rfl ?_
            refine RunL.on rfl rfl ?_
            refine RunL.ok (OpOk.pickF rfl rfl) rfl ?_
            refine RunL.on rfl rfl ?_
            refine RunL.ok (OpOk.move rfl) rfl ?_
            refine RunL.off rfl rfl rfl rfl ?_
            refine RunL.off rfl rfl rfl rfl ?_
            refine RunL.on rfl rfl ?_
            refine RunL.ok (OpOk.pickF rfl rfl) rfl ?_
            refine RunL.ok (OpOk.pickF rfl rfl) rfl ?_
            refine RunL.nil ?_
            refine Run.condF rfl ?_
            refine Run.skip ?_
            refine Run.seq ?_
            refine Run.know (fun w s => (s.conv rfl).ownRd0) (fun rdx33 => ?_)
            (apply Run.drawD [] (by rfl) (sep_emp _).symm; case hchk => kernel_rfl)
            refine Sd.quiet 0 _ _ rfl rfl rfl rfl rfl (QOp.ok (fun X => OpOk.fieldAddr fld34_2 rfl)) ?_
            refine Sd.quiet 1 _ _ rfl rfl rfl rfl rfl (QOp.ok (fun X => OpOk.load rfl rfl rfl (Blk.out Blk.pts.left.left.left.left.left.left.left.left.left _ _ (by first | rfl | assumption)))) ?_
            refine Sd.quiet 2 _ _ rfl rfl rfl rfl rfl (QOp.ok (fun X => OpOk.fieldAddr fld34_1 rfl)) ?_
            refine Sd.quiet 3 _ _ rfl rfl rfl rfl rfl (QOp.ok (fun X => OpOk.load rfl rfl rfl (Blk.out Blk.pts.left.left.left.left.left.left.left.left.left _ _ (by first | rfl | assumption)))) ?_
            refine Sd.quiet 4 _ _ rfl rfl rfl rfl rfl (QOp.ok (fun X => OpOk.move rfl)) ?_
            refine Sd.quiet 5 _ _ rfl rfl rfl rfl rfl (QOp.ok (fun X => OpOk.move rfl)) ?_
            refine Sd.quiet 6 _ _ rfl rfl rfl rfl rfl (QOp.ok (fun X => OpOk.cutM0 rfl ti126 rfl rd.left.left.left.left.left.left.left.left.left.left ⟨_, rfl⟩ ⟨_, rfl⟩ (by omega))) ?_
            refine Sd.quiet 8 _ _ rfl rfl rfl rfl rfl (QOp.ok (fun X => OpOk.fieldAddr fld34_1 rfl)) ?_
            refine Sd.quiet 9 _ _ rfl rfl rfl rfl rfl (QOp.ok (fun X => OpOk.load rfl rfl rfl (Blk.out Blk.pts.left.left.left.left.left.left.left.left.left _ _ (by first | rfl | assumption)))) ?_
            refine Sd.quiet 10 _ _ rfl rfl rfl rfl rfl (QOp.ok (fun X => OpOk.move rfl)) ?_
            refine Sd.quiet 11 _ _ rfl rfl rfl rfl rfl (QOp.ok (fun X => OpOk.cut rfl ti126 rfl rd.left.left.left.left.left.left.left.left.left.left ⟨_, rfl⟩ rfl (by omega) (by omega))) ?_
            (refine Sd.exec 7 rfl rfl rfl rfl rfl ?hrest (by rfl) (fun Xx34 Kx34 hKx34 => ?_); case hrest => kernel_rfl)
            refine RunL.mem (fl2 (sep_emp _) (sep_emp _)) ?_
            refine RunL.call cal19 rfl (s19a rdj.left.left.left.left.left.left.left.left.left rdA.left.left.left.left.left.left.left.left.left (by omega) (by assumption)) rfl (fun vx35 Ax35 hx35 => ?_)
            obtain ⟨x36, rfl⟩ := hx35
            refine RunL.know (fun w s => (s.conv rfl).ownRd0) (fun rdx37 => ?_)
            refine Sd.ret hKx34 (Eq.trans rfl (gp2 (sep_emp _).symm (asg rfl))) ⟨_, (emp_sep _).symm⟩ ?_
            (refine Sd.exec 12 rfl rfl rfl rfl rfl ?hrest (by rfl) (fun Xx38 Kx38 hKx38 => ?_); case hrest => kernel_rfl)
            refine RunL.mem (fl2 (flS rfl) (sep_emp _)) ?_
            refine RunL.call cal19 rfl (s19a (Rd.right rdx37) rdB.left.left.left.left.left.left.left.left.left.left.left (by omega) (by assumption)) rfl (fun vx39 Ax39 hx39 => ?_)
            obtain ⟨x40, rfl⟩ := hx39
            refine RunL.know (fun w s => (s.conv rfl).ownRd0) (fun rdx41 => ?_)
            refine Sd.ret hKx38 (Eq.trans rfl (gp2 (sep_emp _).symm (asg (asg (asg rfl))))) ⟨_, (asg rfl)⟩ ?_
            refine Sd.quiet 13 _ _ rfl rfl rfl rfl rfl (QOp.ok (fun X => OpOk.assign rfl)) ?_
            (apply Sd.tail; case hall => kernel_rfl)
            refine RunL.mem (fl2 (flS (flS (flS rfl))) (sep_emp _)) ?_
            refine RunL.nil ?_
            refine Run.seq ?_
            refine Run.region ?_
            refine RunL.ok (OpOk.move rfl) rfl ?_
            refine RunL.ok (OpOk.fieldAddr fld34_2 rfl) rfl ?_
            refine RunL.ok (OpOk.load rfl rfl rfl (Blk.out Blk.pts.left.left.left.left.left.left.left.left.left.left.left _ _ (by first | rfl | assumption))) rfl ?_
            refine RunL.ok (OpOk.fieldAddr fld34_1 rfl) rfl ?_
            refine RunL.ok (OpOk.load rfl rfl rfl (Blk.out Blk.pts.left.left.left.left.left.left.left.left.left.left.left _ _ (by first | rfl | assumption))) rfl ?_
            refine RunL.call cal19 rfl (s19a rdj.left.left.left.left.left.left.left.left.left.left.left.left rd.left.left.left.left.left.left.left.left.left.left.left.left (by omega) (by assumption)) rfl (fun vx42 Ax42 hx42 => ?_)
            obtain ⟨x43, rfl⟩ := hx42
            refine RunL.know (fun w s => (s.conv rfl).ownRd0) (fun rdx44 => ?_)
            refine RunL.call cal21 rfl (s21 (Rd.right rdx41).left.left (Rd.right rdx44)) rfl (fun vx45 Ax45 hx45 => ?_)
            obtain ⟨rfl, rfl⟩ := hx45
            refine RunL.ok (OpOk.assign rfl) rfl ?_
            refine RunL.nil ?_
            refine Run.ret1 Try.func5 rfl rfl ?_
            rw [decide_eq_true (by first | omega | with_reducible rfl | assumption)]
            exact ⟨rfl, ⟨_, (asg (asg (asg (asg (asg (asg (asg (asg (asg (asg (asg (asg (asg as1)))))))))))))⟩⟩
          refine RunL.off rfl rfl rfl rfl ?_
          refine RunL.off rfl rfl rfl rfl ?_
          refine RunL.ok (OpOk.pickF rfl rfl) rfl ?_
          refine RunL.ok (OpOk.move rfl) rfl ?_
          refine RunL.on rfl rfl ?_
          refine RunL.ok (OpOk.move rfl) rfl ?_
          refine RunL.on rfl rfl ?_
          refine RunL.ok (OpOk.eql rfl rfl) rfl ?_
          refine RunL.on rfl rfl ?_
          refine RunL.ok (OpOk.move rfl) rfl ?_
          refine RunL.splitD (t := 108) rfl (fun x46 => ?_) (fun x46 => ?_)
          · refine RunL.on rfl rfl ?_
            refine RunL.ok (OpOk.move rfl) rfl ?_
            refine RunL.on rfl rfl ?_
            refine RunL.ok (OpOk.asT (OpOk.eql rfl rfl) (by omega)) rfl ?_
            refine RunL.on rfl rfl ?_
            refine RunL.ok (OpOk.pickT rfl rfl) rfl ?_
            refine RunL.on rfl rfl ?_
            refine RunL.ok (OpOk.move rfl) rfl ?_
            refine RunL.on rfl rfl ?_
            refine RunL.ok (OpOk.move rfl) rfl ?_
            refine RunL.on rfl rfl ?_
            refine RunL.ok (OpOk.asF (OpOk.eql rfl rfl) (by omega)) rfl ?_
            refine RunL.on rfl rfl ?_
            refine RunL.ok (OpOk.pickT rfl rfl) rfl ?_
            refine RunL.ok (OpOk.pickF rfl rfl) rfl ?_
            refine RunL.nil ?_
            refine Run.condF rfl ?_
            refine Run.skip ?_
            refine Run.seq ?_
            refine Run.know (fun w s => (s.conv rfl).ownRd0) (fun rdx47 => ?_)
            (apply Run.drawD [] (by rfl) (sep_emp _).symm; case hchk => kernel_rfl)
            refine Sd.quiet 0 _ _ rfl rfl rfl rfl rfl (QOp.ok (fun X => OpOk.fieldAddr fld34_2 rfl)) ?_
            refine Sd.quiet 1 _ _ rfl rfl rfl rfl rfl (QOp.ok (fun X => OpOk.load rfl rfl rfl (Blk.out Blk.pts.left.left.left.left.left.left.left.left.left _ _ (by first | rfl | assumption)))) ?_
            refine Sd.quiet 2 _ _ rfl rfl rfl rfl rfl (QOp.ok (fun X => OpOk.fieldAddr fld34_1 rfl)) ?_
            refine Sd.quiet 3 _ _ rfl rfl rfl rfl rfl (QOp.ok (fun X => OpOk.load rfl rfl rfl (Blk.out Blk.pts.left.left.left.left.left.left.left.left.left _ _ (by first | rfl | assumption)))) ?_
            refine Sd.quiet 4 _ _ rfl rfl rfl rfl rfl (QOp.ok (fun X => OpOk.move rfl)) ?_
            refine Sd.quiet 5 _ _ rfl rfl rfl rfl rfl (QOp.ok (fun X => OpOk.move rfl)) ?_
            refine Sd.quiet 6 _ _ rfl rfl rfl rfl rfl (QOp.ok (fun X => OpOk.cutM0 rfl ti126 rfl rd.left.left.left.left.left.left.left.left.left.left ⟨_, rfl⟩ ⟨_, rfl⟩ (by omega))) ?_
            refine Sd.quiet 8 _ _ rfl rfl rfl rfl rfl (QOp.ok (fun X => OpOk.fieldAddr fld34_1 rfl)) ?_
            refine Sd.quiet 9 _ _ rfl rfl rfl rfl rfl (QOp.ok (fun X => OpOk.load rfl rfl rfl (Blk.out Blk.pts.left.left.left.left.left.left.left.left.left _ _ (by first | rfl | assumption)))) ?_
            refine Sd.quiet 10 _ _ rfl rfl rfl rfl rfl (QOp.ok (fun X => OpOk.move rfl)) ?_
            refine Sd.quiet 11 _ _ rfl rfl rfl rfl rfl (QOp.ok (fun X => OpOk.cut rfl ti126 rfl rd.left.left.left.left.left.left.left.left.left.left ⟨_, rfl⟩ rfl (by omega) (by omega))) ?_
            (refine Sd.exec 7 rfl rfl rfl rfl rfl ?hrest (by rfl) (fun Xx48 Kx48 hKx48 => ?_); case hrest => kernel_rfl)
            refine RunL.mem (fl2 (sep_emp _) (sep_emp _)) ?_
            refine RunL.call cal19 rfl (s19a rdj.left.left.left.left.left.left.left.left.left rdA.left.left.left.left.left.left.left.left.left (by omega) (by assumption)) rfl (fun vx49 Ax49 hx49 => ?_)
            obtain ⟨x50, rfl⟩ := hx49
            refine RunL.know (fun w s => (s.conv rfl).ownRd0) (fun rdx51 => ?_)
            refine Sd.ret hKx48 (Eq.trans rfl (gp2 (sep_emp _).symm (asg rfl))) ⟨_, (emp_sep _).symm⟩ ?_
            (refine Sd.exec 12 rfl rfl rfl rfl rfl ?hrest (by rfl) (fun Xx52 Kx52 hKx52 => ?_); case hrest => kernel_rfl)
            refine RunL.mem (fl2 (flS rfl) (sep_emp _)) ?_
            refine RunL.call cal19 rfl (s19a (Rd.right rdx51) rdB.left.left.left.left.left.left.left.left.left.left.left (by omega) (by assumption)) rfl (fun vx53 Ax53 hx53 => ?_)
            obtain ⟨x54, rfl⟩ := hx53
            refine RunL.know (fun w s => (s.conv rfl).ownRd0) (fun rdx55 => ?_)
            refine Sd.ret hKx52 (Eq.trans rfl (gp2 (sep_emp _).symm (asg (asg (asg rfl))))) ⟨_, (asg rfl)⟩ ?_
            refine Sd.quiet 13 _ _ rfl rfl rfl rfl rfl (QOp.ok (fun X => OpOk.assign rfl)) ?_
            (apply Sd.tail; case hall => kernel_rfl)
            refine RunL.mem (fl2 (flS (flS (flS rfl))) (sep_emp _)) ?_
            refine RunL.nil ?_
            refine Run.seq ?_
            refine Run.region ?_
            refine RunL.ok (OpOk.move rfl) rfl ?_
            refine RunL.ok (OpOk.fieldAddr fld34_2 rfl) rfl ?_
            refine RunL.ok (OpOk.load rfl rfl rfl (Blk.out Blk.pts.left.left.left.left.left.left.left.left.left.left.left _ _ (by first | rfl | assumption))) rfl ?_
            refine RunL.ok (OpOk.fieldAddr fld34_1 rfl) rfl ?_
            refine RunL.ok (OpOk.load rfl rfl rfl (Blk.out Blk.pts.left.left.left.left.left.left.left.left.left.left.left _ _ (by first | rfl | assumption))) rfl ?_
            refine RunL.call cal19 rfl (s19a rdj.left.left.left.left.left.left.left.left.left.left.left.left rd.left.left.left.left.left.left.left.left.left.left.left.left (by omega) (by assumption)) rfl (fun vx56 Ax56 hx56 => ?_)
            obtain ⟨x57, rfl⟩ := hx56
            refine RunL.know (fun w s => (s.conv rfl).ownRd0) (fun rdx58 => ?_)
            refine RunL.call cal21 rfl (s21 (Rd.right rdx55).left.left (Rd.right rdx58)) rfl (fun vx59 Ax59 hx59 => ?_)
            obtain ⟨rfl, rfl⟩ := hx59
            refine RunL.ok (OpOk.assign rfl) rfl ?_
            refine RunL.nil ?_
            refine Run.ret1 Try.func5 rfl rfl ?_
            rw [decide_eq_true (by first | omega | with_reducible rfl | assumption)]
            exact ⟨rfl, ⟨_, (asg (asg (asg (asg (asg (asg (asg (asg (asg (asg (asg (asg (asg as1)))))))))))))⟩⟩
          refine RunL.off rfl rfl rfl rfl ?_
          refine RunL.off rfl rfl rfl rfl ?_
          refine RunL.on rfl rfl ?_
          refine RunL.ok (OpOk.pickF rfl rfl) rfl ?_
          refine RunL.on rfl rfl ?_
          refine RunL.ok (OpOk.move rfl) rfl ?_
          refine RunL.off rfl rfl rfl rfl ?_
          refine RunL.off rfl rfl rfl rfl ?_
          refine RunL.on rfl rfl ?_
          refine RunL.ok (OpOk.pickF rfl rfl) rfl ?_
          refine RunL.ok (OpOk.pickF rfl rfl) rfl ?_
          refine RunL.nil ?_
          refine Run.condF rfl ?_
          refine Run.skip ?_
          refine Run.seq ?_
          refine Run.know (fun w s => (s.conv rfl).ownRd0) (fun rdx60 => ?_)
          (apply Run.drawD [] (by rfl) (sep_emp _).symm; case hchk => kernel_rfl)
          refine Sd.quiet 0 _ _ rfl rfl rfl rfl rfl (QOp.ok (fun X => OpOk.fieldAddr fld34_2 rfl)) ?_
          refine Sd.quiet 1 _ _ rfl rfl rfl rfl rfl (QOp.ok (fun X => OpOk.load rfl rfl rfl (Blk.out Blk.pts.left.left.left.left.left.left.left.left.left _ _ (by first | rfl | assumption)))) ?_
          refine Sd.quiet 2 _ _ rfl rfl rfl rfl rfl (QOp.ok (fun X => OpOk.fieldAddr fld34_1 rfl)) ?_
          refine Sd.quiet 3 _ _ rfl rfl rfl rfl rfl (QOp.ok (fun X => OpOk.load rfl rfl rfl (Blk.out Blk.pts.left.left.left.left.left.left.left.left.left _ _ (by first | rfl | assumption)))) ?_
          refine Sd.quiet 4 _ _ rfl rfl rfl rfl rfl (QOp.ok (fun X => OpOk.move rfl)) ?_
          refine Sd.quiet 5 _ _ rfl rfl rfl rfl rfl (QOp.ok (fun X => OpOk.move rfl)) ?_
          refine Sd.quiet 6 _ _ rfl rfl rfl rfl rfl (QOp.ok (fun X => OpOk.cutM0 rfl ti126 rfl rd.left.left.left.left.left.left.left.left.left.left ⟨_, rfl⟩ ⟨_, rfl⟩ (by omega))) ?_
          refine Sd.quiet 8 _ _ rfl rfl rfl rfl rfl (QOp.ok (fun X => OpOk.fieldAddr fld34_1 rfl)) ?_
          refine Sd.quiet 9 _ _ rfl rfl rfl rfl rfl (QOp.ok (fun X => OpOk.load rfl rfl rfl (Blk.out Blk.pts.left.left.left.left.left.left.left.left.left _ _ (by first | rfl | assumption)))) ?_
          refine Sd.quiet 10 _ _ rfl rfl rfl rfl rfl (QOp.ok (fun X => OpOk.move rfl)) ?_
          refine Sd.quiet 11 _ _ rfl rfl rfl rfl rfl (QOp.ok (fun X => OpOk.cut rfl ti126 rfl rd.left.left.left.left.left.left.left.left.left.left ⟨_, rfl⟩ rfl (by omega) (by omega))) ?_
          (refine Sd.exec 7 rfl rfl rfl rfl rfl ?hrest (by rfl) (fun Xx61 Kx61 hKx61 => ?_); case hrest => kernel_rfl)
          refine RunL.mem (fl2 (sep_emp _) (sep_emp _)) ?_
          refine RunL.call cal19 rfl (s19a rdj.left.left.left.left.left.left.left.left.left rdA.left.left.left.left.left.left.left.left.left (by omega) (by assumption)) rfl (fun vx62 Ax62 hx62 => ?_)
          obtain ⟨x63, rfl⟩ := hx62
          refine RunL.know (fun w s => (s.conv rfl).ownRd0) (fun rdx64 => ?_)
          refine Sd.ret hKx61 (Eq.trans rfl (gp2 (sep_emp _).symm (asg rfl))) ⟨_, (emp_sep _).symm⟩ ?_
          (refine Sd.exec 12 rfl rfl rfl rfl rfl ?hrest (by rfl) (fun Xx65 Kx65 hKx65 => ?_); case hrest => kernel_rfl)
          refine RunL.mem (fl2 (flS rfl) (sep_emp _)) ?_
          refine RunL.call cal19 rfl (s19a (Rd.right rdx64) rdB.left.left.left.left.left.left.left.left.left.left.left (by omega) (by assumption)) rfl (fun vx66 Ax66 hx66 => ?_)
          obtain ⟨x67, rfl⟩ := hx66
          refine RunL.know (fun w s => (s.conv rfl).ownRd0) (fun rdx68 => ?_)
          refine Sd.ret hKx65 (Eq.trans rfl (gp2 (sep_emp _).symm (asg (asg (asg rfl))))) ⟨_, (asg rfl)⟩ ?_
          refine Sd.quiet 13 _ _ rfl rfl rfl rfl rfl (QOp.ok (fun X => OpOk.assign rfl)) ?_
          (apply Sd.tail; case hall => kernel_rfl)
          refine RunL.mem (fl2 (flS (flS (flS rfl))) (sep_emp _)) ?_
          refine RunL.nil ?_
          refine Run.seq ?_
          refine Run.region ?_
          refine RunL.ok (OpOk.move rfl) rfl ?_
          refine RunL.ok (OpOk.fieldAddr fld34_2 rfl) rfl ?_
          refine RunL.ok (OpOk.load rfl rfl rfl (Blk.out Blk.pts.left.left.left.left.left.left.left.left.left.left.left _ _ (by first | rfl | assumption))) rfl ?_
          refine RunL.ok (OpOk.fieldAddr fld34_1 rfl) rfl ?_
          refine RunL.ok (OpOk.load rfl rfl rfl (Blk.out Blk.pts.left.left.left.left.left.left.left.left.left.left.left _ _ (by first | rfl | assumption))) rfl ?_
          refine RunL.call cal19 rfl (s19a rdj.left.left.left.left.left.left.left.left.left.left.left.left rd.left.left.left.left.left.left.left.left.left.left.left.left (by omega) (by assumption)) rfl (fun vx69 Ax69 hx69 => ?_)
          obtain ⟨x70, rfl⟩ := hx69
          refine RunL.know (fun w s => (s.conv rfl).ownRd0) (fun rdx71 => ?_)
          refine RunL.call cal21 rfl (s21 (Rd.right rdx68).left.left (Rd.right rdx71)) rfl (fun vx72 Ax72 hx72 => ?_)
          obtain ⟨rfl, rfl⟩ := hx72
          refine RunL.ok (OpOk.assign rfl) rfl ?_
          refine RunL.nil ?_
          refine Run.ret1 Try.func5 rfl rfl ?_
          rw [decide_eq_true (by first | omega | with_reducible rfl | assumption)]
          exact ⟨rfl, ⟨_, (asg (asg (asg (asg (asg (asg (asg (asg (asg (asg (asg (asg (asg as1)))))))))))))⟩⟩
        refine RunL.off rfl rfl rfl rfl ?_
        refine RunL.off rfl rfl rfl rfl ?_
        refine RunL.ok (OpOk.pickF rfl rfl) rfl ?_
        refine RunL.ok (OpOk.move rfl) rfl ?_
        refine RunL.off rfl rfl rfl rfl ?_
        refine RunL.off rfl rfl rfl rfl ?_
        refine RunL.ok (OpOk.pickF rfl rfl) rfl ?_
        refine RunL.nil ?_
        refine Run.condF rfl ?_
        refine Run.skip ?_
        refine Run.seq ?_
        refine Run.seq ?_
        refine Run.region ?_
        refine RunL.ok (OpOk.move rfl) rfl ?_
        refine RunL.ok (OpOk.asF (OpOk.eql rfl rfl) (by omega)) rfl ?_
        refine RunL.ok (OpOk.move rfl) rfl ?_
        refine RunL.off rfl rfl rfl rfl ?_
        refine RunL.off rfl rfl rfl rfl ?_
        refine RunL.ok (OpOk.pickF rfl rfl) rfl ?_
        refine RunL.ok (OpOk.move rfl) rfl ?_
        refine RunL.on rfl rfl ?_
        refine RunL.ok (OpOk.move rfl) rfl ?_
        refine RunL.on rfl rfl ?_
        refine RunL.ok (OpOk.eql rfl rfl) rfl ?_
        refine RunL.on rfl rfl ?_
        refine RunL.ok (OpOk.move rfl) rfl ?_
        refine RunL.splitD (t := 108) rfl (fun x73 => ?_) (fun x73 => ?_)
        · refine RunL.on rfl rfl ?_
          refine RunL.ok (OpOk.move rfl) rfl ?_
          refine RunL.on rfl rfl ?_
          refine RunL.ok (OpOk.asF (OpOk.eql rfl rfl) (by omega)) rfl ?_
          refine RunL.on rfl rfl ?_
          refine RunL.ok (OpOk.pickT rfl rfl) rfl ?_
          refine RunL.on rfl rfl ?_
          refine RunL.ok (OpOk.move rfl) rfl ?_
          refine RunL.off rfl rfl rfl rfl ?_
          refine RunL.off rfl rfl rfl rfl ?_
          refine RunL.on rfl rfl ?_
          refine RunL.ok (OpOk.pickF rfl rfl) rfl ?_
          refine RunL.ok (OpOk.pickF rfl rfl) rfl ?_
          refine RunL.nil ?_
          refine Run.condF rfl ?_
          refine Run.skip ?_
          refine Run.seq ?_
          refine Run.know (fun w s => (s.conv rfl).ownRd0) (fun rdx74 => ?_)
          (apply Run.drawD [] (by rfl) (sep_emp _).symm; case hchk => kernel_rfl)
          refine Sd.quiet 0 _ _ rfl rfl rfl rfl rfl (QOp.ok (fun X => OpOk.fieldAddr fld34_2 rfl)) ?_
          refine Sd.quiet 1 _ _ rfl rfl rfl rfl rfl (QOp.ok (fun X => OpOk.load rfl rfl rfl (Blk.out Blk.pts.left.left.left.left.left.left.left.left.left _ _ (by first | rfl | assumption)))) ?_
          refine Sd.quiet 2 _ _ rfl rfl rfl rfl rfl (QOp.ok (fun X => OpOk.fieldAddr fld34_1 rfl)) ?_
          refine Sd.quiet 3 _ _ rfl rfl rfl rfl rfl (QOp.ok (fun X => OpOk.load rfl rfl rfl (Blk.out Blk.pts.left.left.left.left.left.left.left.left.left _ _ (by first | rfl | assumption)))) ?_
          refine Sd.quiet 4 _ _ rfl rfl rfl rfl rfl (QOp.ok (fun X => OpOk.move rfl)) ?_
          refine Sd.quiet 5 _ _ rfl rfl rfl rfl rfl (QOp.ok (fun X => OpOk.move rfl)) ?_
          refine Sd.quiet 6 _ _ rfl rfl rfl rfl rfl (QOp.ok (fun X => OpOk.cutM0 rfl ti126 rfl rd.left.left.left.left.left.left.left.left.left.left ⟨_, rfl⟩ ⟨_, rfl⟩ (by omega))) ?_
          refine Sd.quiet 8 _ _ rfl rfl rfl rfl rfl (QOp.ok (fun X => OpOk.fieldAddr fld34_1 rfl)) ?_
          refine Sd.quiet 9 _ _ rfl rfl rfl rfl rfl (QOp.ok (fun X => OpOk.load rfl rfl rfl (Blk.out Blk.pts.left.left.left.left.left.left.left.left.left _ _ (by first | rfl | assumption)))) ?_
          refine Sd.quiet 10 _ _ rfl rfl rfl rfl rfl (QOp.ok (fun X => OpOk.move rfl)) ?_
          refine Sd.quiet 11 _ _ rfl rfl rfl rfl rfl (QOp.ok (fun X => OpOk.cut rfl ti126 rfl rd.left.left.left.left.left.left.left.left.left.left ⟨_, rfl⟩ rfl (by omega) (by omega))) ?_
          (refine Sd.exec 7 rfl rfl rfl rfl rfl ?hrest (by rfl) (fun Xx75 Kx75 hKx75 => ?_); case hrest => kernel_rfl)
          refine RunL.mem (fl2 (sep_emp _) (sep_emp _)) ?_
          refine RunL.call cal19 rfl (s19a rdj.left.left.left.left.left.left.left.left.left rdA.left.left.left.left.left.left.left.left.left (by omega) (by assumption)) rfl (fun vx76 Ax76 hx76 => ?_)
          obtain ⟨x77, rfl⟩ := hx76
          refine RunL.know (fun w s => (s.conv rfl).ownRd0) (fun rdx78 => ?_)
          refine Sd.ret hKx75 (Eq.trans rfl (gp2 (sep_emp _).symm (asg rfl))) ⟨_, (emp_sep _).symm⟩ ?_
          (refine Sd.exec 12 rfl rfl rfl rfl rfl ?hrest (by rfl) (fun Xx79 Kx79 hKx79 => ?_); case hrest => kernel_rfl)
          refine RunL.mem (fl2 (flS rfl) (sep_emp _)) ?_
          refine RunL.call cal19 rfl (s19a (Rd.right rdx78) rdB.left.left.left.left.left.left.left.left.left.left.left (by omega) (by assumption)) rfl (fun vx80 Ax80 hx80 => ?_)
          obtain ⟨x81, rfl⟩ := hx80
          refine RunL.know (fun w s => (s.conv rfl).ownRd0) (fun rdx82 => ?_)
          refine Sd.ret hKx79 (Eq.trans rfl (gp2 (sep_emp _).symm (asg (asg (asg rfl))))) ⟨_, (asg rfl)⟩ ?_
          refine Sd.quiet 13 _ _ rfl rfl rfl rfl rfl (QOp.ok (fun X => OpOk.assign rfl)) ?_
          (apply Sd.tail; case hall => kernel_rfl)
          refine RunL.mem (fl2 (flS (flS (flS rfl))) (sep_emp _)) ?_
          refine RunL.nil ?_
          refine Run.seq ?_
          refine Run.region ?_
          refine RunL.ok (OpOk.move rfl) rfl ?_
          refine RunL.ok (OpOk.fieldAddr fld34_2 rfl) rfl ?_
          refine RunL.ok (OpOk.load rfl rfl rfl (Blk.out Blk.pts.left.left.left.left.left.left.left.left.left.left.left _ _ (by first | rfl | assumption))) rfl ?_
          refine RunL.ok (OpOk.fieldAddr fld34_1 rfl) rfl ?_
          refine RunL.ok (OpOk.load rfl rfl rfl (Blk.out Blk.pts.left.left.left.left.left.left.left.left.left.left.left _ _ (by first | rfl | assumption))) rfl ?_
          refine RunL.call cal19 rfl (s19a rdj.left.left.left.left.left.left.left.left.left.left.left.left rd.left.left.left.left.left.left.left.left.left.left.left.left (by omega) (by assumption)) rfl (fun vx83 Ax83 hx83 => ?_)
          obtain ⟨x84, rfl⟩ := hx83
          refine RunL.know (fun w s => (s.conv rfl).ownRd0) (fun rdx85 => ?_)
          refine RunL.call cal21 rfl (s21 (Rd.right rdx82).left.left (Rd.right rdx85)) rfl (fun vx86 Ax86 hx86 => ?_)
          obtain ⟨rfl, rfl⟩ := hx86
          refine RunL.ok (OpOk.assign rfl) rfl ?_
          refine RunL.nil ?_
          refine Run.ret1 Try.func5 rfl rfl ?_
          rw [decide_eq_true (by first | omega | with_reducible rfl | assumption)]
          exact ⟨rfl, ⟨_, (asg (asg (asg (asg (asg (asg (asg (asg (asg (asg (asg (asg (asg as1)))))))))))))⟩⟩
        refine RunL.off rfl rfl rfl rfl ?_
        refine RunL.off rfl rfl rfl rfl ?_
        refine RunL.on rfl rfl ?_
        refine RunL.ok (OpOk.pickF rfl rfl) rfl ?_
        refine RunL.on rfl rfl ?_
        refine RunL.ok (OpOk.move rfl) rfl ?_
        refine RunL.off rfl rfl rfl rfl ?_
        refine RunL.off rfl rfl rfl rfl ?_
        refine RunL.on rfl rfl ?_
        refine RunL.ok (OpOk.pickF rfl rfl) rfl ?_
        refine RunL.ok (OpOk.pickF rfl rfl) rfl ?_
        refine RunL.nil ?_
        refine Run.condF rfl ?_
        refine Run.skip ?_
        refine Run.seq ?_
        refine Run.know (fun w s => (s.conv rfl).ownRd0) (fun rdx87 => ?_)
        (apply Run.drawD [] (by rfl) (sep_emp _).symm; case hchk => kernel_rfl)
        refine Sd.quiet 0 _ _ rfl rfl rfl rfl rfl (QOp.ok (fun X => OpOk.fieldAddr fld34_2 rfl)) ?_
        refine Sd.quiet 1 _ _ rfl rfl rfl rfl rfl (QOp.ok (fun X => OpOk.load rfl rfl rfl (Blk.out Blk.pts.left.left.left.left.left.left.left.left.left _ _ (by first | rfl | assumption)))) ?_
        refine Sd.quiet 2 _ _ rfl rfl rfl rfl rfl (QOp.ok (fun X => OpOk.fieldAddr fld34_1 rfl)) ?_
        refine Sd.quiet 3 _ _ rfl rfl rfl rfl rfl (QOp.ok (fun X => OpOk.load rfl rfl rfl (Blk.out Blk.pts.left.left.left.left.left.left.left.left.left _ _ (by first | rfl | assumption)))) ?_
        refine Sd.quiet 4 _ _ rfl rfl rfl rfl rfl (QOp.ok (fun X => OpOk.move rfl)) ?_
        refine Sd.quiet 5 _ _ rfl rfl rfl rfl rfl (QOp.ok (fun X => OpOk.move rfl)) ?_
        refine Sd.quiet 6 _ _ rfl rfl rfl rfl rfl (QOp.ok (fun X => OpOk.cutM0 rfl ti126 rfl rd.left.left.left.left.left.left.left.left.left.left ⟨_, rfl⟩ ⟨_, rfl⟩ (by omega))) ?_
        refine Sd.quiet 8 _ _ rfl rfl rfl rfl rfl (QOp.ok (fun X => OpOk.fieldAddr fld34_1 rfl)) ?_
        refine Sd.quiet 9 _ _ rfl rfl rfl rfl rfl (QOp.ok (fun X => OpOk.load rfl rfl rfl (Blk.out Blk.pts.left.left.left.left.left.left.left.left.left _ _ (by first | rfl | assumption)))) ?_
        refine Sd.quiet 10 _ _ rfl rfl rfl rfl rfl (QOp.ok (fun X => OpOk.move rfl)) ?_
        refine Sd.quiet 11 _ _ rfl rfl rfl rfl rfl (QOp.ok (fun X => OpOk.cut rfl ti126 rfl rd.left.left.left.left.left.left.left.left.left.left ⟨_, rfl⟩ rfl (by omega) (by omega))) ?_
        (refine Sd.exec 7 rfl rfl rfl rfl rfl ?hrest (by rfl) (fun Xx88 Kx88 hKx88 => ?_); case hrest => kernel_rfl)
        refine RunL.mem (fl2 (sep_emp _) (sep_emp _)) ?_
        refine RunL.call cal19 rfl (s19a rdj.left.left.left.left.left.left.left.left.left rdA.left.left.left.left.left.left.left.left.left (by omega) (by assumption)) rfl (fun vx89 Ax89 hx89 => ?_)
        obtain ⟨x90, rfl⟩ := hx89
        refine RunL.know (fun w s => (s.conv rfl).ownRd0) (fun rdx91 => ?_)
        refine Sd.ret hKx88 (Eq.trans rfl (gp2 (sep_emp _).symm (asg rfl))) ⟨_, (emp_sep _).symm⟩ ?_
        (refine Sd.exec 12 rfl rfl rfl rfl rfl ?hrest (by rfl) (fun Xx92 Kx92 hKx92 => ?_); case hrest => kernel_rfl)
        refine RunL.mem (fl2 (flS rfl) (sep_emp _)) ?_
        refine RunL.call cal19 rfl (s19a (Rd.right rdx91) rdB.left.left.left.left.left.left.left.left.left.left.left (by omega) (by assumption)) rfl (fun vx93 Ax93 hx93 => ?_)
        obtain ⟨x94, rfl⟩ := hx93
        refine RunL.know (fun w s => (s.conv rfl).ownRd0) (fun rdx95 => ?_)
        refine Sd.ret hKx92 (Eq.trans rfl (gp2 (sep_emp _).symm (asg (asg (asg rfl))))) ⟨_, (asg rfl)⟩ ?_
        refine Sd.quiet 13 _ _ rfl rfl rfl rfl rfl (QOp.ok (fun X => OpOk.assign rfl)) ?_
        (apply Sd.tail; case hall => kernel_rfl)
        refine RunL.mem (fl2 (flS (flS (flS rfl))) (sep_emp _)) ?_
        refine RunL.nil ?_
        refine Run.seq ?_
        refine Run.region ?_
        refine RunL.ok (OpOk.move rfl) rfl ?_
        refine RunL.ok (OpOk.fieldAddr fld34_2 rfl) rfl ?_
        refine RunL.ok (OpOk.load rfl rfl rfl (Blk.out Blk.pts.left.left.left.left.left.left.left.left.left.left.left _ _ (by first | rfl | assumption))) rfl ?_
        refine RunL.ok (OpOk.fieldAddr fld34_1 rfl) rfl ?_
        refine RunL.ok (OpOk.load rfl rfl rfl (Blk.out Blk.pts.left.left.left.left.left.left.left.left.left.left.left _ _ (by first | rfl | assumption))) rfl ?_
        refine RunL.call cal19 rfl (s19a rdj.left.left.left.left.left.left.left.left.left.left.left.left rd.left.left.left.left.left.left.left.left.left.left.left.left (by omega) (by assumption)) rfl (fun vx96 Ax96 hx96 => ?_)
        obtain ⟨x97, rfl⟩ := hx96
        refine RunL.know (fun w s => (s.conv rfl).ownRd0) (fun rdx98 => ?_)
        refine RunL.call cal21 rfl (s21 (Rd.right rdx95).left.left (Rd.right rdx98)) rfl (fun vx99 Ax99 hx99 => ?_)
        obtain ⟨rfl, rfl⟩ := hx99
        refine RunL.ok (OpOk.assign rfl) rfl ?_
        refine RunL.nil ?_
        refine Run.ret1 Try.func5 rfl rfl ?_
        rw [decide_eq_true (by first | omega | with_reducible rfl | assumption)]
        exact ⟨rfl, ⟨_, (asg (asg (asg (asg (asg (asg (asg (asg (asg (asg (asg (asg (asg as1)))))))))))))⟩⟩
    · have hkl : ps.length ≤ ps.length := by omega
      have rdA : Rd w0 (old w0) (Go.Proofs.Yteopadjihklkmaa.cutM sv.1 0 ps.length ps.length 3) 3 ps.length (Fl encT126 (ps.take ps.length)) := by
        have := Rd.cutM rd (Nat.zero_le ps.length) hkl (Nat.le_refl ps.length)
        rwa [Fl_drop (enc := encT126) (fun _ => rfl), Fl_take (enc := encT126) (fun _ => rfl), List.drop_zero, Nat.sub_zero] at this
      have rdB : Rd w0 (old w0) (Go.Proofs.Yteopadjihklkmaa.cutV sv.1 ps.length ps.length 3) 3 (ps.length - ps.length) (Fl encT126 (ps.drop ps.length)) := by
        have := Rd.cutFl (enc := encT126) (s := 3) (fun _ => rfl) rd hkl (Nat.le_refl ps.length)
        rwa [List.take_of_length_le (by rw [List.length_drop]; exact Nat.le_refl _)] at this
      have alA := al.take (i := ps.length)
      have alB := al.drop (i := ps.length)
      have inA : ∀ q ∈ ps.take ps.length, ∀ s ∈ q.2.2.2, inI s.2 := fun q hq => hin q (List.mem_of_mem_take hq)
      have inB : ∀ q ∈ ps.drop ps.length, ∀ s ∈ q.2.2.2, inI s.2 := fun q hq => hin q (List.mem_of_mem_drop hq)
      have hcut := shs_cut ps ps.length
      have hcl := congrArg List.length hcut
      rw [List.length_append] at hcl
      have hLA : (shs (ps.take ps.length)).length ≤ 1048576 := by omega
      have hLB : (shs (ps.drop ps.length)).length ≤ 1048576 := by omega
      have kA : KeysAre (ps.take ps.length) ((ps.take ps.length).map keyP) := ⟨rfl⟩
      have kB : KeysAre (ps.drop ps.length) ((ps.drop ps.length).map keyP) := ⟨rfl⟩
      have kC : KeysAre ps ((ps.take ps.length).map keyP ++ (ps.drop ps.length).map keyP) := ⟨by rw [← List.map_append, List.take_append_drop]⟩
      have hmm := missF_two ((ps.take ps.length).map keyP) ((ps.drop ps.length).map keyP) js
      have hm1 := missF_len ((ps.take ps.length).map keyP) js
      obtain ⟨e, la, tA⟩ : ∃ e la, totF ops (shs (ps.take ps.length)) = (e, la) := ⟨_, _, rfl⟩
      obtain ⟨f, lb, tB⟩ : ∃ e la, totF ops (shs (ps.drop ps.length)) = (e, la) := ⟨_, _, rfl⟩
      obtain ⟨g, lc, tC⟩ : ∃ e la, totF ops (shs ps) = (e, la) := ⟨_, _, rfl⟩
      obtain ⟨p1, p2, p3⟩ := parts_tot tA tB (hcut ▸ tC)
      have iA : TotIs ops (ps.take ps.length) e la := ⟨tA⟩
      have iB : TotIs ops (ps.drop ps.length) f lb := ⟨tB⟩
      have iC : TotIs ops ps g lc := ⟨tC⟩
      have p4 : ¬ (g = 2 ∧ e = 0 ∧ f = 0) := fun h => p2 h.1 h.2.1 h.2.2
      clear p2 hcut hcl tA tB tC
      rcases Decidable.em (e = 0 ∧ f = 0 ∧ g = 0) with hall | hall
      · obtain ⟨rfl, rfl, rfl⟩ := hall
        obtain ⟨l0, l1, l2, l3⟩ := p3 rfl rfl rfl
        clear p1 p3 p4
        refine Spec.of_run [(0, .agg #[.int .i64 ops, sv.1, jv.1, wv.1]), (1, .int .i64 cut)] Try.func5 rfl (Nat.le_of_ble_eq_true rfl) (by repeat (first | exact trivial | refine ⟨rfl, ?_⟩)) ?_
        refine Run.seq ?_
        refine Run.region ?_
        refine RunL.box rfl rfl (fun bx1 => ?_)
        refine RunL.ok (OpOk.assign rfl) rfl ?_
        refine RunL.nil ?_
        refine Run.seq ?_
        refine Run.seq ?_
        refine Run.region ?_
        refine RunL.call cal14 rfl (s14) rfl (fun vx2 Ax2 hx2 => ?_)
        obtain ⟨x3, ⟨rfl, rfl⟩⟩ := hx2
        refine RunL.ok (OpOk.not rfl) rfl ?_
        refine RunL.ok (OpOk.move rfl) rfl ?_
        refine RunL.on rfl rfl ?_
        refine RunL.ok (OpOk.fieldAddr fld34_1 rfl) rfl ?_
        refine RunL.on rfl rfl ?_
        refine RunL.ok (OpOk.load rfl rfl rfl (Blk.out Blk.pts.left _ _ (by first | rfl | assumption))) rfl ?_
        refine RunL.on rfl rfl ?_
        refine RunL.ok (OpOk.lenR rfl rfl rd.left.left rfl) rfl ?_
        refine RunL.on rfl rfl ?_
        refine RunL.ok (OpOk.asF (OpOk.gtr rfl rfl) (by omega)) rfl ?_
        refine RunL.ok (OpOk.pickF rfl rfl) rfl ?_
        refine RunL.ok (OpOk.move rfl) rfl ?_
        refine RunL.on rfl rfl ?_
        refine RunL.ok (OpOk.fieldAddr fld34_2 rfl) rfl ?_
        refine RunL.on rfl rfl ?_
        refine RunL.ok (OpOk.load rfl rfl rfl (Blk.out Blk.pts.left _ _ (by first | rfl | assumption))) rfl ?_
        refine RunL.on rfl rfl ?_
        refine RunL.ok (OpOk.lenR rfl rfl rdj.left.left rfl) rfl ?_
        refine RunL.on rfl rfl ?_
        refine RunL.ok (OpOk.asF (OpOk.gtr rfl rfl) (by omega)) rfl ?_
        refine RunL.ok (OpOk.pickF rfl rfl) rfl ?_
        refine RunL.nil ?_
        refine Run.condF rfl ?_
        refine Run.skip ?_
        refine Run.seq ?_
        refine Run.region ?_
        refine RunL.ok (OpOk.fieldAddr fld34_1 rfl) rfl ?_
        refine RunL.ok (OpOk.load rfl rfl rfl (Blk.out Blk.pts.left _ _ (by first | rfl | assumption))) rfl ?_
        refine RunL.ok (OpOk.lenR rfl rfl rd.left.left rfl) rfl ?_
        refine RunL.ok (OpOk.assign rfl) rfl ?_
        refine RunL.nil ?_
        refine Run.seq ?_
        refine Run.seq ?_
        refine Run.region ?_
        refine RunL.ok (OpOk.move rfl) rfl ?_
        refine RunL.ok (OpOk.geq rfl rfl) rfl ?_
        refine RunL.ok (OpOk.move rfl) rfl ?_
        refine RunL.splitD (t := 34) rfl (fun x4 => ?_) (fun x4 => ?_)
        · refine RunL.on rfl rfl ?_
          refine RunL.ok (OpOk.move rfl) rfl ?_
          refine RunL.on rfl rfl ?_
          refine RunL.ok (OpOk.move rfl) rfl ?_
          refine RunL.on rfl rfl ?_
          refine RunL.ok (OpOk.asF (OpOk.lss rfl rfl) (by omega)) rfl ?_
          refine RunL.ok (OpOk.pickT rfl rfl) rfl ?_
          refine RunL.nil ?_
          refine Run.condF rfl ?_
          refine Run.skip ?_
          refine Run.seq ?_
          (apply Run.drawD [] (by rfl) (sep_emp _).symm; case hchk => kernel_rfl)
          refine Sd.quiet 0 _ _ rfl rfl rfl rfl rfl (QOp.ok (fun X => OpOk.fieldAddr fld34_0 rfl)) ?_
          refine Sd.quiet 1 _ _ rfl rfl rfl rfl rfl (QOp.ok (fun X => OpOk.load rfl rfl rfl (Blk.out Blk.pts.left.left.left _ _ (by first | rfl | assumption)))) ?_
          refine Sd.quiet 2 _ _ rfl rfl rfl rfl rfl (QOp.ok (fun X => OpOk.fieldAddr fld34_1 rfl)) ?_
          refine Sd.quiet 3 _ _ rfl rfl rfl rfl rfl (QOp.ok (fun X => OpOk.load rfl rfl rfl (Blk.out Blk.pts.left.left.left _ _ (by first | rfl | assumption)))) ?_
          refine Sd.quiet 4 _ _ rfl rfl rfl rfl rfl (QOp.ok (fun X => OpOk.move rfl)) ?_
          refine Sd.quiet 5 _ _ rfl rfl rfl rfl rfl (QOp.ok (fun X => OpOk.move rfl)) ?_
          refine Sd.quiet 6 _ _ rfl rfl rfl rfl rfl (QOp.ok (fun X => OpOk.cutM0 rfl ti126 rfl rd.left.left.left.left ⟨_, rfl⟩ ⟨_, rfl⟩ (by omega))) ?_
          (refine Sd.exec 7 rfl rfl rfl rfl rfl ?hrest (by rfl) (fun Xx5 Kx5 hKx5 => ?_); case hrest => kernel_rfl)
          refine RunL.mem (fl2 (sep_emp _) (sep_emp _)) ?_
          refine RunL.call cal17 rfl (s17b rdA.left.left.left alA.left.left.left (by assumption) (by assumption) (by assumption)) rfl (fun vx6 Ax6 hx6 => ?_)
          obtain ⟨x7, ⟨x8, ⟨rfl, rfl⟩⟩⟩ := hx6
          refine RunL.know (fun w s => (s.conv rfl).ownRd0) (fun rdx9 => ?_)
          refine Sd.ret hKx5 (Eq.trans rfl (gp2 (sep_emp _).symm (asg rfl))) ⟨_, (emp_sep _).symm⟩ ?_
          refine Sd.quiet 8 _ _ rfl rfl rfl rfl rfl (QOp.ok (fun X => OpOk.move rfl)) ?_
          refine Sd.quiet 9 _ _ rfl rfl rfl rfl rfl (QOp.ok (fun X => OpOk.ext20 rfl)) ?_
          refine Sd.quiet 10 _ _ rfl rfl rfl rfl rfl (QOp.ok (fun X => OpOk.ext21 rfl)) ?_
          refine Sd.quiet 11 _ _ rfl rfl rfl rfl rfl (QOp.ok (fun X => OpOk.assign rfl)) ?_
          refine Sd.quiet 12 _ _ rfl rfl rfl rfl rfl (QOp.ok (fun X => OpOk.assign rfl)) ?_
          (apply Sd.tail; case hall => kernel_rfl)
          refine RunL.mem (fl2 (flS rfl) (sep_emp _)) ?_
          refine RunL.nil ?_
          refine Run.seq ?_
          (apply Run.drawD [] (by rfl) (sep_emp _).symm; case hchk => kernel_rfl)
          refine Sd.quiet 0 _ _ rfl rfl rfl rfl rfl (QOp.ok (fun X => OpOk.fieldAddr fld34_0 rfl)) ?_
          refine Sd.quiet 1 _ _ rfl rfl rfl rfl rfl (QOp.ok (fun X => OpOk.load rfl rfl rfl (Blk.out Blk.pts.left.left.left.left.left _ _ (by first | rfl | assumption)))) ?_
          refine Sd.quiet 2 _ _ rfl rfl rfl rfl rfl (QOp.ok (fun X => OpOk.fieldAddr fld34_1 rfl)) ?_
          refine Sd.quiet 3 _ _ rfl rfl rfl rfl rfl (QOp.ok (fun X => OpOk.load rfl rfl rfl (Blk.out Blk.pts.left.left.left.left.left _ _ (by first | rfl | assumption)))) ?_
          refine Sd.quiet 4 _ _ rfl rfl rfl rfl rfl (QOp.ok (fun X => OpOk.move rfl)) ?_
          refine Sd.quiet 5 _ _ rfl rfl rfl rfl rfl (QOp.ok (fun X => OpOk.cut rfl ti126 rfl rd.left.left.left.left.left.left ⟨_, rfl⟩ rfl (by omega) (by omega))) ?_
          (refine Sd.exec 6 rfl rfl rfl rfl rfl ?hrest (by rfl) (fun Xx10 Kx10 hKx10 => ?_); case hrest => kernel_rfl)
          refine RunL.mem (fl2 (sep_emp _) (sep_emp _)) ?_
          refine RunL.call cal17 rfl (s17b rdB.left.left.left.left.left alB.left.left.left.left.left (by assumption) (by assumption) (by assumption)) rfl (fun vx11 Ax11 hx11 => ?_)
          obtain ⟨x12, ⟨x13, ⟨rfl, rfl⟩⟩⟩ := hx11
          refine RunL.know (fun w s => (s.conv rfl).ownRd0) (fun rdx14 => ?_)
          refine Sd.ret hKx10 (Eq.trans rfl (gp2 (sep_emp _).symm (asg rfl))) ⟨_, (emp_sep _).symm⟩ ?_
          refine Sd.quiet 7 _ _ rfl rfl rfl rfl rfl (QOp.ok (fun X => OpOk.move rfl)) ?_
          refine Sd.quiet 8 _ _ rfl rfl rfl rfl rfl (QOp.ok (fun X => OpOk.ext20 rfl)) ?_
          refine Sd.quiet 9 _ _ rfl rfl rfl rfl rfl (QOp.ok (fun X => OpOk.ext21 rfl)) ?_
          refine Sd.quiet 10 _ _ rfl rfl rfl rfl rfl (QOp.ok (fun X => OpOk.assign rfl)) ?_
          refine Sd.quiet 11 _ _ rfl rfl rfl rfl rfl (QOp.ok (fun X => OpOk.assign rfl)) ?_
          (apply Sd.tail; case hall => kernel_rfl)
          refine RunL.mem (fl2 (flS rfl) (sep_emp _)) ?_
          refine RunL.nil ?_
          refine Run.seq ?_
          refine Run.region ?_
          refine RunL.ok (OpOk.fieldAddr fld34_0 rfl) rfl ?_
          refine RunL.ok (OpOk.load rfl rfl rfl (Blk.out Blk.pts.left.left.left.left.left _ _ (by first | rfl | assumption))) rfl ?_
          refine RunL.ok (OpOk.fieldAddr fld34_1 rfl) rfl ?_
          refine RunL.ok (OpOk.load rfl rfl rfl (Blk.out Blk.pts.left.left.left.left.left _ _ (by first | rfl | assumption))) rfl ?_
          refine RunL.call cal17 rfl (s17b rd.left.left.left.left.left.left al.left.left.left.left.left.left (by assumption) (by assumption) (by assumption)) rfl (fun vx15 Ax15 hx15 => ?_)
          obtain ⟨x16, ⟨x17, ⟨rfl, rfl⟩⟩⟩ := hx15
          refine RunL.ok (OpOk.move rfl) rfl ?_
          refine RunL.ok (OpOk.ext20 rfl) rfl ?_
          refine RunL.ok (OpOk.ext21 rfl) rfl ?_
          refine RunL.ok (OpOk.assign rfl) rfl ?_
          refine RunL.ok (OpOk.assign rfl) rfl ?_
          refine RunL.nil ?_
          refine Run.seq ?_
          refine Run.seq ?_
          refine Run.region ?_
          refine RunL.ok (OpOk.move rfl) rfl ?_
          refine RunL.ok (OpOk.asT (OpOk.eql rfl rfl) (by omega)) rfl ?_
          refine RunL.ok (OpOk.move rfl) rfl ?_
          refine RunL.on rfl rfl ?_
          refine RunL.ok (OpOk.move rfl) rfl ?_
          refine RunL.on rfl rfl ?_
          refine RunL.ok (OpOk.asT (OpOk.eql rfl rfl) (by omega)) rfl ?_
          refine RunL.ok (OpOk.pickT rfl rfl) rfl ?_
          refine RunL.ok (OpOk.move rfl) rfl ?_
          refine RunL.on rfl rfl ?_
          refine RunL.ok (OpOk.move rfl) rfl ?_
          refine RunL.on rfl rfl ?_
          refine RunL.ok (OpOk.asT (OpOk.eql rfl rfl) (by omega)) rfl ?_
          refine RunL.ok (OpOk.pickT rfl rfl) rfl ?_
          refine RunL.nil ?_
          refine Run.condT rfl ?_
          refine Run.seq ?_
          refine Run.region ?_
          refine RunL.ok (OpOk.assign rfl) rfl ?_
          refine RunL.nil ?_
          refine Run.block ?_
          refine Run.jump ((Run.loopJ (X := Nat × Asn) (fun x => [(12, .int .i64 (x.1 : Int)), (11, .int .i64 0), (10, x16), (9, .int .i64 0), (8, x12), (7, .int .i64 0), (6, x7), (5, .int .i64 (ps.length : Int)), (2, .pointer (some ⟨bx1, 0, none⟩))]) (fun x => old w0 * x.2 * pts bx1 (.cells (Value.agg #[.int .i64 ops, sv.1, jv.1, wv.1]).cells 34 (0, 0)) * own 3 1 x7 la.length (I la) * own 3 1 x12 lb.length (I lb) * own 3 1 x16 lc.length (I lc)) (fun x => x.1 ≤ lc.length) (fun x => lc.length - x.1) (0, _) (Nat.zero_le _) (fun x hx ih => ?_))) ⟨rfl, rfl, rfl, rfl, rfl, rfl, rfl, rfl, rfl, trivial⟩ (Grew.of (Eq.trans (frc rfl (frc (frl rfl) (frc (frl (frl rfl)) (frc (frl (frl (frl (frl rfl)))) rfl)))) (congrArg (· * _) (congrArg (· * _) (congrArg (· * _) (congrArg (· * _) (asg (asg (asg as1)))))))) (Grew.refl _))
          obtain ⟨i, J⟩ := x
          simp only at hx ih ⊢
          rcases Nat.lt_or_ge i lc.length with hlt | hge
          · obtain ⟨q1, q2⟩ := l3 i hlt
            obtain ⟨q2, q3⟩ := q2
            refine Run.seq ?_
            refine Run.seq ?_
            refine Run.region ?_
            refine RunL.ok (OpOk.move rfl) rfl ?_
            refine RunL.ok (OpOk.move rfl) rfl ?_
            refine RunL.know (fun w s => (s.conv rfl).ownRd0) (fun rdy1 => ?_)
            refine RunL.ok (OpOk.lenR rfl rfl (Rd.right rdy1) rfl) rfl ?_
            refine RunL.ok (OpOk.asT (OpOk.lss rfl rfl) (by omega)) rfl ?_
            refine RunL.nil ?_
            refine Run.condT rfl ?_
            refine Run.skip ?_
            refine Run.seq ?_
            refine Run.block ?_
            refine Run.seq ?_
            (apply Run.drawD [] (by rfl) (sep_emp _).symm; case hchk => kernel_rfl)
            refine Sd.quiet 0 _ _ rfl rfl rfl rfl rfl (QOp.ok (fun X => OpOk.move rfl)) ?_
            refine Sd.quiet 1 _ _ rfl rfl rfl rfl rfl (QOp.ok (fun X => OpOk.move rfl)) ?_
            refine Sd.quiet 2 _ _ rfl rfl rfl rfl rfl (QOp.ok (fun X => OpOk.idx1N rfl ti3 rfl (Rd.right rdy1).left.left rfl (by omega))) ?_
            refine Sd.quiet 3 _ _ rfl rfl rfl rfl rfl (QOp.ok (fun X => OpOk.load rfl rfl rfl (Rd.getIE (by assumption) (Rd.right rdy1).left.left (by omega)))) ?_
            refine Sd.quiet 4 _ _ rfl rfl rfl rfl rfl (QOp.ok (fun X => OpOk.move rfl)) ?_
            refine Sd.quiet 5 _ _ rfl rfl rfl rfl rfl (QOp.ok (fun X => OpOk.move rfl)) ?_
            refine Sd.quiet 6 _ _ rfl rfl rfl rfl rfl (QOp.ok (fun X => OpOk.idx1N rfl ti3 rfl (Rd.right rdx9).left.left.left.left rfl (by omega))) ?_
            refine Sd.quiet 7 _ _ rfl rfl rfl rfl rfl (QOp.ok (fun X => OpOk.load rfl rfl rfl (Rd.getI (Rd.right rdx9).left.left.left.left (by omega)))) ?_
            refine Sd.quiet 8 _ _ rfl rfl rfl rfl rfl (QOp.ok (fun X => OpOk.move rfl)) ?_
            refine Sd.quiet 9 _ _ rfl rfl rfl rfl rfl (QOp.ok (fun X => OpOk.move rfl)) ?_
            refine Sd.quiet 10 _ _ rfl rfl rfl rfl rfl (QOp.ok (fun X => OpOk.idx1N rfl ti3 rfl (Rd.right rdx14).left.left.left rfl (by omega))) ?_
            refine Sd.quiet 11 _ _ rfl rfl rfl rfl rfl (QOp.ok (fun X => OpOk.load rfl rfl rfl (Rd.getI (Rd.right rdx14).left.left.left (by omega)))) ?_
            refine Sd.quiet 12 _ _ rfl rfl rfl rfl rfl (QOp.ok (fun X => OpOk.add rfl rfl (wrapI (by omega) (by omega)))) ?_
            refine Sd.quiet 13 _ _ rfl rfl rfl rfl rfl (QOp.ok (fun X => OpOk.as (c := false) (OpOk.neq rfl rfl) (by rw [decide_eq_true (by omega)]; rfl))) ?_
            (apply Sd.tail; case hall => kernel_rfl)
            refine RunL.mem (fl2 (sep_emp _) (sep_emp _)) ?_
            refine RunL.nil ?_
            refine Run.condF rfl ?_
            refine Run.skip ?_
            refine Run.inBlock ?_
            refine Run.region ?_
            refine RunL.ok (OpOk.move rfl) rfl ?_
            refine RunL.ok (OpOk.addN _ 1 rfl rfl rfl rfl (by omega)) rfl ?_
            refine RunL.ok (OpOk.assign rfl) rfl ?_
            refine RunL.nil ?_
            refine Run.jump ((ih (i + 1, J) (by dsimp only; omega) (by dsimp only; omega))) ⟨rfl, rfl, rfl, rfl, rfl, rfl, rfl, rfl, rfl, trivial⟩ ((Grew.refl _))
          · obtain rfl : i = lc.length := by omega
            clear ih
            refine Run.seq ?_
            refine Run.seq ?_
            refine Run.region ?_
            refine RunL.ok (OpOk.move rfl) rfl ?_
            refine RunL.ok (OpOk.move rfl) rfl ?_
            refine RunL.know (fun w s => (s.conv rfl).ownRd0) (fun rdy1 => ?_)
            refine RunL.ok (OpOk.lenR rfl rfl (Rd.right rdy1) rfl) rfl ?_
            refine RunL.ok (OpOk.asF (OpOk.lss rfl rfl) (by omega)) rfl ?_
            refine RunL.nil ?_
            refine Run.condF rfl ?_
            refine Run.exit rfl ?_
            refine Run.seq ?_
            refine Run.seq ?_
            refine Run.region ?_
            refine RunL.ok (OpOk.move rfl) rfl ?_
            refine RunL.ok (OpOk.asT (OpOk.eql rfl rfl) (by omega)) rfl ?_
            refine RunL.ok (OpOk.move rfl) rfl ?_
            refine RunL.on rfl rfl ?_
            refine RunL.ok (OpOk.move rfl) rfl ?_
            refine RunL.on rfl rfl ?_
            refine RunL.ok (OpOk.as (c := false) (OpOk.neq rfl rfl) (by rw [decide_eq_true (by omega)]; rfl)) rfl ?_
            refine RunL.ok (OpOk.pickT rfl rfl) rfl ?_
            refine RunL.ok (OpOk.move rfl) rfl ?_
            refine RunL.on rfl rfl ?_
            refine RunL.ok (OpOk.move rfl) rfl ?_
            refine RunL.on rfl rfl ?_
            refine RunL.ok (OpOk.asF (OpOk.eql rfl rfl) (by omega)) rfl ?_
            refine RunL.on rfl rfl ?_
            refine RunL.ok (OpOk.move rfl) rfl ?_
            refine RunL.off rfl rfl rfl rfl ?_
            refine RunL.off rfl rfl rfl rfl ?_
            refine RunL.on rfl rfl ?_
            refine RunL.ok (OpOk.pickF rfl rfl) rfl ?_
            refine RunL.on rfl rfl ?_
            refine RunL.ok (OpOk.move rfl) rfl ?_
            refine RunL.off rfl rfl rfl rfl ?_
            refine RunL.off rfl rfl rfl rfl ?_
            refine RunL.on rfl rfl ?_
            refine RunL.ok (OpOk.pickF rfl rfl) rfl ?_
            refine RunL.ok (OpOk.pickF rfl rfl) rfl ?_
            refine RunL.nil ?_
            refine Run.condF rfl ?_
            refine Run.skip ?_
            refine Run.seq ?_
            (apply Run.drawD [] (by rfl) (sep_emp _).symm; case hchk => kernel_rfl)
            refine Sd.quiet 0 _ _ rfl rfl rfl rfl rfl (QOp.ok (fun X => OpOk.fieldAddr fld34_2 rfl)) ?_
            refine Sd.quiet 1 _ _ rfl rfl rfl rfl rfl (QOp.ok (fun X => OpOk.load rfl rfl rfl (Blk.out Blk.pts.left.left.left.left.left _ _ (by first | rfl | assumption)))) ?_
            refine Sd.quiet 2 _ _ rfl rfl rfl rfl rfl (QOp.ok (fun X => OpOk.fieldAddr fld34_1 rfl)) ?_
            refine Sd.quiet 3 _ _ rfl rfl rfl rfl rfl (QOp.ok (fun X => OpOk.load rfl rfl rfl (Blk.out Blk.pts.left.left.left.left.left _ _ (by first | rfl | assumption)))) ?_
            refine Sd.quiet 4 _ _ rfl rfl rfl rfl rfl (QOp.ok (fun X => OpOk.move rfl)) ?_
            refine Sd.quiet 5 _ _ rfl rfl rfl rfl rfl (QOp.ok (fun X => OpOk.move rfl)) ?_
            refine Sd.quiet 6 _ _ rfl rfl rfl rfl rfl (QOp.ok (fun X => OpOk.cutM0 rfl ti126 rfl rd.left.left.left.left.left.left.left ⟨_, rfl⟩ ⟨_, rfl⟩ (by omega))) ?_
            refine Sd.quiet 8 _ _ rfl rfl rfl rfl rfl (QOp.ok (fun X => OpOk.fieldAddr fld34_1 rfl)) ?_
            refine Sd.quiet 9 _ _ rfl rfl rfl rfl rfl (QOp.ok (fun X => OpOk.load rfl rfl rfl (Blk.out Blk.pts.left.left.left.left.left _ _ (by first | rfl | assumption)))) ?_
            refine Sd.quiet 10 _ _ rfl rfl rfl rfl rfl (QOp.ok (fun X => OpOk.move rfl)) ?_
            refine Sd.quiet 11 _ _ rfl rfl rfl rfl rfl (QOp.ok (fun X => OpOk.cut rfl ti126 rfl rd.left.left.left.left.left.left.left ⟨_, rfl⟩ rfl (by omega) (by omega))) ?_
            (refine Sd.exec 7 rfl rfl rfl rfl rfl ?hrest (by rfl) (fun Xy2 Ky2 hKy2 => ?_); case hrest => kernel_rfl)
            refine RunL.mem (fl2 (sep_emp _) (sep_emp _)) ?_
            refine RunL.call cal19 rfl (s19a rdj.left.left.left.left.left.left rdA.left.left.left.left.left.left (by omega) (by assumption)) rfl (fun vy3 Ay3 hy3 => ?_)
            obtain ⟨y4, rfl⟩ := hy3
            refine RunL.know (fun w s => (s.conv rfl).ownRd0) (fun rdy5 => ?_)
            refine Sd.ret hKy2 (Eq.trans rfl (gp2 (sep_emp _).symm (asg rfl))) ⟨_, (emp_sep _).symm⟩ ?_
            (refine Sd.exec 12 rfl rfl rfl rfl rfl ?hrest (by rfl) (fun Xy6 Ky6 hKy6 => ?_); case hrest => kernel_rfl)
            refine RunL.mem (fl2 (flS rfl) (sep_emp _)) ?_
            refine RunL.call cal19 rfl (s19a (Rd.right rdy5) rdB.left.left.left.left.left.left.left.left (by omega) (by assumption)) rfl (fun vy7 Ay7 hy7 => ?_)
            obtain ⟨y8, rfl⟩ := hy7
            refine RunL.know (fun w s => (s.conv rfl).ownRd0) (fun rdy9 => ?_)
            refine Sd.ret hKy6 (Eq.trans rfl (gp2 (sep_emp _).symm (asg (asg (asg rfl))))) ⟨_, (asg rfl)⟩ ?_
            refine Sd.quiet 13 _ _ rfl rfl rfl rfl rfl (QOp.ok (fun X => OpOk.assign rfl)) ?_
            (apply Sd.tail; case hall => kernel_rfl)
            refine RunL.mem (fl2 (flS (flS (flS rfl))) (sep_emp _)) ?_
            refine RunL.nil ?_
            refine Run.seq ?_
            refine Run.region ?_
            refine RunL.ok (OpOk.move rfl) rfl ?_
            refine RunL.ok (OpOk.fieldAddr fld34_2 rfl) rfl ?_
            refine RunL.ok (OpOk.load rfl rfl rfl (Blk.out Blk.pts.left.left.left.left.left.left.left _ _ (by first | rfl | assumption))) rfl ?_
            refine RunL.ok (OpOk.fieldAddr fld34_1 rfl) rfl ?_
            refine RunL.ok (OpOk.load rfl rfl rfl (Blk.out Blk.pts.left.left.left.left.left.left.left _ _ (by first | rfl | assumption))) rfl ?_
            refine RunL.call cal19 rfl (s19a rdj.left.left.left.left.left.left.left.left.left rd.left.left.left.left.left.left.left.left.left (by omega) (by assumption)) rfl (fun vy10 Ay10 hy10 => ?_)
            obtain ⟨y11, rfl⟩ := hy10
            refine RunL.know (fun w s => (s.conv rfl).ownRd0) (fun rdy12 => ?_)
            refine RunL.call cal21 rfl (s21 (Rd.right rdy9).left.left (Rd.right rdy12)) rfl (fun vy13 Ay13 hy13 => ?_)
            obtain ⟨rfl, rfl⟩ := hy13
            refine RunL.ok (OpOk.assign rfl) rfl ?_
            refine RunL.nil ?_
            refine Run.ret1 Try.func5 rfl rfl ?_
            rw [decide_eq_true (by first | omega | with_reducible rfl | assumption)]
            exact ⟨rfl, ⟨_, (asg (asg (asg (asg (asg (asg (asg (asg (asg (asg as1))))))))))⟩⟩
        refine RunL.off rfl rfl rfl rfl ?_
        refine RunL.off rfl rfl rfl rfl ?_
        refine RunL.off rfl rfl rfl rfl ?_
        refine RunL.ok (OpOk.pickF rfl rfl) rfl ?_
        refine RunL.nil ?_
        refine Run.condF rfl ?_
        refine Run.skip ?_
        refine Run.seq ?_
        (apply Run.drawD [] (by rfl) (sep_emp _).symm; case hchk => kernel_rfl)
        refine Sd.quiet 0 _ _ rfl rfl rfl rfl rfl (QOp.ok (fun X => OpOk.fieldAddr fld34_0 rfl)) ?_
        refine Sd.quiet 1 _ _ rfl rfl rfl rfl rfl (QOp.ok (fun X => OpOk.load rfl rfl rfl (Blk.out Blk.pts.left.left.left _ _ (by first | rfl | assumption)))) ?_
        refine Sd.quiet 2 _ _ rfl rfl rfl rfl rfl (QOp.ok (fun X => OpOk.fieldAddr fld34_1 rfl)) ?_
        refine Sd.quiet 3 _ _ rfl rfl rfl rfl rfl (QOp.ok (fun X => OpOk.load rfl rfl rfl (Blk.out Blk.pts.left.left.left _ _ (by first | rfl | assumption)))) ?_
        refine Sd.quiet 4 _ _ rfl rfl rfl rfl rfl (QOp.ok (fun X => OpOk.move rfl)) ?_
        refine Sd.quiet 5 _ _ rfl rfl rfl rfl rfl (QOp.ok (fun X => OpOk.move rfl)) ?_
        refine Sd.quiet 6 _ _ rfl rfl rfl rfl rfl (QOp.ok (fun X => OpOk.cutM0 rfl ti126 rfl rd.left.left.left.left ⟨_, rfl⟩ ⟨_, rfl⟩ (by omega))) ?_
        (refine Sd.exec 7 rfl rfl rfl rfl rfl ?hrest (by rfl) (fun Xx18 Kx18 hKx18 => ?_); case hrest => kernel_rfl)
        refine RunL.mem (fl2 (sep_emp _) (sep_emp _)) ?_
        refine RunL.call cal17 rfl (s17b rdA.left.left.left alA.left.left.left (by assumption) (by assumption) (by assumption)) rfl (fun vx19 Ax19 hx19 => ?_)
        obtain ⟨x20, ⟨x21, ⟨rfl, rfl⟩⟩⟩ := hx19
        refine RunL.know (fun w s => (s.conv rfl).ownRd0) (fun rdx22 => ?_)
        refine Sd.ret hKx18 (Eq.trans rfl (gp2 (sep_emp _).symm (asg rfl))) ⟨_, (emp_sep _).symm⟩ ?_
        refine Sd.quiet 8 _ _ rfl rfl rfl rfl rfl (QOp.ok (fun X => OpOk.move rfl)) ?_
        refine Sd.quiet 9 _ _ rfl rfl rfl rfl rfl (QOp.ok (fun X => OpOk.ext20 rfl)) ?_
        refine Sd.quiet 10 _ _ rfl rfl rfl rfl rfl (QOp.ok (fun X => OpOk.ext21 rfl)) ?_
        refine Sd.quiet 11 _ _ rfl rfl rfl rfl rfl (QOp.ok (fun X => OpOk.assign rfl)) ?_
        refine Sd.quiet 12 _ _ rfl rfl rfl rfl rfl (QOp.ok (fun X => OpOk.assign rfl)) ?_
        (apply Sd.tail; case hall => kernel_rfl)
        refine RunL.mem (fl2 (flS rfl) (sep_emp _)) ?_
        refine RunL.nil ?_
        refine Run.seq ?_
        (apply Run.drawD [] (by rfl) (sep_emp _).symm; case hchk => kernel_rfl)
        refine Sd.quiet 0 _ _ rfl rfl rfl rfl rfl (QOp.ok (fun X => OpOk.fieldAddr fld34_0 rfl)) ?_
        refine Sd.quiet 1 _ _ rfl rfl rfl rfl rfl (QOp.ok (fun X => OpOk.load rfl rfl rfl (Blk.out Blk.pts.left.left.left.left.left _ _ (by first | rfl | assumption)))) ?_
        refine Sd.quiet 2 _ _ rfl rfl rfl rfl rfl (QOp.ok (fun X => OpOk.fieldAddr fld34_1 rfl)) ?_
        refine Sd.quiet 3 _ _ rfl rfl rfl rfl rfl (QOp.ok (fun X => OpOk.load rfl rfl rfl (Blk.out Blk.pts.left.left.left.left.left _ _ (by first | rfl | assumption)))) ?_
        refine Sd.quiet 4 _ _ rfl rfl rfl rfl rfl (QOp.ok (fun X => OpOk.move rfl)) ?_
        refine Sd.quiet 5 _ _ rfl rfl rfl rfl rfl (QOp.ok (fun X => OpOk.cut rfl ti126 rfl rd.left.left.left.left.left.left ⟨_, rfl⟩ rfl (by omega) (by omega))) ?_
        (refine Sd.exec 6 rfl rfl rfl rfl rfl ?hrest (by rfl) (fun Xx23 Kx23 hKx23 => ?_); case hrest => kernel_rfl)
        refine RunL.mem (fl2 (sep_emp _) (sep_emp _)) ?_
        refine RunL.call cal17 rfl (s17b rdB.left.left.left.left.left alB.left.left.left.left.left (by assumption) (by assumption) (by assumption)) rfl (fun vx24 Ax24 hx24 => ?_)
        obtain ⟨x25, ⟨x26, ⟨rfl, rfl⟩⟩⟩ := hx24
        refine RunL.know (fun w s => (s.conv rfl).ownRd0) (fun rdx27 => ?_)
        refine Sd.ret hKx23 (Eq.trans rfl (gp2 (sep_emp _).symm (asg rfl))) ⟨_, (emp_sep _).symm⟩ ?_
        refine Sd.quiet 7 _ _ rfl rfl rfl rfl rfl (QOp.ok (fun X => OpOk.move rfl)) ?_
        refine Sd.quiet 8 _ _ rfl rfl rfl rfl rfl (QOp.ok (fun X => OpOk.ext20 rfl)) ?_
        refine Sd.quiet 9 _ _ rfl rfl rfl rfl rfl (QOp.ok (fun X => OpOk.ext21 rfl)) ?_
        refine Sd.quiet 10 _ _ rfl rfl rfl rfl rfl (QOp.ok (fun X => OpOk.assign rfl)) ?_
        refine Sd.quiet 11 _ _ rfl rfl rfl rfl rfl (QOp.ok (fun X => OpOk.assign rfl)) ?_
        (apply Sd.tail; case hall => kernel_rfl)
        refine RunL.mem (fl2 (flS rfl) (sep_emp _)) ?_
        refine RunL.nil ?_
        refine Run.seq ?_
        refine Run.region ?_
        refine RunL.ok (OpOk.fieldAddr fld34_0 rfl) rfl ?_
        refine RunL.ok (OpOk.load rfl rfl rfl (Blk.out Blk.pts.left.left.left.left.left _ _ (by first | rfl | assumption))) rfl ?_
        refine RunL.ok (OpOk.fieldAddr fld34_1 rfl) rfl ?_
        refine RunL.ok (OpOk.load rfl rfl rfl (Blk.out Blk.pts.left.left.left.left.left _ _ (by first | rfl | assumption))) rfl ?_
        refine RunL.call cal17 rfl (s17b rd.left.left.left.left.left.left al.left.left.left.left.left.left (by assumption) (by assumption) (by assumption)) rfl (fun vx28 Ax28 hx28 => ?_)
        obtain ⟨x29, ⟨x30, ⟨rfl, rfl⟩⟩⟩ := hx28
        refine RunL.ok (OpOk.move rfl) rfl ?_
        refine RunL.ok (OpOk.ext20 rfl) rfl ?_
        refine RunL.ok (OpOk.ext21 rfl) rfl ?_
        refine RunL.ok (OpOk.assign rfl) rfl ?_
        refine RunL.ok (OpOk.assign rfl) rfl ?_
        refine RunL.nil ?_
        refine Run.seq ?_
        refine Run.seq ?_
        refine Run.region ?_
        refine RunL.ok (OpOk.move rfl) rfl ?_
        refine RunL.ok (OpOk.asT (OpOk.eql rfl rfl) (by omega)) rfl ?_
        refine RunL.ok (OpOk.move rfl) rfl ?_
        refine RunL.on rfl rfl ?_
        refine RunL.ok (OpOk.move rfl) rfl ?_
        refine RunL.on rfl rfl ?_
        refine RunL.ok (OpOk.asT (OpOk.eql rfl rfl) (by omega)) rfl ?_
        refine RunL.ok (OpOk.pickT rfl rfl) rfl ?_
        refine RunL.ok (OpOk.move rfl) rfl ?_
        refine RunL.on rfl rfl ?_
        refine RunL.ok (OpOk.move rfl) rfl ?_
        refine RunL.on rfl rfl ?_
        refine RunL.ok (OpOk.asT (OpOk.eql rfl rfl) (by omega)) rfl ?_
        refine RunL.ok (OpOk.pickT rfl rfl) rfl ?_
        refine RunL.nil ?_
        refine Run.condT rfl ?_
        refine Run.seq ?_
        refine Run.region ?_
        refine RunL.ok (OpOk.assign rfl) rfl ?_
        refine RunL.nil ?_
        refine Run.block ?_
        refine Run.jump ((Run.loopJ (X := Nat × Asn) (fun x => [(12, .int .i64 (x.1 : Int)), (11, .int .i64 0), (10, x29), (9, .int .i64 0), (8, x25), (7, .int .i64 0), (6, x20), (5, .int .i64 (ps.length : Int)), (2, .pointer (some ⟨bx1, 0, none⟩))]) (fun x => old w0 * x.2 * pts bx1 (.cells (Value.agg #[.int .i64 ops, sv.1, jv.1, wv.1]).cells 34 (0, 0)) * own 3 1 x20 la.length (I la) * own 3 1 x25 lb.length (I lb) * own 3 1 x29 lc.length (I lc)) (fun x => x.1 ≤ lc.length) (fun x => lc.length - x.1) (0, _) (Nat.zero_le _) (fun x hx ih => ?_))) ⟨rfl, rfl, rfl, rfl, rfl, rfl, rfl, rfl, rfl, trivial⟩ (Grew.of (Eq.trans (frc rfl (frc (frl rfl) (frc (frl (frl rfl)) (frc (frl (frl (frl (frl rfl)))) rfl)))) (congrArg (· * _) (congrArg (· * _) (congrArg (· * _) (congrArg (· * _) (asg (asg (asg as1)))))))) (Grew.refl _))
        obtain ⟨i, J⟩ := x
        simp only at hx ih ⊢
        rcases Nat.lt_or_ge i lc.length with hlt | hge
        · obtain ⟨q1, q2⟩ := l3 i hlt
          obtain ⟨q2, q3⟩ := q2
          refine Run.seq ?_
          refine Run.seq ?_
          refine Run.region ?_
          refine RunL.ok (OpOk.move rfl) rfl ?_
          refine RunL.ok (OpOk.move rfl) rfl ?_
          refine RunL.know (fun w s => (s.conv rfl).ownRd0) (fun rdy1 => ?_)
          refine RunL.ok (OpOk.lenR rfl rfl (Rd.right rdy1) rfl) rfl ?_
          refine RunL.ok (OpOk.asT (OpOk.lss rfl rfl) (by omega)) rfl ?_
          refine RunL.nil ?_
          refine Run.condT rfl ?_
          refine Run.skip ?_
          refine Run.seq ?_
          refine Run.block ?_
          refine Run.seq ?_
          (apply Run.drawD [] (by rfl) (sep_emp _).symm; case hchk => kernel_rfl)
          refine Sd.quiet 0 _ _ rfl rfl rfl rfl rfl (QOp.ok (fun X => OpOk.move rfl)) ?_
          refine Sd.quiet 1 _ _ rfl rfl rfl rfl rfl (QOp.ok (fun X => OpOk.move rfl)) ?_
          refine Sd.quiet 2 _ _ rfl rfl rfl rfl rfl (QOp.ok (fun X => OpOk.idx1N rfl ti3 rfl (Rd.right rdy1).left.left rfl (by omega))) ?_
          refine Sd.quiet 3 _ _ rfl rfl rfl rfl rfl (QOp.ok (fun X => OpOk.load rfl rfl rfl (Rd.getIE (by assumption) (Rd.right rdy1).left.left (by omega)))) ?_
          refine Sd.quiet 4 _ _ rfl rfl rfl rfl rfl (QOp.ok (fun X => OpOk.move rfl)) ?_
          refine Sd.quiet 5 _ _ rfl rfl rfl rfl rfl (QOp.ok (fun X => OpOk.move rfl)) ?_
          refine Sd.quiet 6 _ _ rfl rfl rfl rfl rfl (QOp.ok (fun X => OpOk.idx1N rfl ti3 rfl (Rd.right rdx22).left.left.left.left rfl (by omega))) ?_
          refine Sd.quiet 7 _ _ rfl rfl rfl rfl rfl (QOp.ok (fun X => OpOk.load rfl rfl rfl (Rd.getI (Rd.right rdx22).left.left.left.left (by omega)))) ?_
          refine Sd.quiet 8 _ _ rfl rfl rfl rfl rfl (QOp.ok (fun X => OpOk.move rfl)) ?_
          refine Sd.quiet 9 _ _ rfl rfl rfl rfl rfl (QOp.ok (fun X => OpOk.move rfl)) ?_
          refine Sd.quiet 10 _ _ rfl rfl rfl rfl rfl (QOp.ok (fun X => OpOk.idx1N rfl ti3 rfl (Rd.right rdx27).left.left.left rfl (by omega))) ?_
          refine Sd.quiet 11 _ _ rfl rfl rfl rfl rfl (QOp.ok (fun X => OpOk.load rfl rfl rfl (Rd.getI (Rd.right rdx27).left.left.left (by omega)))) ?_
          refine Sd.quiet 12 _ _ rfl rfl rfl rfl rfl (QOp.ok (fun X => OpOk.add rfl rfl (wrapI (by omega) (by omega)))) ?_
          refine Sd.quiet 13 _ _ rfl rfl rfl rfl rfl (QOp.ok (fun X => OpOk.as (c := false) (OpOk.neq rfl rfl) (by rw [decide_eq_true (by omega)]; rfl))) ?_
          (apply Sd.tail; case hall => kernel_rfl)
          refine RunL.mem (fl2 (sep_emp _) (sep_emp _)) ?_
          refine RunL.nil ?_
          refine Run.condF rfl ?_
          refine Run.skip ?_
          refine Run.inBlock ?_
          refine Run.region ?_
          refine RunL.ok (OpOk.move rfl) rfl ?_
          refine RunL.ok (OpOk.addN _ 1 rfl rfl rfl rfl (by omega)) rfl ?_
          refine RunL.ok (OpOk.assign rfl) rfl ?_
          refine RunL.nil ?_
          refine Run.jump ((ih (i + 1, J) (by dsimp only; omega) (by dsimp only; omega))) ⟨rfl, rfl, rfl, rfl, rfl, rfl, rfl, rfl, rfl, trivial⟩ ((Grew.refl _))
        · obtain rfl : i = lc.length := by omega
          clear ih
          refine Run.seq ?_
          refine Run.seq ?_
          refine Run.region ?_
          refine RunL.ok (OpOk.move rfl) rfl ?_
          refine RunL.ok (OpOk.move rfl) rfl ?_
          refine RunL.know (fun w s => (s.conv rfl).ownRd0) (fun rdy1 => ?_)
          refine RunL.ok (OpOk.lenR rfl rfl (Rd.right rdy1) rfl) rfl ?_
          refine RunL.ok (OpOk.asF (OpOk.lss rfl rfl) (by omega)) rfl ?_
          refine RunL.nil ?_
          refine Run.condF rfl ?_
          refine Run.exit rfl ?_
          refine Run.seq ?_
          refine Run.seq ?_
          refine Run.region ?_
          refine RunL.ok (OpOk.move rfl) rfl ?_
          refine RunL.ok (OpOk.asT (OpOk.eql rfl rfl) (by omega)) rfl ?_
          refine RunL.ok (OpOk.move rfl) rfl ?_
          refine RunL.on rfl rfl ?_
          refine RunL.ok (OpOk.move rfl) rfl ?_
          refine RunL.on rfl rfl ?_
          refine RunL.ok (OpOk.as (c := false) (OpOk.neq rfl rfl) (by rw [decide_eq_true (by omega)]; rfl)) rfl ?_
          refine RunL.ok (OpOk.pickT rfl rfl) rfl ?_
          refine RunL.ok (OpOk.move rfl) rfl ?_
          refine RunL.on rfl rfl ?_
          refine RunL.ok (OpOk.move rfl) rfl ?_
          refine RunL.on rfl rfl ?_
          refine RunL.ok (OpOk.asF (OpOk.eql rfl rfl) (by omega)) rfl ?_
          refine RunL.on rfl rfl ?_
          refine RunL.ok (OpOk.move rfl) rfl ?_
          refine RunL.off rfl rfl rfl rfl ?_
          refine RunL.off rfl rfl rfl rfl ?_
          refine RunL.on rfl rfl ?_
          refine RunL.ok (OpOk.pickF rfl rfl) rfl ?_
          refine RunL.on rfl rfl ?_
          refine RunL.ok (OpOk.move rfl) rfl ?_
          refine RunL.off rfl rfl rfl rfl ?_
          refine RunL.off rfl rfl rfl rfl ?_
          refine RunL.on rfl rfl ?_
          refine RunL.ok (OpOk.pickF rfl rfl) rfl ?_
          refine RunL.ok (OpOk.pickF rfl rfl) rfl ?_
          refine RunL.nil ?_
          refine Run.condF rfl ?_
          refine Run.skip ?_
          refine Run.seq ?_
          (apply Run.drawD [] (by rfl) (sep_emp _).symm; case hchk => kernel_rfl)
          refine Sd.quiet 0 _ _ rfl rfl rfl rfl rfl (QOp.ok (fun X => OpOk.fieldAddr fld34_2 rfl)) ?_
          refine Sd.quiet 1 _ _ rfl rfl rfl rfl rfl (QOp.ok (fun X => OpOk.load rfl rfl rfl (Blk.out Blk.pts.left.left.left.left.left _ _ (by first | rfl | assumption)))) ?_
          refine Sd.quiet 2 _ _ rfl rfl rfl rfl rfl (QOp.ok (fun X => OpOk.fieldAddr fld34_1 rfl)) ?_
          refine Sd.quiet 3 _ _ rfl rfl rfl rfl rfl (QOp.ok (fun X => OpOk.load rfl rfl rfl (Blk.out Blk.pts.left.left.left.left.left _ _ (by first | rfl | assumption)))) ?_
          refine Sd.quiet 4 _ _ rfl rfl rfl rfl rfl (QOp.ok (fun X => OpOk.move rfl)) ?_
          refine Sd.quiet 5 _ _ rfl rfl rfl rfl rfl (QOp.ok (fun X => OpOk.move rfl)) ?_
          refine Sd.quiet 6 _ _ rfl rfl rfl rfl rfl (QOp.ok (fun X => OpOk.cutM0 rfl ti126 rfl rd.left.left.left.left.left.left.left ⟨_, rfl⟩ ⟨_, rfl⟩ (by omega))) ?_
          refine Sd.quiet 8 _ _ rfl rfl rfl rfl rfl (QOp.ok (fun X => OpOk.fieldAddr fld34_1 rfl)) ?_
          refine Sd.quiet 9 _ _ rfl rfl rfl rfl rfl (QOp.ok (fun X => OpOk.load rfl rfl rfl (Blk.out Blk.pts.left.left.left.left.left _ _ (by first | rfl | assumption)))) ?_
          refine Sd.quiet 10 _ _ rfl rfl rfl rfl rfl (QOp.ok (fun X => OpOk.move rfl)) ?_
          refine Sd.quiet 11 _ _ rfl rfl rfl rfl rfl (QOp.ok (fun X => OpOk.cut rfl ti126 rfl rd.left.left.left.left.left.left.left ⟨_, rfl⟩ rfl (by omega) (by omega))) ?_
          (refine Sd.exec 7 rfl rfl rfl rfl rfl ?hrest (by rfl) (fun Xy2 Ky2 hKy2 => ?_); case hrest => kernel_rfl)
          refine RunL.mem (fl2 (sep_emp _) (sep_emp _)) ?_
          refine RunL.call cal19 rfl (s19a rdj.left.left.left.left.left.left rdA.left.left.left.left.left.left (by omega) (by assumption)) rfl (fun vy3 Ay3 hy3 => ?_)
          obtain ⟨y4, rfl⟩ := hy3
          refine RunL.know (fun w s => (s.conv rfl).ownRd0) (fun rdy5 => ?_)
          refine Sd.ret hKy2 (Eq.trans rfl (gp2 (sep_emp _).symm (asg rfl))) ⟨_, (emp_sep _).symm⟩ ?_
          (refine Sd.exec 12 rfl rfl rfl rfl rfl ?hrest (by rfl) (fun Xy6 Ky6 hKy6 => ?_); case hrest => kernel_rfl)
          refine RunL.mem (fl2 (flS rfl) (sep_emp _)) ?_
          refine RunL.call cal19 rfl (s19a (Rd.right rdy5) rdB.left.left.left.left.left.left.left.left (by omega) (by assumption)) rfl (fun vy7 Ay7 hy7 => ?_)
          obtain ⟨y8, rfl⟩ := hy7
          refine RunL.know (fun w s => (s.conv rfl).ownRd0) (fun rdy9 => ?_)
          refine Sd.ret hKy6 (Eq.trans rfl (gp2 (sep_emp _).symm (asg (asg (asg rfl))))) ⟨_, (asg rfl)⟩ ?_
          refine Sd.quiet 13 _ _ rfl rfl rfl rfl rfl (QOp.ok (fun X => OpOk.assign rfl)) ?_
          (apply Sd.tail; case hall => kernel_rfl)
          refine RunL.mem (fl2 (flS (flS (flS rfl))) (sep_emp _)) ?_
          refine RunL.nil ?_
          refine Run.seq ?_
          refine Run.region ?_
          refine RunL.ok (OpOk.move rfl) rfl ?_
          refine RunL.ok (OpOk.fieldAddr fld34_2 rfl) rfl ?_
          refine RunL.ok (OpOk.load rfl rfl rfl (Blk.out Blk.pts.left.left.left.left.left.left.left _ _ (by first | rfl | assumption))) rfl ?_
          refine RunL.ok (OpOk.fieldAddr fld34_1 rfl) rfl ?_
          refine RunL.ok (OpOk.load rfl rfl rfl (Blk.out Blk.pts.left.left.left.left.left.left.left _ _ (by first | rfl | assumption))) rfl ?_
          refine RunL.call cal19 rfl (s19a rdj.left.left.left.left.left.left.left.left.left rd.left.left.left.left.left.left.left.left.left (by omega) (by assumption)) rfl (fun vy10 Ay10 hy10 => ?_)
          obtain ⟨y11, rfl⟩ := hy10
          refine RunL.know (fun w s => (s.conv rfl).ownRd0) (fun rdy12 => ?_)
          refine RunL.call cal21 rfl (s21 (Rd.right rdy9).left.left (Rd.right rdy12)) rfl (fun vy13 Ay13 hy13 => ?_)
          obtain ⟨rfl, rfl⟩ := hy13
          refine RunL.ok (OpOk.assign rfl) rfl ?_
          refine RunL.nil ?_
          refine Run.ret1 Try.func5 rfl rfl ?_
          rw [decide_eq_true (by first | omega | with_reducible rfl | assumption)]
          exact ⟨rfl, ⟨_, (asg (asg (asg (asg (asg (asg (asg (asg (asg (asg as1))))))))))⟩⟩
      · clear p3
        refine Spec.of_run [(0, .agg #[.int .i64 ops, sv.1, jv.1, wv.1]), (1, .int .i64 cut)] Try.func5 rfl (Nat.le_of_ble_eq_true rfl) (by repeat (first | exact trivial | refine ⟨rfl, ?_⟩)) ?_
        refine Run.seq ?_
        refine Run.region ?_
        refine RunL.box rfl rfl (fun bx1 => ?_)
        refine RunL.ok (OpOk.assign rfl) rfl ?_
        refine RunL.nil ?_
        refine Run.seq ?_
        refine Run.seq ?_
        refine Run.region ?_
        refine RunL.call cal14 rfl (s14) rfl (fun vx2 Ax2 hx2 => ?_)
        obtain ⟨x3, ⟨rfl, rfl⟩⟩ := hx2
        refine RunL.ok (OpOk.not rfl) rfl ?_
        refine RunL.ok (OpOk.move rfl) rfl ?_
        refine RunL.on rfl rfl ?_
        refine RunL.ok (OpOk.fieldAddr fld34_1 rfl) rfl ?_
        refine RunL.on rfl rfl ?_
        refine RunL.ok (OpOk.load rfl rfl rfl (Blk.out Blk.pts.left _ _ (by first | rfl | assumption))) rfl ?_
        refine RunL.on rfl rfl ?_
        refine RunL.ok (OpOk.lenR rfl rfl rd.left.left rfl) rfl ?_
        refine RunL.on rfl rfl ?_
        refine RunL.ok (OpOk.asF (OpOk.gtr rfl rfl) (by omega)) rfl ?_
        refine RunL.ok (OpOk.pickF rfl rfl) rfl ?_
        refine RunL.ok (OpOk.move rfl) rfl ?_
        refine RunL.on rfl rfl ?_
        refine RunL.ok (OpOk.fieldAddr fld34_2 rfl) rfl ?_
        refine RunL.on rfl rfl ?_
        refine RunL.ok (OpOk.load rfl rfl rfl (Blk.out Blk.pts.left _ _ (by first | rfl | assumption))) rfl ?_
        refine RunL.on rfl rfl ?_
        refine RunL.ok (OpOk.lenR rfl rfl rdj.left.left rfl) rfl ?_
        refine RunL.on rfl rfl ?_
        refine RunL.ok (OpOk.asF (OpOk.gtr rfl rfl) (by omega)) rfl ?_
        refine RunL.ok (OpOk.pickF rfl rfl) rfl ?_
        refine RunL.nil ?_
        refine Run.condF rfl ?_
        refine Run.skip ?_
        refine Run.seq ?_
        refine Run.region ?_
        refine RunL.ok (OpOk.fieldAddr fld34_1 rfl) rfl ?_
        refine RunL.ok (OpOk.load rfl rfl rfl (Blk.out Blk.pts.left _ _ (by first | rfl | assumption))) rfl ?_
        refine RunL.ok (OpOk.lenR rfl rfl rd.left.left rfl) rfl ?_
        refine RunL.ok (OpOk.assign rfl) rfl ?_
        refine RunL.nil ?_
        refine Run.seq ?_
        refine Run.seq ?_
        refine Run.region ?_
        refine RunL.ok (OpOk.move rfl) rfl ?_
        refine RunL.ok (OpOk.geq rfl rfl) rfl ?_
        refine RunL.ok (OpOk.move rfl) rfl ?_
        refine RunL.splitD (t := 34) rfl (fun x4 => ?_) (fun x4 => ?_)
        · refine RunL.on rfl rfl ?_
          refine RunL.ok (OpOk.move rfl) rfl ?_
          refine RunL.on rfl rfl ?_
          refine RunL.ok (OpOk.move rfl) rfl ?_
          refine RunL.on rfl rfl ?_
          refine RunL.ok (OpOk.asF (OpOk.lss rfl rfl) (by omega)) rfl ?_
          refine RunL.ok (OpOk.pickT rfl rfl) rfl ?_
          refine RunL.nil ?_
          refine Run.condF rfl ?_
          refine Run.skip ?_
          refine Run.seq ?_
          (apply Run.drawD [] (by rfl) (sep_emp _).symm; case hchk => kernel_rfl)
          refine Sd.quiet 0 _ _ rfl rfl rfl rfl rfl (QOp.ok (fun X => OpOk.fieldAddr fld34_0 rfl)) ?_
          refine Sd.quiet 1 _ _ rfl rfl rfl rfl rfl (QOp.ok (fun X => OpOk.load rfl rfl rfl (Blk.out Blk.pts.left.left.left _ _ (by first | rfl | assumption)))) ?_
          refine Sd.quiet 2 _ _ rfl rfl rfl rfl rfl (QOp.ok (fun X => OpOk.fieldAddr fld34_1 rfl)) ?_
          refine Sd.quiet 3 _ _ rfl rfl rfl rfl rfl (QOp.ok (fun X => OpOk.load rfl rfl rfl (Blk.out Blk.pts.left.left.left _ _ (by first | rfl | assumption)))) ?_
          refine Sd.quiet 4 _ _ rfl rfl rfl rfl rfl (QOp.ok (fun X => OpOk.move rfl)) ?_
          refine Sd.quiet 5 _ _ rfl rfl rfl rfl rfl (QOp.ok (fun X => OpOk.move rfl)) ?_
          refine Sd.quiet 6 _ _ rfl rfl rfl rfl rfl (QOp.ok (fun X => OpOk.cutM0 rfl ti126 rfl rd.left.left.left.left ⟨_, rfl⟩ ⟨_, rfl⟩ (by omega))) ?_
          (refine Sd.exec 7 rfl rfl rfl rfl rfl ?hrest (by rfl) (fun Xx5 Kx5 hKx5 => ?_); case hrest => kernel_rfl)
          refine RunL.mem (fl2 (sep_emp _) (sep_emp _)) ?_
          refine RunL.call cal17 rfl (s17b rdA.left.left.left alA.left.left.left (by assumption) (by assumption) (by assumption)) rfl (fun vx6 Ax6 hx6 => ?_)
          obtain ⟨x7, ⟨x8, ⟨rfl, rfl⟩⟩⟩ := hx6
          refine RunL.know (fun w s => (s.conv rfl).ownRd0) (fun rdx9 => ?_)
          refine Sd.ret hKx5 (Eq.trans rfl (gp2 (sep_emp _).symm (asg rfl))) ⟨_, (emp_sep _).symm⟩ ?_
          refine Sd.quiet 8 _ _ rfl rfl rfl rfl rfl (QOp.ok (fun X => OpOk.move rfl)) ?_
          refine Sd.quiet 9 _ _ rfl rfl rfl rfl rfl (QOp.ok (fun X => OpOk.ext20 rfl)) ?_
          refine Sd.quiet 10 _ _ rfl rfl rfl rfl rfl (QOp.ok (fun X => OpOk.ext21 rfl)) ?_
          refine Sd.quiet 11 _ _ rfl rfl rfl rfl rfl (QOp.ok (fun X => OpOk.assign rfl)) ?_
          refine Sd.quiet 12 _ _ rfl rfl rfl rfl rfl (QOp.ok (fun X => OpOk.assign rfl)) ?_
          (apply Sd.tail; case hall => kernel_rfl)
          refine RunL.mem (fl2 (flS rfl) (sep_emp _)) ?_
          refine RunL.nil ?_
          refine Run.seq ?_
          (apply Run.drawD [] (by rfl) (sep_emp _).symm; case hchk => kernel_rfl)
          refine Sd.quiet 0 _ _ rfl rfl rfl rfl rfl (QOp.ok (fun X => OpOk.fieldAddr fld34_0 rfl)) ?_
          refine Sd.quiet 1 _ _ rfl rfl rfl rfl rfl (QOp.ok (fun X => OpOk.load rfl rfl rfl (Blk.out Blk.pts.left.left.left.left.left _ _ (by first | rfl | assumption)))) ?_
          refine Sd.quiet 2 _ _ rfl rfl rfl rfl rfl (QOp.ok (fun X => OpOk.fieldAddr fld34_1 rfl)) ?_
          refine Sd.quiet 3 _ _ rfl rfl rfl rfl rfl (QOp.ok (fun X => OpOk.load rfl rfl rfl (Blk.out Blk.pts.left.left.left.left.left _ _ (by first | rfl | assumption)))) ?_
          refine Sd.quiet 4 _ _ rfl rfl rfl rfl rfl (QOp.ok (fun X => OpOk.move rfl)) ?_
          refine Sd.quiet 5 _ _ rfl rfl rfl rfl rfl (QOp.ok (fun X => OpOk.cut rfl ti126 rfl rd.left.left.left.left.left.left ⟨_, rfl⟩ rfl (by omega) (by omega))) ?_
          (refine Sd.exec 6 rfl rfl rfl rfl rfl ?hrest (by rfl) (fun Xx10 Kx10 hKx10 => ?_); case hrest => kernel_rfl)
          refine RunL.mem (fl2 (sep_emp _) (sep_emp _)) ?_
          refine RunL.call cal17 rfl (s17b rdB.left.left.left.left.left alB.left.left.left.left.left (by assumption) (by assumption) (by assumption)) rfl (fun vx11 Ax11 hx11 => ?_)
          obtain ⟨x12, ⟨x13, ⟨rfl, rfl⟩⟩⟩ := hx11
          refine RunL.know (fun w s => (s.conv rfl).ownRd0) (fun rdx14 => ?_)
          refine Sd.ret hKx10 (Eq.trans rfl (gp2 (sep_emp _).symm (asg rfl))) ⟨_, (emp_sep _).symm⟩ ?_
          refine Sd.quiet 7 _ _ rfl rfl rfl rfl rfl (QOp.ok (fun X => OpOk.move rfl)) ?_
          refine Sd.quiet 8 _ _ rfl rfl rfl rfl rfl (QOp.ok (fun X => OpOk.ext20 rfl)) ?_
          refine Sd.quiet 9 _ _ rfl rfl rfl rfl rfl (QOp.ok (fun X => OpOk.ext21 rfl)) ?_
          refine Sd.quiet 10 _ _ rfl rfl rfl rfl rfl (QOp.ok (fun X => OpOk.assign rfl)) ?_
          refine Sd.quiet 11 _ _ rfl rfl rfl rfl rfl (QOp.ok (fun X => OpOk.assign rfl)) ?_
          (apply Sd.tail; case hall => kernel_rfl)
          refine RunL.mem (fl2 (flS rfl) (sep_emp _)) ?_
          refine RunL.nil ?_
          refine Run.seq ?_
          refine Run.region ?_
          refine RunL.ok (OpOk.fieldAddr fld34_0 rfl) rfl ?_
          refine RunL.ok (OpOk.load rfl rfl rfl (Blk.out Blk.pts.left.left.left.left.left _ _ (by first | rfl | assumption))) rfl ?_
          refine RunL.ok (OpOk.fieldAddr fld34_1 rfl) rfl ?_
          refine RunL.ok (OpOk.load rfl rfl rfl (Blk.out Blk.pts.left.left.left.left.left _ _ (by first | rfl | assumption))) rfl ?_
          refine RunL.call cal17 rfl (s17b rd.left.left.left.left.left.left al.left.left.left.left.left.left (by assumption) (by assumption) (by assumption)) rfl (fun vx15 Ax15 hx15 => ?_)
          obtain ⟨x16, ⟨x17, ⟨rfl, rfl⟩⟩⟩ := hx15
          refine RunL.ok (OpOk.move rfl) rfl ?_
          refine RunL.ok (OpOk.ext20 rfl) rfl ?_
          refine RunL.ok (OpOk.ext21 rfl) rfl ?_
          refine RunL.ok (OpOk.assign rfl) rfl ?_
          refine RunL.ok (OpOk.assign rfl) rfl ?_
          refine RunL.nil ?_
          refine Run.seq ?_
          refine Run.seq ?_
          refine Run.region ?_
          refine RunL.ok (OpOk.move rfl) rfl ?_
          refine RunL.ok (OpOk.eql rfl rfl) rfl ?_
          refine RunL.ok (OpOk.move rfl) rfl ?_
          refine RunL.splitD (t := 71) rfl (fun x18 => ?_) (fun x18 => ?_)
          · refine RunL.on rfl rfl ?_
            refine RunL.ok (OpOk.move rfl) rfl ?_
            refine RunL.on rfl rfl ?_
            refine RunL.ok (OpOk.eql rfl rfl) rfl ?_
            refine RunL.ok (OpOk.pickT rfl rfl) rfl ?_
            refine RunL.ok (OpOk.move rfl) rfl ?_
            refine RunL.splitD (t := 75) rfl (fun x19 => ?_) (fun x19 => ?_)
            · refine RunL.on rfl rfl ?_
              refine RunL.ok (OpOk.move rfl) rfl ?_
              refine RunL.on rfl rfl ?_
              refine RunL.ok (OpOk.asF (OpOk.eql rfl rfl) (by omega)) rfl ?_
              refine RunL.ok (OpOk.pickT rfl rfl) rfl ?_
              refine RunL.nil ?_
              refine Run.condF rfl ?_
              refine Run.skip ?_
              refine Run.seq ?_
              refine Run.seq ?_
              refine Run.region ?_
              refine RunL.ok (OpOk.move rfl) rfl ?_
              refine RunL.ok (OpOk.asF (OpOk.eql rfl rfl) (by omega)) rfl ?_
              refine RunL.ok (OpOk.move rfl) rfl ?_
              refine RunL.off rfl rfl rfl rfl ?_
              refine RunL.off rfl rfl rfl rfl ?_
              refine RunL.ok (OpOk.pickF rfl rfl) rfl ?_
              refine RunL.ok (OpOk.move rfl) rfl ?_
              refine RunL.on rfl rfl ?_
              refine RunL.ok (OpOk.move rfl) rfl ?_
              refine RunL.on rfl rfl ?_
              refine RunL.ok (OpOk.asF (OpOk.eql rfl rfl) (by omega)) rfl ?_
              refine RunL.on rfl rfl ?_
              refine RunL.ok (OpOk.move rfl) rfl ?_
              refine RunL.off rfl rfl rfl rfl ?_
              refine RunL.off rfl rfl rfl rfl ?_
              refine RunL.on rfl rfl ?_
              refine RunL.ok (OpOk.pickF rfl rfl) rfl ?_
              refine RunL.on rfl rfl ?_
              refine RunL.ok (OpOk.move rfl) rfl ?_
              refine RunL.off rfl rfl rfl rfl ?_
              refine RunL.off rfl rfl rfl rfl ?_
              refine RunL.on rfl rfl ?_
              refine RunL.ok (OpOk.pickF rfl rfl) rfl ?_
              refine RunL.ok (OpOk.pickF rfl rfl) rfl ?_
              refine RunL.nil ?_
              refine Run.condF rfl ?_
              refine Run.skip ?_
              refine Run.seq ?_
              refine Run.know (fun w s => (s.conv rfl).ownRd0) (fun rdx20 => ?_)
              (apply Run.drawD [] (by rfl) (sep_emp _).symm; case hchk => kernel_rfl)
              refine Sd.quiet 0 _ _ rfl rfl rfl rfl rfl (QOp.ok (fun X => OpOk.fieldAddr fld34_2 rfl)) ?_
              refine Sd.quiet 1 _ _ rfl rfl rfl rfl rfl (QOp.ok (fun X => OpOk.load rfl rfl rfl (Blk.out Blk.pts.left.left.left.left.left.left.left.left.left _ _ (by first | rfl | assumption)))) ?_
              refine Sd.quiet 2 _ _ rfl rfl rfl rfl rfl (QOp.ok (fun X => OpOk.fieldAddr fld34_1 rfl)) ?_
              refine Sd.quiet 3 _ _ rfl rfl rfl rfl rfl (QOp.ok (fun X => OpOk.load rfl rfl rfl (Blk.out Blk.pts.left.left.left.left.left.left.left.left.left _ _ (by first | rfl | assumption)))) ?_
              refine Sd.quiet 4 _ _ rfl rfl rfl rfl rfl (QOp.ok (fun X => OpOk.move rfl)) ?_
              refine Sd.quiet 5 _ _ rfl rfl rfl rfl rfl (QOp.ok (fun X => OpOk.move rfl)) ?_
              refine Sd.quiet 6 _ _ rfl rfl rfl rfl rfl (QOp.ok (fun X => OpOk.cutM0 rfl ti126 rfl rd.left.left.left.left.left.left.left.left.left.left ⟨_, rfl⟩ ⟨_, rfl⟩ (by omega))) ?_
              refine Sd.quiet 8 _ _ rfl rfl rfl rfl rfl (QOp.ok (fun X => OpOk.fieldAddr fld34_1 rfl)) ?_
              refine Sd.quiet 9 _ _ rfl rfl rfl rfl rfl (QOp.ok (fun X => OpOk.load rfl rfl rfl (Blk.out Blk.pts.left.left.left.left.left.left.left.left.left _ _ (by first | rfl | assumption)))) ?_
              refine Sd.quiet 10 _ _ rfl rfl rfl rfl rfl (QOp.ok (fun X => OpOk.move rfl)) ?_
              refine Sd.quiet 11 _ _ rfl rfl rfl rfl rfl (QOp.ok (fun X => OpOk.cut rfl ti126 rfl rd.left.left.left.left.left.left.left.left.left.left ⟨_, rfl⟩ rfl (by omega) (by omega))) ?_
              (refine Sd.exec 7 rfl rfl rfl rfl rfl ?hrest (by rfl) (fun Xx21 Kx21 hKx21 => ?_); case hrest => kernel_rfl)
              refine RunL.mem (fl2 (sep_emp _) (sep_emp _)) ?_
              refine RunL.call cal19 rfl (s19a rdj.left.left.left.left.left.left.left.left.left rdA.left.left.left.left.left.left.left.left.left (by omega) (by assumption)) rfl (fun vx22 Ax22 hx22 => ?_)
              obtain ⟨x23, rfl⟩ := hx22
              refine RunL.know (fun w s => (s.conv rfl).ownRd0) (fun rdx24 => ?_)
              refine Sd.ret hKx21 (Eq.trans rfl (gp2 (sep_emp _).symm (asg rfl))) ⟨_, (emp_sep _).symm⟩ ?_
              (refine Sd.exec 12 rfl rfl rfl rfl rfl ?hrest (by rfl) (fun Xx25 Kx25 hKx25 => ?_); case hrest => kernel_rfl)
              refine RunL.mem (fl2 (flS rfl) (sep_emp _)) ?_
              refine RunL.call cal19 rfl (s19a (Rd.right rdx24) rdB.left.left.left.left.left.left.left.left.left.left.left (by omega) (by assumption)) rfl (fun vx26 Ax26 hx26 => ?_)
              obtain ⟨x27, rfl⟩ := hx26
              refine RunL.know (fun w s => (s.conv rfl).ownRd0) (fun rdx28 => ?_)
              refine Sd.ret hKx25 (Eq.trans rfl (gp2 (sep_emp _).symm (asg (asg (asg rfl))))) ⟨_, (asg rfl)⟩ ?_
              refine Sd.quiet 13 _ _ rfl rfl rfl rfl rfl (QOp.ok (fun X => OpOk.assign rfl)) ?_
              (apply Sd.tail; case hall => kernel_rfl)
              refine RunL.mem (fl2 (flS (flS (flS rfl))) (sep_emp _)) ?_
              refine RunL.nil ?_
              refine Run.seq ?_
              refine Run.region ?_
              refine RunL.ok (OpOk.move rfl) rfl ?_
              refine RunL.ok (OpOk.fieldAddr fld34_2 rfl) rfl ?_
              refine RunL.ok (OpOk.load rfl rfl rfl (Blk.out Blk.pts.left.left.left.left.left.left.left.left.left.left.left _ _ (by first | rfl | assumption))) rfl ?_
              refine RunL.ok (OpOk.fieldAddr fld34_1 rfl) rfl ?_
              refine RunL.ok (OpOk.load rfl rfl rfl (Blk.out Blk.pts.left.left.left.left.left.left.left.left.left.left.left _ _ (by first | rfl | assumption))) rfl ?_
              refine RunL.call cal19 rfl (s19a rdj.left.left.left.left.left.left.left.left.left.left.left.left rd.left.left.left.left.left.left.left.left.left.left.left.left (by omega) (by assumption)) rfl (fun vx29 Ax29 hx29 => ?_)
              obtain ⟨x30, rfl⟩ := hx29
              refine RunL.know (fun w s => (s.conv rfl).ownRd0) (fun rdx31 => ?_)
              refine RunL.call cal21 rfl (s21 (Rd.right rdx28).left.left (Rd.right rdx31)) rfl (fun vx32 Ax32 hx32 => ?_)
              obtain ⟨rfl, rfl⟩ := hx32
              refine RunL.ok (OpOk.assign rfl) rfl ?_
              refine RunL.nil ?_
              refine Run.ret1 Try.func5 rfl rfl ?_
              rw [decide_eq_true (by first | omega | with_reducible rfl | assumption)]
              exact ⟨rfl, ⟨_, (asg (asg (asg (asg (asg (asg (asg (asg (asg (asg (asg (asg (asg as1)))))))))))))⟩⟩
            refine RunL.off rfl rfl rfl rfl ?_
            refine RunL.off rfl rfl rfl rfl ?_
            refine RunL.ok (OpOk.pickF rfl rfl) rfl ?_
            refine RunL.nil ?_
            refine Run.condF rfl ?_
            refine Run.skip ?_
            refine Run.seq ?_
            refine Run.seq ?_
            refine Run.region ?_
            refine RunL.ok (OpOk.move rfl) rfl ?_
            refine RunL.ok (OpOk.eql rfl rfl) rfl ?_
            refine RunL.ok (OpOk.move rfl) rfl ?_
            refine RunL.splitD (t := 101) rfl (fun x33 => ?_) (fun x33 => ?_)
            · refine RunL.on rfl rfl ?_
              refine RunL.ok (OpOk.move rfl) rfl ?_
              refine RunL.on rfl rfl ?_
              refine RunL.ok (OpOk.as (c := false) (OpOk.neq rfl rfl) (by rw [decide_eq_true (by omega)]; rfl)) rfl ?_
              refine RunL.ok (OpOk.pickT rfl rfl) rfl ?_
              refine RunL.ok (OpOk.move rfl) rfl ?_
              refine RunL.on rfl rfl ?_
              refine RunL.ok (OpOk.move rfl) rfl ?_
              refine RunL.on rfl rfl ?_
              refine RunL.ok (OpOk.asF (OpOk.eql rfl rfl) (by omega)) rfl ?_
              refine RunL.on rfl rfl ?_
              refine RunL.ok (OpOk.move rfl) rfl ?_
              refine RunL.off rfl rfl rfl rfl ?_
              refine RunL.off rfl rfl rfl rfl ?_
              refine RunL.on rfl rfl ?_
              refine RunL.ok (OpOk.pickF rfl rfl) rfl ?_
              refine RunL.on rfl rfl ?_
              refine RunL.ok (OpOk.move rfl) rfl ?_
              refine RunL.off rfl rfl rfl rfl ?_
              refine RunL.off rfl rfl rfl rfl ?_
              refine RunL.on rfl rfl ?_
              refine RunL.ok (OpOk.pickF rfl rfl) rfl ?_
              refine RunL.ok (OpOk.pickF rfl rfl) rfl ?_
              refine RunL.nil ?_
              refine Run.condF rfl ?_
              refine Run.skip ?_
              refine Run.seq ?_
              refine Run.know (fun w s => (s.conv rfl).ownRd0) (fun rdx34 => ?_)
              (apply Run.drawD [] (by rfl) (sep_emp _).symm; case hchk => kernel_rfl)
              refine Sd.quiet 0 _ _ rfl rfl rfl rfl rfl (QOp.ok (fun X => OpOk.fieldAddr fld34_2 rfl)) ?_
              refine Sd.quiet 1 _ _ rfl rfl rfl rfl rfl (QOp.ok (fun X => OpOk.load rfl rfl rfl (Blk.out Blk.pts.left.left.left.left.left.left.left.left.left _ _ (by first | rfl | assumption)))) ?_
              refine Sd.quiet 2 _ _ rfl rfl rfl rfl rfl (QOp.ok (fun X => OpOk.fieldAddr fld34_1 rfl)) ?_
              refine Sd.quiet 3 _ _ rfl rfl rfl rfl rfl (QOp.ok (fun X => OpOk.load rfl rfl rfl (Blk.out Blk.pts.left.left.left.left.left.left.left.left.left _ _ (by first | rfl | assumption)))) ?_
              refine Sd.quiet 4 _ _ rfl rfl rfl rfl rfl (QOp.ok (fun X => OpOk.move rfl)) ?_
              refine Sd.quiet 5 _ _ rfl rfl rfl rfl rfl (QOp.ok (fun X => OpOk.move rfl)) ?_
              refine Sd.quiet 6 _ _ rfl rfl rfl rfl rfl (QOp.ok (fun X => OpOk.cutM0 rfl ti126 rfl rd.left.left.left.left.left.left.left.left.left.left ⟨_, rfl⟩ ⟨_, rfl⟩ (by omega))) ?_
              refine Sd.quiet 8 _ _ rfl rfl rfl rfl rfl (QOp.ok (fun X => OpOk.fieldAddr fld34_1 rfl)) ?_
              refine Sd.quiet 9 _ _ rfl rfl rfl rfl rfl (QOp.ok (fun X => OpOk.load rfl rfl rfl (Blk.out Blk.pts.left.left.left.left.left.left.left.left.left _ _ (by first | rfl | assumption)))) ?_
              refine Sd.quiet 10 _ _ rfl rfl rfl rfl rfl (QOp.ok (fun X => OpOk.move rfl)) ?_
              refine Sd.quiet 11 _ _ rfl rfl rfl rfl rfl (QOp.ok (fun X => OpOk.cut rfl ti126 rfl rd.left.left.left.left.left.left.left.left.left.left ⟨_, rfl⟩ rfl (by omega) (by omega))) ?_
              (refine Sd.exec 7 rfl rfl rfl rfl rfl ?hrest (by rfl) (fun Xx35 Kx35 hKx35 => ?_); case hrest => kernel_rfl)
              refine RunL.mem (fl2 (sep_emp _) (sep_emp _)) ?_
              refine RunL.call cal19 rfl (s19a rdj.left.left.left.left.left.left.left.left.left rdA.left.left.left.left.left.left.left.left.left (by omega) (by assumption)) rfl (fun vx36 Ax36 hx36 => ?_)
              obtain ⟨x37, rfl⟩ := hx36
              refine RunL.know (fun w s => (s.conv rfl).ownRd0) (fun rdx38 => ?_)
              refine Sd.ret hKx35 (Eq.trans rfl (gp2 (sep_emp _).symm (asg rfl))) ⟨_, (emp_sep _).symm⟩ ?_
              (refine Sd.exec 12 rfl rfl rfl rfl rfl ?hrest (by rfl) (fun Xx39 Kx39 hKx39 => ?_); case hrest => kernel_rfl)
              refine RunL.mem (fl2 (flS rfl) (sep_emp _)) ?_
              refine RunL.call cal19 rfl (s19a (Rd.right rdx38) rdB.left.left.left.left.left.left.left.left.left.left.left (by omega) (by assumption)) rfl (fun vx40 Ax40 hx40 => ?_)
              obtain ⟨x41, rfl⟩ := hx40
              refine RunL.know (fun w s => (s.conv rfl).ownRd0) (fun rdx42 => ?_)
              refine Sd.ret hKx39 (Eq.trans rfl (gp2 (sep_emp _).symm (asg (asg (asg rfl))))) ⟨_, (asg rfl)⟩ ?_
              refine Sd.quiet 13 _ _ rfl rfl rfl rfl rfl (QOp.ok (fun X => OpOk.assign rfl)) ?_
              (apply Sd.tail; case hall => kernel_rfl)
              refine RunL.mem (fl2 (flS (flS (flS rfl))) (sep_emp _)) ?_
              refine RunL.nil ?_
              refine Run.seq ?_
              refine Run.region ?_
              refine RunL.ok (OpOk.move rfl) rfl ?_
              refine RunL.ok (OpOk.fieldAddr fld34_2 rfl) rfl ?_
              refine RunL.ok (OpOk.load rfl rfl rfl (Blk.out Blk.pts.left.left.left.left.left.left.left.left.left.left.left _ _ (by first | rfl | assumption))) rfl ?_
              refine RunL.ok (OpOk.fieldAddr fld34_1 rfl) rfl ?_
              refine RunL.ok (OpOk.load rfl rfl rfl (Blk.out Blk.pts.left.left.left.left.left.left.left.left.left.left.left _ _ (by first | rfl | assumption))) rfl ?_
              refine RunL.call cal19 rfl (s19a rdj.left.left.left.left.left.left.left.left.left.left.left.left rd.left.left.left.left.left.left.left.left.left.left.left.left (by omega) (by assumption)) rfl (fun vx43 Ax43 hx43 => ?_)
              obtain ⟨x44, rfl⟩ := hx43
              refine RunL.know (fun w s => (s.conv rfl).ownRd0) (fun rdx45 => ?_)
              refine RunL.call cal21 rfl (s21 (Rd.right rdx42).left.left (Rd.right rdx45)) rfl (fun vx46 Ax46 hx46 => ?_)
              obtain ⟨rfl, rfl⟩ := hx46
              refine RunL.ok (OpOk.assign rfl) rfl ?_
              refine RunL.nil ?_
              refine Run.ret1 Try.func5 rfl rfl ?_
              rw [decide_eq_true (by first | omega | with_reducible rfl | assumption)]
              exact ⟨rfl, ⟨_, (asg (asg (asg (asg (asg (asg (asg (asg (asg (asg (asg (asg (asg as1)))))))))))))⟩⟩
            refine RunL.off rfl rfl rfl rfl ?_
            refine RunL.off rfl rfl rfl rfl ?_
            refine RunL.ok (OpOk.pickF rfl rfl) rfl ?_
            refine RunL.ok (OpOk.move rfl) rfl ?_
            refine RunL.on rfl rfl ?_
            refine RunL.ok (OpOk.move rfl) rfl ?_
            refine RunL.on rfl rfl ?_
            refine RunL.ok (OpOk.eql rfl rfl) rfl ?_
            refine RunL.on rfl rfl ?_
            refine RunL.ok (OpOk.move rfl) rfl ?_
            refine RunL.splitD (t := 108) rfl (fun x47 => ?_) (fun x47 => ?_)
            · refine RunL.on rfl rfl ?_
              refine RunL.ok (OpOk.move rfl) rfl ?_
              refine RunL.on rfl rfl ?_
              refine RunL.ok (OpOk.asT (OpOk.eql rfl rfl) (by omega)) rfl ?_
              refine RunL.on rfl rfl ?_
              refine RunL.ok (OpOk.pickT rfl rfl) rfl ?_
              refine RunL.on rfl rfl ?_
              refine RunL.ok (OpOk.move rfl) rfl ?_
              refine RunL.on rfl rfl ?_
              refine RunL.ok (OpOk.move rfl) rfl ?_
              refine RunL.on rfl rfl ?_
              refine RunL.ok (OpOk.asF (OpOk.eql rfl rfl) (by omega)) rfl ?_
              refine RunL.on rfl rfl ?_
              refine RunL.ok (OpOk.pickT rfl rfl) rfl ?_
              refine RunL.ok (OpOk.pickF rfl rfl) rfl ?_
              refine RunL.nil ?_
              refine Run.condF rfl ?_
              refine Run.skip ?_
              refine Run.seq ?_
              refine Run.know (fun w s => (s.conv rfl).ownRd0) (fun rdx48 => ?_)
              (apply Run.drawD [] (by rfl) (sep_emp _).symm; case hchk => kernel_rfl)
              refine Sd.quiet 0 _ _ rfl rfl rfl rfl rfl (QOp.ok (fun X => OpOk.fieldAddr fld34_2 rfl)) ?_
              refine Sd.quiet 1 _ _ rfl rfl rfl rfl rfl (QOp.ok (fun X => OpOk.load rfl rfl rfl (Blk.out Blk.pts.left.left.left.left.left.left.left.left.left _ _ (by first | rfl | assumption)))) ?_
              refine Sd.quiet 2 _ _ rfl rfl rfl rfl rfl (QOp.ok (fun X => OpOk.fieldAddr fld34_1 rfl)) ?_
              refine Sd.quiet 3 _ _ rfl rfl rfl rfl rfl (QOp.ok (fun X => OpOk.load rfl rfl rfl (Blk.out Blk.pts.left.left.left.left.left.left.left.left.left _ _ (by first | rfl | assumption)))) ?_
              refine Sd.quiet 4 _ _ rfl rfl rfl rfl rfl (QOp.ok (fun X => OpOk.move rfl)) ?_
              refine Sd.quiet 5 _ _ rfl rfl rfl rfl rfl (QOp.ok (fun X => OpOk.move rfl)) ?_
              refine Sd.quiet 6 _ _ rfl rfl rfl rfl rfl (QOp.ok (fun X => OpOk.cutM0 rfl ti126 rfl rd.left.left.left.left.left.left.left.left.left.left ⟨_, rfl⟩ ⟨_, rfl⟩ (by omega))) ?_
              refine Sd.quiet 8 _ _ rfl rfl rfl rfl rfl (QOp.ok (fun X => OpOk.fieldAddr fld34_1 rfl)) ?_
              refine Sd.quiet 9 _ _ rfl rfl rfl rfl rfl (QOp.ok (fun X => OpOk.load rfl rfl rfl (Blk.out Blk.pts.left.left.left.left.left.left.left.left.left _ _ (by first | rfl | assumption)))) ?_
              refine Sd.quiet 10 _ _ rfl rfl rfl rfl rfl (QOp.ok (fun X => OpOk.move rfl)) ?_
              refine Sd.quiet 11 _ _ rfl rfl rfl rfl rfl (QOp.ok (fun X => OpOk.cut rfl ti126 rfl rd.left.left.left.left.left.left.left.left.left.left ⟨_, rfl⟩ rfl (by omega) (by omega))) ?_
              (refine Sd.exec 7 rfl rfl rfl rfl rfl ?hrest (by rfl) (fun Xx49 Kx49 hKx49 => ?_); case hrest => kernel_rfl)
              refine RunL.mem (fl2 (sep_emp _) (sep_emp _)) ?_
              refine RunL.call cal19 rfl (s19a rdj.left.left.left.left.left.left.left.left.left rdA.left.left.left.left.left.left.left.left.left (by omega) (by assumption)) rfl (fun vx50 Ax50 hx50 => ?_)
              obtain ⟨x51, rfl⟩ := hx50
              refine RunL.know (fun w s => (s.conv rfl).ownRd0) (fun rdx52 => ?_)
              refine Sd.ret hKx49 (Eq.trans rfl (gp2 (sep_emp _).symm (asg rfl))) ⟨_, (emp_sep _).symm⟩ ?_
              (refine Sd.exec 12 rfl rfl rfl rfl rfl ?hrest (by rfl) (fun Xx53 Kx53 hKx53 => ?_); case hrest => kernel_rfl)
              refine RunL.mem (fl2 (flS rfl) (sep_emp _)) ?_
              refine RunL.call cal19 rfl (s19a (Rd.right rdx52) rdB.left.left.left.left.left.left.left.left.left.left.left (by omega) (by assumption)) rfl (fun vx54 Ax54 hx54 => ?_)
              obtain ⟨x55, rfl⟩ := hx54
              refine RunL.know (fun w s => (s.conv rfl).ownRd0) (fun rdx56 => ?_)
              refine Sd.ret hKx53 (Eq.trans rfl (gp2 (sep_emp _).symm (asg (asg (asg rfl))))) ⟨_, (asg rfl)⟩ ?_
              refine Sd.quiet 13 _ _ rfl rfl rfl rfl rfl (QOp.ok (fun X => OpOk.assign rfl)) ?_
              (apply Sd.tail; case hall => kernel_rfl)
              refine RunL.mem (fl2 (flS (flS (flS rfl))) (sep_emp _)) ?_
              refine RunL.nil ?_
              refine Run.seq ?_
              refine Run.region ?_
              refine RunL.ok (OpOk.move rfl) rfl ?_
              refine RunL.ok (OpOk.fieldAddr fld34_2 rfl) rfl ?_
              refine RunL.ok (OpOk.load rfl rfl rfl (Blk.out Blk.pts.left.left.left.left.left.left.left.left.left.left.left _ _ (by first | rfl | assumption))) rfl ?_
              refine RunL.ok (OpOk.fieldAddr fld34_1 rfl) rfl ?_
              refine RunL.ok (OpOk.load rfl rfl rfl (Blk.out Blk.pts.left.left.left.left.left.left.left.left.left.left.left _ _ (by first | rfl | assumption))) rfl ?_
              refine RunL.call cal19 rfl (s19a rdj.left.left.left.left.left.left.left.left.left.left.left.left rd.left.left.left.left.left.left.left.left.left.left.left.left (by omega) (by assumption)) rfl (fun vx57 Ax57 hx57 => ?_)
              obtain ⟨x58, rfl⟩ := hx57
              refine RunL.know (fun w s => (s.conv rfl).ownRd0) (fun rdx59 => ?_)
              refine RunL.call cal21 rfl (s21 (Rd.right rdx56).left.left (Rd.right rdx59)) rfl (fun vx60 Ax60 hx60 => ?_)
              obtain ⟨rfl, rfl⟩ := hx60
              refine RunL.ok (OpOk.assign rfl) rfl ?_
              refine RunL.nil ?_
              refine Run.ret1 Try.func5 rfl rfl ?_
              rw [decide_eq_true (by first | omega | with_reducible rfl | assumption)]
              exact ⟨rfl, ⟨_, (asg (asg (asg (asg (asg (asg (asg (asg (asg (asg (asg (asg (asg as1)))))))))))))⟩⟩
            refine RunL.off rfl rfl rfl rfl ?_
            refine RunL.off rfl rfl rfl rfl ?_
            refine RunL.on rfl rfl ?_
            refine RunL.ok (OpOk.pickF rfl rfl) rfl ?_
            refine RunL.on rfl rfl ?_
            refine RunL.ok (OpOk.move rfl) rfl ?_
            refine RunL.off rfl rfl rfl rfl ?_
            refine RunL.off rfl rfl rfl rfl ?_
            refine RunL.on rfl rfl ?_
            refine RunL.ok (OpOk.pickF rfl rfl) rfl ?_
            refine RunL.ok (OpOk.pickF rfl rfl) rfl ?_
            refine RunL.nil ?_
            refine Run.condF rfl ?_
            refine Run.skip ?_
            refine Run.seq ?_
            refine Run.know (fun w s => (s.conv rfl).ownRd0) (fun rdx61 => ?_)
            (apply Run.drawD [] (by rfl) (sep_emp _).symm; case hchk => kernel_rfl)
            refine Sd.quiet 0 _ _ rfl rfl rfl rfl rfl (QOp.ok (fun X => OpOk.fieldAddr fld34_2 rfl)) ?_
            refine Sd.quiet 1 _ _ rfl rfl rfl rfl rfl (QOp.ok (fun X => OpOk.load rfl rfl rfl (Blk.out Blk.pts.left.left.left.left.left.left.left.left.left _ _ (by first | rfl | assumption)))) ?_
            refine Sd.quiet 2 _ _ rfl rfl rfl rfl rfl (QOp.ok (fun X => OpOk.fieldAddr fld34_1 rfl)) ?_
            refine Sd.quiet 3 _ _ rfl rfl rfl rfl rfl (QOp.ok (fun X => OpOk.load rfl rfl rfl (Blk.out Blk.pts.left.left.left.left.left.left.left.left.left _ _ (by first | rfl | assumption)))) ?_
            refine Sd.quiet 4 _ _ rfl rfl rfl rfl rfl (QOp.ok (fun X => OpOk.move rfl)) ?_
            refine Sd.quiet 5 _ _ rfl rfl rfl rfl rfl (QOp.ok (fun X => OpOk.move rfl)) ?_
            refine Sd.quiet 6 _ _ rfl rfl rfl rfl rfl (QOp.ok (fun X => OpOk.cutM0 rfl ti126 rfl rd.left.left.left.left.left.left.left.left.left.left ⟨_, rfl⟩ ⟨_, rfl⟩ (by omega))) ?_
            refine Sd.quiet 8 _ _ rfl rfl rfl rfl rfl (QOp.ok (fun X => OpOk.fieldAddr fld34_1 rfl)) ?_
            refine Sd.quiet 9 _ _ rfl rfl rfl rfl rfl (QOp.ok (fun X => OpOk.load rfl rfl rfl (Blk.out Blk.pts.left.left.left.left.left.left.left.left.left _ _ (by first | rfl | assumption)))) ?_
            refine Sd.quiet 10 _ _ rfl rfl rfl rfl rfl (QOp.ok (fun X => OpOk.move rfl)) ?_
            refine Sd.quiet 11 _ _ rfl rfl rfl rfl rfl (QOp.ok (fun X => OpOk.cut rfl ti126 rfl rd.left.left.left.left.left.left.left.left.left.left ⟨_, rfl⟩ rfl (by omega) (by omega))) ?_
            (refine Sd.exec 7 rfl rfl rfl rfl rfl ?hrest (by rfl) (fun Xx62 Kx62 hKx62 => ?_); case hrest => kernel_rfl)
            refine RunL.mem (fl2 (sep_emp _) (sep_emp _)) ?_
            refine RunL.call cal19 rfl (s19a rdj.left.left.left.left.left.left.left.left.left rdA.left.left.left.left.left.left.left.left.left (by omega) (by assumption)) rfl (fun vx63 Ax63 hx63 => ?_)
            obtain ⟨x64, rfl⟩ := hx63
            refine RunL.know (fun w s => (s.conv rfl).ownRd0) (fun rdx65 => ?_)
            refine Sd.ret hKx62 (Eq.trans rfl (gp2 (sep_emp _).symm (asg rfl))) ⟨_, (emp_sep _).symm⟩ ?_
            (refine Sd.exec 12 rfl rfl rfl rfl rfl ?hrest (by rfl) (fun Xx66 Kx66 hKx66 => ?_); case hrest => kernel_rfl)
            refine RunL.mem (fl2 (flS rfl) (sep_emp _)) ?_
            refine RunL.call cal19 rfl (s19a (Rd.right rdx65) rdB.left.left.left.left.left.left.left.left.left.left.left (by omega) (by assumption)) rfl (fun vx67 Ax67 hx67 => ?_)
            obtain ⟨x68, rfl⟩ := hx67
            refine RunL.know (fun w s => (s.conv rfl).ownRd0) (fun rdx69 => ?_)
            refine Sd.ret hKx66 (Eq.trans rfl (gp2 (sep_emp _).symm (asg (asg (asg rfl))))) ⟨_, (asg rfl)⟩ ?_
            refine Sd.quiet 13 _ _ rfl rfl rfl rfl rfl (QOp.ok (fun X => OpOk.assign rfl)) ?_
            (apply Sd.tail; case hall => kernel_rfl)
            refine RunL.mem (fl2 (flS (flS (flS rfl))) (sep_emp _)) ?_
            refine RunL.nil ?_
            refine Run.seq ?_
            refine Run.region ?_
            refine RunL.ok (OpOk.move rfl) rfl ?_
            refine RunL.ok (OpOk.fieldAddr fld34_2 rfl) rfl ?_
            refine RunL.ok (OpOk.load rfl rfl rfl (Blk.out Blk.pts.left.left.left.left.left.left.left.left.left.left.left _ _ (by first | rfl | assumption))) rfl ?_
            refine RunL.ok (OpOk.fieldAddr fld34_1 rfl) rfl ?_
            refine RunL.ok (OpOk.load rfl rfl rfl (Blk.out Blk.pts.left.left.left.left.left.left.left.left.left.left.left _ _ (by first | rfl | assumption))) rfl ?_
            refine RunL.call cal19 rfl (s19a rdj.left.left.left.left.left.left.left.left.left.left.left.left rd.left.left.left.left.left.left.left.left.left.left.left.left (by omega) (by assumption)) rfl (fun vx70 Ax70 hx70 => ?_)
            obtain ⟨x71, rfl⟩ := hx70
            refine RunL.know (fun w s => (s.conv rfl).ownRd0) (fun rdx72 => ?_)
            refine RunL.call cal21 rfl (s21 (Rd.right rdx69).left.left (Rd.right rdx72)) rfl (fun vx73 Ax73 hx73 => ?_)
            obtain ⟨rfl, rfl⟩ := hx73
            refine RunL.ok (OpOk.assign rfl) rfl ?_
            refine RunL.nil ?_
            refine Run.ret1 Try.func5 rfl rfl ?_
            rw [decide_eq_true (by first | omega | with_reducible rfl | assumption)]
            exact ⟨rfl, ⟨_, (asg (asg (asg (asg (asg (asg (asg (asg (asg (asg (asg (asg (asg as1)))))))))))))⟩⟩
          refine RunL.off rfl rfl rfl rfl ?_
          refine RunL.off rfl rfl rfl rfl ?_
          refine RunL.ok (OpOk.pickF rfl rfl) rfl ?_
          refine RunL.ok (OpOk.move rfl) rfl ?_
          refine RunL.off rfl rfl rfl rfl ?_
          refine RunL.off rfl rfl rfl rfl ?_
          refine RunL.ok (OpOk.pickF rfl rfl) rfl ?_
          refine RunL.nil ?_
          refine Run.condF rfl ?_
          refine Run.skip ?_
          refine Run.seq ?_
          refine Run.seq ?_
          refine Run.region ?_
          refine RunL.ok (OpOk.move rfl) rfl ?_
          refine RunL.ok (OpOk.asF (OpOk.eql rfl rfl) (by omega)) rfl ?_
          refine RunL.ok (OpOk.move rfl) rfl ?_
          refine RunL.off rfl rfl rfl rfl ?_
          refine RunL.off rfl rfl rfl rfl ?_
          refine RunL.ok (OpOk.pickF rfl rfl) rfl ?_
          refine RunL.ok (OpOk.move rfl) rfl ?_
          refine RunL.on rfl rfl ?_
          refine RunL.ok (OpOk.move rfl) rfl ?_
          refine RunL.on rfl rfl ?_
          refine RunL.ok (OpOk.eql rfl rfl) rfl ?_
          refine RunL.on rfl rfl ?_
          refine RunL.ok (OpOk.move rfl) rfl ?_
          refine RunL.splitD (t := 108) rfl (fun x74 => ?_) (fun x74 => ?_)
          · refine RunL.on rfl rfl ?_
            refine RunL.ok (OpOk.move rfl) rfl ?_
            refine RunL.on rfl rfl ?_
            refine RunL.ok (OpOk.asF (OpOk.eql rfl rfl) (by omega)) rfl ?_
            refine RunL.on rfl rfl ?_
            refine RunL.ok (OpOk.pickT rfl rfl) rfl ?_
            refine RunL.on rfl rfl ?_
            refine RunL.ok (OpOk.move rfl) rfl ?_
            refine RunL.off rfl rfl rfl rfl ?_
            refine RunL.off rfl rfl rfl rfl ?_
            refine RunL.on rfl rfl ?_
            refine RunL.ok (OpOk.pickF rfl rfl) rfl ?_
            refine RunL.ok (OpOk.pickF rfl rfl) rfl ?_
            refine RunL.nil ?_
            refine Run.condF rfl ?_
            refine Run.skip ?_
            refine Run.seq ?_
            refine Run.know (fun w s => (s.conv rfl).ownRd0) (fun rdx75 => ?_)
            (apply Run.drawD [] (by rfl) (sep_emp _).symm; case hchk => kernel_rfl)
            refine Sd.quiet 0 _ _ rfl rfl rfl rfl rfl (QOp.ok (fun X => OpOk.fieldAddr fld34_2 rfl)) ?_
            refine Sd.quiet 1 _ _ rfl rfl rfl rfl rfl (QOp.ok (fun X => OpOk.load rfl rfl rfl (Blk.out Blk.pts.left.left.left.left.left.left.left.left.left _ _ (by first | rfl | assumption)))) ?_
            refine Sd.quiet 2 _ _ rfl rfl rfl rfl rfl (QOp.ok (fun X => OpOk.fieldAddr fld34_1 rfl)) ?_
            refine Sd.quiet 3 _ _ rfl rfl rfl rfl rfl (QOp.ok (fun X => OpOk.load rfl rfl rfl (Blk.out Blk.pts.left.left.left.left.left.left.left.left.left _ _ (by first | rfl | assumption)))) ?_
            refine Sd.quiet 4 _ _ rfl rfl rfl rfl rfl (QOp.ok (fun X => OpOk.move rfl)) ?_
            refine Sd.quiet 5 _ _ rfl rfl rfl rfl rfl (QOp.ok (fun X => OpOk.move rfl)) ?_
            refine Sd.quiet 6 _ _ rfl rfl rfl rfl rfl (QOp.ok (fun X => OpOk.cutM0 rfl ti126 rfl rd.left.left.left.left.left.left.left.left.left.left ⟨_, rfl⟩ ⟨_, rfl⟩ (by omega))) ?_
            refine Sd.quiet 8 _ _ rfl rfl rfl rfl rfl (QOp.ok (fun X => OpOk.fieldAddr fld34_1 rfl)) ?_
            refine Sd.quiet 9 _ _ rfl rfl rfl rfl rfl (QOp.ok (fun X => OpOk.load rfl rfl rfl (Blk.out Blk.pts.left.left.left.left.left.left.left.left.left _ _ (by first | rfl | assumption)))) ?_
            refine Sd.quiet 10 _ _ rfl rfl rfl rfl rfl (QOp.ok (fun X => OpOk.move rfl)) ?_
            refine Sd.quiet 11 _ _ rfl rfl rfl rfl rfl (QOp.ok (fun X => OpOk.cut rfl ti126 rfl rd.left.left.left.left.left.left.left.left.left.left ⟨_, rfl⟩ rfl (by omega) (by omega))) ?_
            (refine Sd.exec 7 rfl rfl rfl rfl rfl ?hrest (by rfl) (fun Xx76 Kx76 hKx76 => ?_); case hrest => kernel_rfl)
            refine RunL.mem (fl2 (sep_emp _) (sep_emp _)) ?_
            refine RunL.call cal19 rfl (s19a rdj.left.left.left.left.left.left.left.left.left rdA.left.left.left.left.left.left.left.left.left (by omega) (by assumption)) rfl (fun vx77 Ax77 hx77 => ?_)
            obtain ⟨x78, rfl⟩ := hx77
            refine RunL.know (fun w s => (s.conv rfl).ownRd0) (fun rdx79 => ?_)
            refine Sd.ret hKx76 (Eq.trans rfl (gp2 (sep_emp _).symm (asg rfl))) ⟨_, (emp_sep _).symm⟩ ?_
            (refine Sd.exec 12 rfl rfl rfl rfl rfl ?hrest (by rfl) (fun Xx80 Kx80 hKx80 => ?_); case hrest => kernel_rfl)
            refine RunL.mem (fl2 (flS rfl) (sep_emp _)) ?_
            refine RunL.call cal19 rfl (s19a (Rd.right rdx79) rdB.left.left.left.left.left.left.left.left.left.left.left (by omega) (by assumption)) rfl (fun vx81 Ax81 hx81 => ?_)
            obtain ⟨x82, rfl⟩ := hx81
            refine RunL.know (fun w s => (s.conv rfl).ownRd0) (fun rdx83 => ?_)
            refine Sd.ret hKx80 (Eq.trans rfl (gp2 (sep_emp _).symm (asg (asg (asg rfl))))) ⟨_, (asg rfl)⟩ ?_
            refine Sd.quiet 13 _ _ rfl rfl rfl rfl rfl (QOp.ok (fun X => OpOk.assign rfl)) ?_
            (apply Sd.tail; case hall => kernel_rfl)
            refine RunL.mem (fl2 (flS (flS (flS rfl))) (sep_emp _)) ?_
            refine RunL.nil ?_
            refine Run.seq ?_
            refine Run.region ?_
            refine RunL.ok (OpOk.move rfl) rfl ?_
            refine RunL.ok (OpOk.fieldAddr fld34_2 rfl) rfl ?_
            refine RunL.ok (OpOk.load rfl rfl rfl (Blk.out Blk.pts.left.left.left.left.left.left.left.left.left.left.left _ _ (by first | rfl | assumption))) rfl ?_
            refine RunL.ok (OpOk.fieldAddr fld34_1 rfl) rfl ?_
            refine RunL.ok (OpOk.load rfl rfl rfl (Blk.out Blk.pts.left.left.left.left.left.left.left.left.left.left.left _ _ (by first | rfl | assumption))) rfl ?_
            refine RunL.call cal19 rfl (s19a rdj.left.left.left.left.left.left.left.left.left.left.left.left rd.left.left.left.left.left.left.left.left.left.left.left.left (by omega) (by assumption)) rfl (fun vx84 Ax84 hx84 => ?_)
            obtain ⟨x85, rfl⟩ := hx84
            refine RunL.know (fun w s => (s.conv rfl).ownRd0) (fun rdx86 => ?_)
            refine RunL.call cal21 rfl (s21 (Rd.right rdx83).left.left (Rd.right rdx86)) rfl (fun vx87 Ax87 hx87 => ?_)
            obtain ⟨rfl, rfl⟩ := hx87
            refine RunL.ok (OpOk.assign rfl) rfl ?_
            refine RunL.nil ?_
            refine Run.ret1 Try.func5 rfl rfl ?_
            rw [decide_eq_true (by first | omega | with_reducible rfl | assumption)]
            exact ⟨rfl, ⟨_, (asg (asg (asg (asg (asg (asg (asg (asg (asg (asg (asg (asg (asg as1)))))))))))))⟩⟩
          refine RunL.off rfl rfl rfl rfl ?_
          refine RunL.off rfl rfl rfl rfl ?_
          refine RunL.on rfl rfl ?_
          refine RunL.ok (OpOk.pickF rfl rfl) rfl ?_
          refine RunL.on rfl rfl ?_
          refine RunL.ok (OpOk.move rfl) rfl ?_
          refine RunL.off rfl rfl rfl rfl ?_
          refine RunL.off rfl rfl rfl rfl ?_
          refine RunL.on rfl rfl ?_
          refine RunL.ok (OpOk.pickF rfl rfl) rfl ?_
          refine RunL.ok (OpOk.pickF rfl rfl) rfl ?_
          refine RunL.nil ?_
          refine Run.condF rfl ?_
          refine Run.skip ?_
          refine Run.seq ?_
          refine Run.know (fun w s => (s.conv rfl).ownRd0) (fun rdx88 => ?_)
          (apply Run.drawD [] (by rfl) (sep_emp _).symm; case hchk => kernel_rfl)
          refine Sd.quiet 0 _ _ rfl rfl rfl rfl rfl (QOp.ok (fun X => OpOk.fieldAddr fld34_2 rfl)) ?_
          refine Sd.quiet 1 _ _ rfl rfl rfl rfl rfl (QOp.ok (fun X => OpOk.load rfl rfl rfl (Blk.out Blk.pts.left.left.left.left.left.left.left.left.left _ _ (by first | rfl | assumption)))) ?_
          refine Sd.quiet 2 _ _ rfl rfl rfl rfl rfl (QOp.ok (fun X => OpOk.fieldAddr fld34_1 rfl)) ?_
          refine Sd.quiet 3 _ _ rfl rfl rfl rfl rfl (QOp.ok (fun X => OpOk.load rfl rfl rfl (Blk.out Blk.pts.left.left.left.left.left.left.left.left.left _ _ (by first | rfl | assumption)))) ?_
          refine Sd.quiet 4 _ _ rfl rfl rfl rfl rfl (QOp.ok (fun X => OpOk.move rfl)) ?_
          refine Sd.quiet 5 _ _ rfl rfl rfl rfl rfl (QOp.ok (fun X => OpOk.move rfl)) ?_
          refine Sd.quiet 6 _ _ rfl rfl rfl rfl rfl (QOp.ok (fun X => OpOk.cutM0 rfl ti126 rfl rd.left.left.left.left.left.left.left.left.left.left ⟨_, rfl⟩ ⟨_, rfl⟩ (by omega))) ?_
          refine Sd.quiet 8 _ _ rfl rfl rfl rfl rfl (QOp.ok (fun X => OpOk.fieldAddr fld34_1 rfl)) ?_
          refine Sd.quiet 9 _ _ rfl rfl rfl rfl rfl (QOp.ok (fun X => OpOk.load rfl rfl rfl (Blk.out Blk.pts.left.left.left.left.left.left.left.left.left _ _ (by first | rfl | assumption)))) ?_
          refine Sd.quiet 10 _ _ rfl rfl rfl rfl rfl (QOp.ok (fun X => OpOk.move rfl)) ?_
          refine Sd.quiet 11 _ _ rfl rfl rfl rfl rfl (QOp.ok (fun X => OpOk.cut rfl ti126 rfl rd.left.left.left.left.left.left.left.left.left.left ⟨_, rfl⟩ rfl (by omega) (by omega))) ?_
          (refine Sd.exec 7 rfl rfl rfl rfl rfl ?hrest (by rfl) (fun Xx89 Kx89 hKx89 => ?_); case hrest => kernel_rfl)
          refine RunL.mem (fl2 (sep_emp _) (sep_emp _)) ?_
          refine RunL.call cal19 rfl (s19a rdj.left.left.left.left.left.left.left.left.left rdA.left.left.left.left.left.left.left.left.left (by omega) (by assumption)) rfl (fun vx90 Ax90 hx90 => ?_)
          obtain ⟨x91, rfl⟩ := hx90
          refine RunL.know (fun w s => (s.conv rfl).ownRd0) (fun rdx92 => ?_)
          refine Sd.ret hKx89 (Eq.trans rfl (gp2 (sep_emp _).symm (asg rfl))) ⟨_, (emp_sep _).symm⟩ ?_
          (refine Sd.exec 12 rfl rfl rfl rfl rfl ?hrest (by rfl) (fun Xx93 Kx93 hKx93 => ?_); case hrest => kernel_rfl)
          refine RunL.mem (fl2 (flS rfl) (sep_emp _)) ?_
          refine RunL.call cal19 rfl (s19a (Rd.right rdx92) rdB.left.left.left.left.left.left.left.left.left.left.left (by omega) (by assumption)) rfl (fun vx94 Ax94 hx94 => ?_)
          obtain ⟨x95, rfl⟩ := hx94
          refine RunL.know (fun w s => (s.conv rfl).ownRd0) (fun rdx96 => ?_)
          refine Sd.ret hKx93 (Eq.trans rfl (gp2 (sep_emp _).symm (asg (asg (asg rfl))))) ⟨_, (asg rfl)⟩ ?_
          refine Sd.quiet 13 _ _ rfl rfl rfl rfl rfl (QOp.ok (fun X => OpOk.assign rfl)) ?_
          (apply Sd.tail; case hall => kernel_rfl)
          refine RunL.mem (fl2 (flS (flS (flS rfl))) (sep_emp _)) ?_
          refine RunL.nil ?_
          refine Run.seq ?_
          refine Run.region ?_
          refine RunL.ok (OpOk.move rfl) rfl ?_
          refine RunL.ok (OpOk.fieldAddr fld34_2 rfl) rfl ?_
          refine RunL.ok (OpOk.load rfl rfl rfl (Blk.out Blk.pts.left.left.left.left.left.left.left.left.left.left.left _ _ (by first | rfl | assumption))) rfl ?_
          refine RunL.ok (OpOk.fieldAddr fld34_1 rfl) rfl ?_
          refine RunL.ok (OpOk.load rfl rfl rfl (Blk.out Blk.pts.left.left.left.left.left.left.left.left.left.left.left _ _ (by first | rfl | assumption))) rfl ?_
          refine RunL.call cal19 rfl (s19a rdj.left.left.left.left.left.left.left.left.left.left.left.left rd.left.left.left.left.left.left.left.left.left.left.left.left (by omega) (by assumption)) rfl (fun vx97 Ax97 hx97 => ?_)
          obtain ⟨x98, rfl⟩ := hx97
          refine RunL.know (fun w s => (s.conv rfl).ownRd0) (fun rdx99 => ?_)
          refine RunL.call cal21 rfl (s21 (Rd.right rdx96).left.left (Rd.right rdx99)) rfl (fun vx100 Ax100 hx100 => ?_)
          obtain ⟨rfl, rfl⟩ := hx100
          refine RunL.ok (OpOk.assign rfl) rfl ?_
          refine RunL.nil ?_
          refine Run.ret1 Try.func5 rfl rfl ?_
          rw [decide_eq_true (by first | omega | with_reducible rfl | assumption)]
          exact ⟨rfl, ⟨_, (asg (asg (asg (asg (asg (asg (asg (asg (asg (asg (asg (asg (asg as1)))))))))))))⟩⟩
        refine RunL.off rfl rfl rfl rfl ?_
        refine RunL.off rfl rfl rfl rfl ?_
        refine RunL.off rfl rfl rfl rfl ?_
        refine RunL.ok (OpOk.pickF rfl rfl) rfl ?_
        refine RunL.nil ?_
        refine Run.condF rfl ?_
        refine Run.skip ?_
        refine Run.seq ?_
        (apply Run.drawD [] (by rfl) (sep_emp _).symm; case hchk => kernel_rfl)
        refine Sd.quiet 0 _ _ rfl rfl rfl rfl rfl (QOp.ok (fun X => OpOk.fieldAddr fld34_0 rfl)) ?_
        refine Sd.quiet 1 _ _ rfl rfl rfl rfl rfl (QOp.ok (fun X => OpOk.load rfl rfl rfl (Blk.out Blk.pts.left.left.left _ _ (by first | rfl | assumption)))) ?_
        refine Sd.quiet 2 _ _ rfl rfl rfl rfl rfl (QOp.ok (fun X => OpOk.fieldAddr fld34_1 rfl)) ?_
        refine Sd.quiet 3 _ _ rfl rfl rfl rfl rfl (QOp.ok (fun X => OpOk.load rfl rfl rfl (Blk.out Blk.pts.left.left.left _ _ (by first | rfl | assumption)))) ?_
        refine Sd.quiet 4 _ _ rfl rfl rfl rfl rfl (QOp.ok (fun X => OpOk.move rfl)) ?_
        refine Sd.quiet 5 _ _ rfl rfl rfl rfl rfl (QOp.ok (fun X => OpOk.move rfl)) ?_
        refine Sd.quiet 6 _ _ rfl rfl rfl rfl rfl (QOp.ok (fun X => OpOk.cutM0 rfl ti126 rfl rd.left.left.left.left ⟨_, rfl⟩ ⟨_, rfl⟩ (by omega))) ?_
        (refine Sd.exec 7 rfl rfl rfl rfl rfl ?hrest (by rfl) (fun Xx101 Kx101 hKx101 => ?_); case hrest => kernel_rfl)
        refine RunL.mem (fl2 (sep_emp _) (sep_emp _)) ?_
        refine RunL.call cal17 rfl (s17b rdA.left.left.left alA.left.left.left (by assumption) (by assumption) (by assumption)) rfl (fun vx102 Ax102 hx102 => ?_)
        obtain ⟨x103, ⟨x104, ⟨rfl, rfl⟩⟩⟩ := hx102
        refine RunL.know (fun w s => (s.conv rfl).ownRd0) (fun rdx105 => ?_)
        refine Sd.ret hKx101 (Eq.trans rfl (gp2 (sep_emp _).symm (asg rfl))) ⟨_, (emp_sep _).symm⟩ ?_
        refine Sd.quiet 8 _ _ rfl rfl rfl rfl rfl (QOp.ok (fun X => OpOk.move rfl)) ?_
        refine Sd.quiet 9 _ _ rfl rfl rfl rfl rfl (QOp.ok (fun X => OpOk.ext20 rfl)) ?_
        refine Sd.quiet 10 _ _ rfl rfl rfl rfl rfl (QOp.ok (fun X => OpOk.ext21 rfl)) ?_
        refine Sd.quiet 11 _ _ rfl rfl rfl rfl rfl (QOp.ok (fun X => OpOk.assign rfl)) ?_
        refine Sd.quiet 12 _ _ rfl rfl rfl rfl rfl (QOp.ok (fun X => OpOk.assign rfl)) ?_
        (apply Sd.tail; case hall => kernel_rfl)
        refine RunL.mem (fl2 (flS rfl) (sep_emp _)) ?_
        refine RunL.nil ?_
        refine Run.seq ?_
        (apply Run.drawD [] (by rfl) (sep_emp _).symm; case hchk => kernel_rfl)
        refine Sd.quiet 0 _ _ rfl rfl rfl rfl rfl (QOp.ok (fun X => OpOk.fieldAddr fld34_0 rfl)) ?_
        refine Sd.quiet 1 _ _ rfl rfl rfl rfl rfl (QOp.ok (fun X => OpOk.load rfl rfl rfl (Blk.out Blk.pts.left.left.left.left.left _ _ (by first | rfl | assumption)))) ?_
        refine Sd.quiet 2 _ _ rfl rfl rfl rfl rfl (QOp.ok (fun X => OpOk.fieldAddr fld34_1 rfl)) ?_
        refine Sd.quiet 3 _ _ rfl rfl rfl rfl rfl (QOp.ok (fun X => OpOk.load rfl rfl rfl (Blk.out Blk.pts.left.left.left.left.left _ _ (by first | rfl | assumption)))) ?_
        refine Sd.quiet 4 _ _ rfl rfl rfl rfl rfl (QOp.ok (fun X => OpOk.move rfl)) ?_
        refine Sd.quiet 5 _ _ rfl rfl rfl rfl rfl (QOp.ok (fun X => OpOk.cut rfl ti126 rfl rd.left.left.left.left.left.left ⟨_, rfl⟩ rfl (by omega) (by omega))) ?_
        (refine Sd.exec 6 rfl rfl rfl rfl rfl ?hrest (by rfl) (fun Xx106 Kx106 hKx106 => ?_); case hrest => kernel_rfl)
        refine RunL.mem (fl2 (sep_emp _) (sep_emp _)) ?_
        refine RunL.call cal17 rfl (s17b rdB.left.left.left.left.left alB.left.left.left.left.left (by assumption) (by assumption) (by assumption)) rfl (fun vx107 Ax107 hx107 => ?_)
        obtain ⟨x108, ⟨x109, ⟨rfl, rfl⟩⟩⟩ := hx107
        refine RunL.know (fun w s => (s.conv rfl).ownRd0) (fun rdx110 => ?_)
        refine Sd.ret hKx106 (Eq.trans rfl (gp2 (sep_emp _).symm (asg rfl))) ⟨_, (emp_sep _).symm⟩ ?_
        refine Sd.quiet 7 _ _ rfl rfl rfl rfl rfl (QOp.ok (fun X => OpOk.move rfl)) ?_
        refine Sd.quiet 8 _ _ rfl rfl rfl rfl rfl (QOp.ok (fun X => OpOk.ext20 rfl)) ?_
        refine Sd.quiet 9 _ _ rfl rfl rfl rfl rfl (QOp.ok (fun X => OpOk.ext21 rfl)) ?_
        refine Sd.quiet 10 _ _ rfl rfl rfl rfl rfl (QOp.ok (fun X => OpOk.assign rfl)) ?_
        refine Sd.quiet 11 _ _ rfl rfl rfl rfl rfl (QOp.ok (fun X => OpOk.assign rfl)) ?_
        (apply Sd.tail; case hall => kernel_rfl)
        refine RunL.mem (fl2 (flS rfl) (sep_emp _)) ?_
        refine RunL.nil ?_
        refine Run.seq ?_
        refine Run.region ?_
        refine RunL.ok (OpOk.fieldAddr fld34_0 rfl) rfl ?_
        refine RunL.ok (OpOk.load rfl rfl rfl (Blk.out Blk.pts.left.left.left.left.left _ _ (by first | rfl | assumption))) rfl ?_
        refine RunL.ok (OpOk.fieldAddr fld34_1 rfl) rfl ?_
        refine RunL.ok (OpOk.load rfl rfl rfl (Blk.out Blk.pts.left.left.left.left.left _ _ (by first | rfl | assumption))) rfl ?_
        refine RunL.call cal17 rfl (s17b rd.left.left.left.left.left.left al.left.left.left.left.left.left (by assumption) (by assumption) (by assumption)) rfl (fun vx111 Ax111 hx111 => ?_)
        obtain ⟨x112, ⟨x113, ⟨rfl, rfl⟩⟩⟩ := hx111
        refine RunL.ok (OpOk.move rfl) rfl ?_
        refine RunL.ok (OpOk.ext20 rfl) rfl ?_
        refine RunL.ok (OpOk.ext21 rfl) rfl ?_
        refine RunL.ok (OpOk.assign rfl) rfl ?_
        refine RunL.ok (OpOk.assign rfl) rfl ?_
        refine RunL.nil ?_
        refine Run.seq ?_
        refine Run.seq ?_
        refine Run.region ?_
        refine RunL.ok (OpOk.move rfl) rfl ?_
        refine RunL.ok (OpOk.eql rfl rfl) rfl ?_
        refine RunL.ok (OpOk.move rfl) rfl ?_
        refine RunL.splitD (t := 71) rfl (fun x114 => ?_) (fun x114 => ?_)
        · refine RunL.on rfl rfl ?_
          refine RunL.ok (OpOk.move rfl) rfl ?_
          refine RunL.on rfl rfl ?_
          refine RunL.ok (OpOk.eql rfl rfl) rfl ?_
          refine RunL.ok (OpOk.pickT rfl rfl) rfl ?_
          refine RunL.ok (OpOk.move rfl) rfl ?_
          refine RunL.splitD (t := 75) rfl (fun x115 => ?_) (fun x115 => ?_)
          · refine RunL.on rfl rfl ?_
            refine RunL.ok (OpOk.move rfl) rfl ?_
            refine RunL.on rfl rfl ?_
            refine RunL.ok (OpOk.asF (OpOk.eql rfl rfl) (by omega)) rfl ?_
            refine RunL.ok (OpOk.pickT rfl rfl) rfl ?_
            refine RunL.nil ?_
            refine Run.condF rfl ?_
            refine Run.skip ?_
            refine Run.seq ?_
            refine Run.seq ?_
            refine Run.region ?_
            refine RunL.ok (OpOk.move rfl) rfl ?_
            refine RunL.ok (OpOk.asF (OpOk.eql rfl rfl) (by omega)) rfl ?_
            refine RunL.ok (OpOk.move rfl) rfl ?_
            refine RunL.off rfl rfl rfl rfl ?_
            refine RunL.off rfl rfl rfl rfl ?_
            refine RunL.ok (OpOk.pickF rfl rfl) rfl ?_
            refine RunL.ok (OpOk.move rfl) rfl ?_
            refine RunL.on rfl rfl ?_
            refine RunL.ok (OpOk.move rfl) rfl ?_
            refine RunL.on rfl rfl ?_
            refine RunL.ok (OpOk.asF (OpOk.eql rfl rfl) (by omega)) rfl ?_
            refine RunL.on rfl rfl ?_
            refine RunL.ok (OpOk.move rfl) rfl ?_
            refine RunL.off rfl rfl rfl rfl ?_
            refine RunL.off rfl rfl rfl rfl ?_
            refine RunL.on rfl rfl ?_
            refine RunL.ok (OpOk.pickF rfl rfl) rfl ?_
            refine RunL.on rfl rfl ?_
            refine RunL.ok (OpOk.move rfl) rfl ?_
            refine RunL.off rfl rfl rfl rfl ?_
            refine RunL.off rfl rfl rfl rfl ?_
            refine RunL.on rfl rfl ?_
            refine RunL.ok (OpOk.pickF rfl rfl) rfl ?_
            refine RunL.ok (OpOk.pickF rfl rfl) rfl ?_
            refine RunL.nil ?_
            refine Run.condF rfl ?_
            refine Run.skip ?_
            refine Run.seq ?_
            refine Run.know (fun w s => (s.conv rfl).ownRd0) (fun rdx116 => ?_)
            (apply Run.drawD [] (by rfl) (sep_emp _).symm; case hchk => kernel_rfl)
            refine Sd.quiet 0 _ _ rfl rfl rfl rfl rfl (QOp.ok (fun X => OpOk.fieldAddr fld34_2 rfl)) ?_
            refine Sd.quiet 1 _ _ rfl rfl rfl rfl rfl (QOp.ok (fun X => OpOk.load rfl rfl rfl (Blk.out Blk.pts.left.left.left.left.left.left.left.left.left _ _ (by first | rfl | assumption)))) ?_
            refine Sd.quiet 2 _ _ rfl rfl rfl rfl rfl (QOp.ok (fun X => OpOk.fieldAddr fld34_1 rfl)) ?_
            refine Sd.quiet 3 _ _ rfl rfl rfl rfl rfl (QOp.ok (fun X => OpOk.load rfl rfl rfl (Blk.out Blk.pts.left.left.left.left.left.left.left.left.left _ _ (by first | rfl | assumption)))) ?_
            refine Sd.quiet 4 _ _ rfl rfl rfl rfl rfl (QOp.ok (fun X => OpOk.move rfl)) ?_
            refine Sd.quiet 5 _ _ rfl rfl rfl rfl rfl (QOp.ok (fun X => OpOk.move rfl)) ?_
            refine Sd.quiet 6 _ _ rfl rfl rfl rfl rfl (QOp.ok (fun X => OpOk.cutM0 rfl ti126 rfl rd.left.left.left.left.left.left.left.left.left.left ⟨_, rfl⟩ ⟨_, rfl⟩ (by omega))) ?_
            refine Sd.quiet 8 _ _ rfl rfl rfl rfl rfl (QOp.ok (fun X => OpOk.fieldAddr fld34_1 rfl)) ?_
            refine Sd.quiet 9 _ _ rfl rfl rfl rfl rfl (QOp.ok (fun X => OpOk.load rfl rfl rfl (Blk.out Blk.pts.left.left.left.left.left.left.left.left.left _ _ (by first | rfl | assumption)))) ?_
            refine Sd.quiet 10 _ _ rfl rfl rfl rfl rfl (QOp.ok (fun X => OpOk.move rfl)) ?_
            refine Sd.quiet 11 _ _ rfl rfl rfl rfl rfl (QOp.ok (fun X => OpOk.cut rfl ti126 rfl rd.left.left.left.left.left.left.left.left.left.left ⟨_, rfl⟩ rfl (by omega) (by omega))) ?_
            (refine Sd.exec 7 rfl rfl rfl rfl rfl ?hrest (by rfl) (fun Xx117 Kx117 hKx117 => ?_); case hrest => kernel_rfl)
            refine RunL.mem (fl2 (sep_emp _) (sep_emp _)) ?_
            refine RunL.call cal19 rfl (s19a rdj.left.left.left.left.left.left.left.left.left rdA.left.left.left.left.left.left.left.left.left (by omega) (by assumption)) rfl (fun vx118 Ax118 hx118 => ?_)
            obtain ⟨x119, rfl⟩ := hx118
            refine RunL.know (fun w s => (s.conv rfl).ownRd0) (fun rdx120 => ?_)
            refine Sd.ret hKx117 (Eq.trans rfl (gp2 (sep_emp _).symm (asg rfl))) ⟨_, (emp_sep _).symm⟩ ?_
            (refine Sd.exec 12 rfl rfl rfl rfl rfl ?hrest (by rfl) (fun Xx121 Kx121 hKx121 => ?_); case hrest => kernel_rfl)
            refine RunL.mem (fl2 (flS rfl) (sep_emp _)) ?_
            refine RunL.call cal19 rfl (s19a (Rd.right rdx120) rdB.left.left.left.left.left.left.left.left.left.left.left (by omega) (by assumption)) rfl (fun vx122 Ax122 hx122 => ?_)
            obtain ⟨x123, rfl⟩ := hx122
            refine RunL.know (fun w s => (s.conv rfl).ownRd0) (fun rdx124 => ?_)
            refine Sd.ret hKx121 (Eq.trans rfl (gp2 (sep_emp _).symm (asg (asg (asg rfl))))) ⟨_, (asg rfl)⟩ ?_
            refine Sd.quiet 13 _ _ rfl rfl rfl rfl rfl (QOp.ok (fun X => OpOk.assign rfl)) ?_
            (apply Sd.tail; case hall => kernel_rfl)
            refine RunL.mem (fl2 (flS (flS (flS rfl))) (sep_emp _)) ?_
            refine RunL.nil ?_
            refine Run.seq ?_
            refine Run.region ?_
            refine RunL.ok (OpOk.move rfl) rfl ?_
            refine RunL.ok (OpOk.fieldAddr fld34_2 rfl) rfl ?_
            refine RunL.ok (OpOk.load rfl rfl rfl (Blk.out Blk.pts.left.left.left.left.left.left.left.left.left.left.left _ _ (by first | rfl | assumption))) rfl ?_
            refine RunL.ok (OpOk.fieldAddr fld34_1 rfl) rfl ?_
            refine RunL.ok (OpOk.load rfl rfl rfl (Blk.out Blk.pts.left.left.left.left.left.left.left.left.left.left.left _ _ (by first | rfl | assumption))) rfl ?_
            refine RunL.call cal19 rfl (s19a rdj.left.left.left.left.left.left.left.left.left.left.left.left rd.left.left.left.left.left.left.left.left.left.left.left.left (by omega) (by assumption)) rfl (fun vx125 Ax125 hx125 => ?_)
            obtain ⟨x126, rfl⟩ := hx125
            refine RunL.know (fun w s => (s.conv rfl).ownRd0) (fun rdx127 => ?_)
            refine RunL.call cal21 rfl (s21 (Rd.right rdx124).left.left (Rd.right rdx127)) rfl (fun vx128 Ax128 hx128 => ?_)
            obtain ⟨rfl, rfl⟩ := hx128
            refine RunL.ok (OpOk.assign rfl) rfl ?_
            refine RunL.nil ?_
            refine Run.ret1 Try.func5 rfl rfl ?_
            rw [decide_eq_true (by first | omega | with_reducible rfl | assumption)]
            exact ⟨rfl, ⟨_, (asg (asg (asg (asg (asg (asg (asg (asg (asg (asg (asg (asg (asg as1)))))))))))))⟩⟩
          refine RunL.off rfl rfl rfl rfl ?_
          refine RunL.off rfl rfl rfl rfl ?_
          refine RunL.ok (OpOk.pickF rfl rfl) rfl ?_
          refine RunL.nil ?_
          refine Run.condF rfl ?_
          refine Run.skip ?_
          refine Run.seq ?_
          refine Run.seq ?_
          refine Run.region ?_
          refine RunL.ok (OpOk.move rfl) rfl ?_
          refine RunL.ok (OpOk.eql rfl rfl) rfl ?_
          refine RunL.ok (OpOk.move rfl) rfl ?_
          refine RunL.splitD (t := 101) rfl (fun x129 => ?_) (fun x129 => ?_)
          · refine RunL.on rfl rfl ?_
            refine RunL.ok (OpOk.move rfl) rfl ?_
            refine RunL.on rfl rfl ?_
            refine RunL.ok (OpOk.as (c := false) (OpOk.neq rfl rfl) (by rw [decide_eq_true (by omega)]; rfl)) rfl ?_
            refine RunL.ok (OpOk.pickT rfl rfl) rfl ?_
            refine RunL.ok (OpOk.move rfl) rfl ?_
            refine RunL.on rfl rfl ?_
            refine RunL.ok (OpOk.move rfl) rfl ?_
            refine RunL.on rfl rfl ?_
            refine RunL.ok (OpOk.asF (OpOk.eql rfl rfl) (by omega)) rfl ?_
            refine RunL.on rfl rfl ?_
            refine RunL.ok (OpOk.move rfl) rfl ?_
            refine RunL.off rfl rfl rfl rfl ?_
            refine RunL.off rfl rfl rfl rfl ?_
            refine RunL.on rfl rfl ?_
            refine RunL.ok (OpOk.pickF rfl rfl) rfl ?_
            refine RunL.on rfl rfl ?_
            refine RunL.ok (OpOk.move rfl) rfl ?_
            refine RunL.off rfl rfl rfl rfl ?_
            refine RunL.off rfl rfl rfl rfl ?_
            refine RunL.on rfl rfl ?_
            refine RunL.ok (OpOk.pickF rfl rfl) rfl ?_
            refine RunL.ok (OpOk.pickF rfl rfl) rfl ?_
            refine RunL.nil ?_
            refine Run.condF rfl ?_
            refine Run.skip ?_
            refine Run.seq ?_
            refine Run.know (fun w s => (s.conv rfl).ownRd0) (fun rdx130 => ?_)
            (apply Run.drawD [] (by rfl) (sep_emp _).symm; case hchk => kernel_rfl)
            refine Sd.quiet 0 _ _ rfl rfl rfl rfl rfl (QOp.ok (fun X => OpOk.fieldAddr fld34_2 rfl)) ?_
            refine Sd.quiet 1 _ _ rfl rfl rfl rfl rfl (QOp.ok (fun X => OpOk.load rfl rfl rfl (Blk.out Blk.pts.left.left.left.left.left.left.left.left.left _ _ (by first | rfl | assumption)))) ?_
            refine Sd.quiet 2 _ _ rfl rfl rfl rfl rfl (QOp.ok (fun X => OpOk.fieldAddr fld34_1 rfl)) ?_
            refine Sd.quiet 3 _ _ rfl rfl rfl rfl rfl (QOp.ok (fun X => OpOk.load rfl rfl rfl (Blk.out Blk.pts.left.left.left.left.left.left.left.left.left _ _ (by first | rfl | assumption)))) ?_
            refine Sd.quiet 4 _ _ rfl rfl rfl rfl rfl (QOp.ok (fun X => OpOk.move rfl)) ?_
            refine Sd.quiet 5 _ _ rfl rfl rfl rfl rfl (QOp.ok (fun X => OpOk.move rfl)) ?_
            refine Sd.quiet 6 _ _ rfl rfl rfl rfl rfl (QOp.ok (fun X => OpOk.cutM0 rfl ti126 rfl rd.left.left.left.left.left.left.left.left.left.left ⟨_, rfl⟩ ⟨_, rfl⟩ (by omega))) ?_
            refine Sd.quiet 8 _ _ rfl rfl rfl rfl rfl (QOp.ok (fun X => OpOk.fieldAddr fld34_1 rfl)) ?_
            refine Sd.quiet 9 _ _ rfl rfl rfl rfl rfl (QOp.ok (fun X => OpOk.load rfl rfl rfl (Blk.out Blk.pts.left.left.left.left.left.left.left.left.left _ _ (by first | rfl | assumption)))) ?_
            refine Sd.quiet 10 _ _ rfl rfl rfl rfl rfl (QOp.ok (fun X => OpOk.move rfl)) ?_
            refine Sd.quiet 11 _ _ rfl rfl rfl rfl rfl (QOp.ok (fun X => OpOk.cut rfl ti126 rfl rd.left.left.left.left.left.left.left.left.left.left ⟨_, rfl⟩ rfl (by omega) (by omega))) ?_
            (refine Sd.exec 7 rfl rfl rfl rfl rfl ?hrest (by rfl) (fun Xx131 Kx131 hKx131 => ?_); case hrest => kernel_rfl)
            refine RunL.mem (fl2 (sep_emp _) (sep_emp _)) ?_
            refine RunL.call cal19 rfl (s19a rdj.left.left.left.left.left.left.left.left.left rdA.left.left.left.left.left.left.left.left.left (by omega) (by assumption)) rfl (fun vx132 Ax132 hx132 => ?_)
            obtain ⟨x133, rfl⟩ := hx132
            refine RunL.know (fun w s => (s.conv rfl).ownRd0) (fun rdx134 => ?_)
            refine Sd.ret hKx131 (Eq.trans rfl (gp2 (sep_emp _).symm (asg rfl))) ⟨_, (emp_sep _).symm⟩ ?_
            (refine Sd.exec 12 rfl rfl rfl rfl rfl ?hrest (by rfl) (fun Xx135 Kx135 hKx135 => ?_); case hrest => kernel_rfl)
            refine RunL.mem (fl2 (flS rfl) (sep_emp _)) ?_
            refine RunL.call cal19 rfl (s19a (Rd.right rdx134) rdB.left.left.left.left.left.left.left.left.left.left.left (by omega) (by assumption)) rfl (fun vx136 Ax136 hx136 => ?_)
            obtain ⟨x137, rfl⟩ := hx136
            refine RunL.know (fun w s => (s.conv rfl).ownRd0) (fun rdx138 => ?_)
            refine Sd.ret hKx135 (Eq.trans rfl (gp2 (sep_emp _).symm (asg (asg (asg rfl))))) ⟨_, (asg rfl)⟩ ?_
            refine Sd.quiet 13 _ _ rfl rfl rfl rfl rfl (QOp.ok (fun X => OpOk.assign rfl)) ?_
            (apply Sd.tail; case hall => kernel_rfl)
            refine RunL.mem (fl2 (flS (flS (flS rfl))) (sep_emp _)) ?_
            refine RunL.nil ?_
            refine Run.seq ?_
            refine Run.region ?_
            refine RunL.ok (OpOk.move rfl) rfl ?_
            refine RunL.ok (OpOk.fieldAddr fld34_2 rfl) rfl ?_
            refine RunL.ok (OpOk.load rfl rfl rfl (Blk.out Blk.pts.left.left.left.left.left.left.left.left.left.left.left _ _ (by first | rfl | assumption))) rfl ?_
            refine RunL.ok (OpOk.fieldAddr fld34_1 rfl) rfl ?_
            refine RunL.ok (OpOk.load rfl rfl rfl (Blk.out Blk.pts.left.left.left.left.left.left.left.left.left.left.left _ _ (by first | rfl | assumption))) rfl ?_
            refine RunL.call cal19 rfl (s19a rdj.left.left.left.left.left.left.left.left.left.left.left.left rd.left.left.left.left.left.left.left.left.left.left.left.left (by omega) (by assumption)) rfl (fun vx139 Ax139 hx139 => ?_)
            obtain ⟨x140, rfl⟩ := hx139
            refine RunL.know (fun w s => (s.conv rfl).ownRd0) (fun rdx141 => ?_)
            refine RunL.call cal21 rfl (s21 (Rd.right rdx138).left.left (Rd.right rdx141)) rfl (fun vx142 Ax142 hx142 => ?_)
            obtain ⟨rfl, rfl⟩ := hx142
            refine RunL.ok (OpOk.assign rfl) rfl ?_
            refine RunL.nil ?_
            refine Run.ret1 Try.func5 rfl rfl ?_
            rw [decide_eq_true (by first | omega | with_reducible rfl | assumption)]
            exact ⟨rfl, ⟨_, (asg (asg (asg (asg (asg (asg (asg (asg (asg (asg (asg (asg (asg as1)))))))))))))⟩⟩
          refine RunL.off rfl rfl rfl rfl ?_
          refine RunL.off rfl rfl rfl rfl ?_
          refine RunL.ok (OpOk.pickF rfl rfl) rfl ?_
          refine RunL.ok (OpOk.move rfl) rfl ?_
          refine RunL.on rfl rfl ?_
          refine RunL.ok (OpOk.move rfl) rfl ?_
          refine RunL.on rfl rfl ?_
          refine RunL.ok (OpOk.eql rfl rfl) rfl ?_
          refine RunL.on rfl rfl ?_
          refine RunL.ok (OpOk.move rfl) rfl ?_
          refine RunL.splitD (t := 108) rfl (fun x143 => ?_) (fun x143 => ?_)
          · refine RunL.on rfl rfl ?_
            refine RunL.ok (OpOk.move rfl) rfl ?_
            refine RunL.on rfl rfl ?_
            refine RunL.ok (OpOk.asT (OpOk.eql rfl rfl) (by omega)) rfl ?_
            refine RunL.on rfl rfl ?_
            refine RunL.ok (OpOk.pickT rfl rfl) rfl ?_
            refine RunL.on rfl rfl ?_
            refine RunL.ok (OpOk.move rfl) rfl ?_
            refine RunL.on rfl rfl ?_
            refine RunL.ok (OpOk.move rfl) rfl ?_
            refine RunL.on rfl rfl ?_
            refine RunL.ok (OpOk.asF (OpOk.eql rfl rfl) (by omega)) rfl ?_
            refine RunL.on rfl rfl ?_
            refine RunL.ok (OpOk.pickT rfl rfl) rfl ?_
            refine RunL.ok (OpOk.pickF rfl rfl) rfl ?_
            refine RunL.nil ?_
            refine Run.condF rfl ?_
            refine Run.skip ?_
            refine Run.seq ?_
            refine Run.know (fun w s => (s.conv rfl).ownRd0) (fun rdx144 => ?_)
            (apply Run.drawD [] (by rfl) (sep_emp _).symm; case hchk => kernel_rfl)
            refine Sd.quiet 0 _ _ rfl rfl rfl rfl rfl (QOp.ok (fun X => OpOk.fieldAddr fld34_2 rfl)) ?_
            refine Sd.quiet 1 _ _ rfl rfl rfl rfl rfl (QOp.ok (fun X => OpOk.load rfl rfl rfl (Blk.out Blk.pts.left.left.left.left.left.left.left.left.left _ _ (by first | rfl | assumption)))) ?_
            refine Sd.quiet 2 _ _ rfl rfl rfl rfl rfl (QOp.ok (fun X => OpOk.fieldAddr fld34_1 rfl)) ?_
            refine Sd.quiet 3 _ _ rfl rfl rfl rfl rfl (QOp.ok (fun X => OpOk.load rfl rfl rfl (Blk.out Blk.pts.left.left.left.left.left.left.left.left.left _ _ (by first | rfl | assumption)))) ?_
            refine Sd.quiet 4 _ _ rfl rfl rfl rfl rfl (QOp.ok (fun X => OpOk.move rfl)) ?_
            refine Sd.quiet 5 _ _ rfl rfl rfl rfl rfl (QOp.ok (fun X => OpOk.move rfl)) ?_
            refine Sd.quiet 6 _ _ rfl rfl rfl rfl rfl (QOp.ok (fun X => OpOk.cutM0 rfl ti126 rfl rd.left.left.left.left.left.left.left.left.left.left ⟨_, rfl⟩ ⟨_, rfl⟩ (by omega))) ?_
            refine Sd.quiet 8 _ _ rfl rfl rfl rfl rfl (QOp.ok (fun X => OpOk.fieldAddr fld34_1 rfl)) ?_
            refine Sd.quiet 9 _ _ rfl rfl rfl rfl rfl (QOp.ok (fun X => OpOk.load rfl rfl rfl (Blk.out Blk.pts.left.left.left.left.left.left.left.left.left _ _ (by first | rfl | assumption)))) ?_
            refine Sd.quiet 10 _ _ rfl rfl rfl rfl rfl (QOp.ok (fun X => OpOk.move rfl)) ?_
            refine Sd.quiet 11 _ _ rfl rfl rfl rfl rfl (QOp.ok (fun X => OpOk.cut rfl ti126 rfl rd.left.left.left.left.left.left.left.left.left.left ⟨_, rfl⟩ rfl (by omega) (by omega))) ?_
            (refine Sd.exec 7 rfl rfl rfl rfl rfl ?hrest (by rfl) (fun Xx145 Kx145 hKx145 => ?_); case hrest => kernel_rfl)
            refine RunL.mem (fl2 (sep_emp _) (sep_emp _)) ?_
            refine RunL.call cal19 rfl (s19a rdj.left.left.left.left.left.left.left.left.left rdA.left.left.left.left.left.left.left.left.left (by omega) (by assumption)) rfl (fun vx146 Ax146 hx146 => ?_)
            obtain ⟨x147, rfl⟩ := hx146
            refine RunL.know (fun w s => (s.conv rfl).ownRd0) (fun rdx148 => ?_)
            refine Sd.ret hKx145 (Eq.trans rfl (gp2 (sep_emp _).symm (asg rfl))) ⟨_, (emp_sep _).symm⟩ ?_
            (refine Sd.exec 12 rfl rfl rfl rfl rfl ?hrest (by rfl) (fun Xx149 Kx149 hKx149 => ?_); case hrest => kernel_rfl)
            refine RunL.mem (fl2 (flS rfl) (sep_emp _)) ?_
            refine RunL.call cal19 rfl (s19a (Rd.right rdx148) rdB.left.left.left.left.left.left.left.left.left.left.left (by omega) (by assumption)) rfl (fun vx150 Ax150 hx150 => ?_)
            obtain ⟨x151, rfl⟩ := hx150
            refine RunL.know (fun w s => (s.conv rfl).ownRd0) (fun rdx152 => ?_)
            refine Sd.ret hKx149 (Eq.trans rfl (gp2 (sep_emp _).symm (asg (asg (asg rfl))))) ⟨_, (asg rfl)⟩ ?_
            refine Sd.quiet 13 _ _ rfl rfl rfl rfl rfl (QOp.ok (fun X => OpOk.assign rfl)) ?_
            (apply Sd.tail; case hall => kernel_rfl)
            refine RunL.mem (fl2 (flS (flS (flS rfl))) (sep_emp _)) ?_
            refine RunL.nil ?_
            refine Run.seq ?_
            refine Run.region ?_
            refine RunL.ok (OpOk.move rfl) rfl ?_
            refine RunL.ok (OpOk.fieldAddr fld34_2 rfl) rfl ?_
            refine RunL.ok (OpOk.load rfl rfl rfl (Blk.out Blk.pts.left.left.left.left.left.left.left.left.left.left.left _ _ (by first | rfl | assumption))) rfl ?_
            refine RunL.ok (OpOk.fieldAddr fld34_1 rfl) rfl ?_
            refine RunL.ok (OpOk.load rfl rfl rfl (Blk.out Blk.pts.left.left.left.left.left.left.left.left.left.left.left _ _ (by first | rfl | assumption))) rfl ?_
            refine RunL.call cal19 rfl (s19a rdj.left.left.left.left.left.left.left.left.left.left.left.left rd.left.left.left.left.left.left.left.left.left.left.left.left (by omega) (by assumption)) rfl (fun vx153 Ax153 hx153 => ?_)
            obtain ⟨x154, rfl⟩ := hx153
            refine RunL.know (fun w s => (s.conv rfl).ownRd0) (fun rdx155 => ?_)
            refine RunL.call cal21 rfl (s21 (Rd.right rdx152).left.left (Rd.right rdx155)) rfl (fun vx156 Ax156 hx156 => ?_)
            obtain ⟨rfl, rfl⟩ := hx156
            refine RunL.ok (OpOk.assign rfl) rfl ?_
            refine RunL.nil ?_
            refine Run.ret1 Try.func5 rfl rfl ?_
            rw [decide_eq_true (by first | omega | with_reducible rfl | assumption)]
            exact ⟨rfl, ⟨_, (asg (asg (asg (asg (asg (asg (asg (asg (asg (asg (asg (asg (asg as1)))))))))))))⟩⟩
          refine RunL.off rfl rfl rfl rfl ?_
          refine RunL.off rfl rfl rfl rfl ?_
          refine RunL.on rfl rfl ?_
          refine RunL.ok (OpOk.pickF rfl rfl) rfl ?_
          refine RunL.on rfl rfl ?_
          refine RunL.ok (OpOk.move rfl) rfl ?_
          refine RunL.off rfl rfl rfl rfl ?_
          refine RunL.off rfl rfl rfl rfl ?_
          refine RunL.on rfl rfl ?_
          refine RunL.ok (OpOk.pickF rfl rfl) rfl ?_
          refine RunL.ok (OpOk.pickF rfl rfl) rfl ?_
          refine RunL.nil ?_
          refine Run.condF rfl ?_
          refine Run.skip ?_
          refine Run.seq ?_
          refine Run.know (fun w s => (s.conv rfl).ownRd0) (fun rdx157 => ?_)
          (apply Run.drawD [] (by rfl) (sep_emp _).symm; case hchk => kernel_rfl)
          refine Sd.quiet 0 _ _ rfl rfl rfl rfl rfl (QOp.ok (fun X => OpOk.fieldAddr fld34_2 rfl)) ?_
          refine Sd.quiet 1 _ _ rfl rfl rfl rfl rfl (QOp.ok (fun X => OpOk.load rfl rfl rfl (Blk.out Blk.pts.left.left.left.left.left.left.left.left.left _ _ (by first | rfl | assumption)))) ?_
          refine Sd.quiet 2 _ _ rfl rfl rfl rfl rfl (QOp.ok (fun X => OpOk.fieldAddr fld34_1 rfl)) ?_
          refine Sd.quiet 3 _ _ rfl rfl rfl rfl rfl (QOp.ok (fun X => OpOk.load rfl rfl rfl (Blk.out Blk.pts.left.left.left.left.left.left.left.left.left _ _ (by first | rfl | assumption)))) ?_
          refine Sd.quiet 4 _ _ rfl rfl rfl rfl rfl (QOp.ok (fun X => OpOk.move rfl)) ?_
          refine Sd.quiet 5 _ _ rfl rfl rfl rfl rfl (QOp.ok (fun X => OpOk.move rfl)) ?_
          refine Sd.quiet 6 _ _ rfl rfl rfl rfl rfl (QOp.ok (fun X => OpOk.cutM0 rfl ti126 rfl rd.left.left.left.left.left.left.left.left.left.left ⟨_, rfl⟩ ⟨_, rfl⟩ (by omega))) ?_
          refine Sd.quiet 8 _ _ rfl rfl rfl rfl rfl (QOp.ok (fun X => OpOk.fieldAddr fld34_1 rfl)) ?_
          refine Sd.quiet 9 _ _ rfl rfl rfl rfl rfl (QOp.ok (fun X => OpOk.load rfl rfl rfl (Blk.out Blk.pts.left.left.left.left.left.left.left.left.left _ _ (by first | rfl | assumption)))) ?_
          refine Sd.quiet 10 _ _ rfl rfl rfl rfl rfl (QOp.ok (fun X => OpOk.move rfl)) ?_
          refine Sd.quiet 11 _ _ rfl rfl rfl rfl rfl (QOp.ok (fun X => OpOk.cut rfl ti126 rfl rd.left.left.left.left.left.left.left.left.left.left ⟨_, rfl⟩ rfl (by omega) (by omega))) ?_
          (refine Sd.exec 7 rfl rfl rfl rfl rfl ?hrest (by rfl) (fun Xx158 Kx158 hKx158 => ?_); case hrest => kernel_rfl)
          refine RunL.mem (fl2 (sep_emp _) (sep_emp _)) ?_
          refine RunL.call cal19 rfl (s19a rdj.left.left.left.left.left.left.left.left.left rdA.left.left.left.left.left.left.left.left.left (by omega) (by assumption)) rfl (fun vx159 Ax159 hx159 => ?_)
          obtain ⟨x160, rfl⟩ := hx159
          refine RunL.know (fun w s => (s.conv rfl).ownRd0) (fun rdx161 => ?_)
          refine Sd.ret hKx158 (Eq.trans rfl (gp2 (sep_emp _).symm (asg rfl))) ⟨_, (emp_sep _).symm⟩ ?_
          (refine Sd.exec 12 rfl rfl rfl rfl rfl ?hrest (by rfl) (fun Xx162 Kx162 hKx162 => ?_); case hrest => kernel_rfl)
          refine RunL.mem (fl2 (flS rfl) (sep_emp _)) ?_
          refine RunL.call cal19 rfl (s19a (Rd.right rdx161) rdB.left.left.left.left.left.left.left.left.left.left.left (by omega) (by assumption)) rfl (fun vx163 Ax163 hx163 => ?_)
          obtain ⟨x164, rfl⟩ := hx163
          refine RunL.know (fun w s => (s.conv rfl).ownRd0) (fun rdx165 => ?_)
          refine Sd.ret hKx162 (Eq.trans rfl (gp2 (sep_emp _).symm (asg (asg (asg rfl))))) ⟨_, (asg rfl)⟩ ?_
          refine Sd.quiet 13 _ _ rfl rfl rfl rfl rfl (QOp.ok (fun X => OpOk.assign rfl)) ?_
          (apply Sd.tail; case hall => kernel_rfl)
          refine RunL.mem (fl2 (flS (flS (flS rfl))) (sep_emp _)) ?_
          refine RunL.nil ?_
          refine Run.seq ?_
          refine Run.region ?_
          refine RunL.ok (OpOk.move rfl) rfl ?_
          refine RunL.ok (OpOk.fieldAddr fld34_2 rfl) rfl ?_
          refine RunL.ok (OpOk.load rfl rfl rfl (Blk.out Blk.pts.left.left.left.left.left.left.left.left.left.left.left _ _ (by first | rfl | assumption))) rfl ?_
          refine RunL.ok (OpOk.fieldAddr fld34_1 rfl) rfl ?_
          refine RunL.ok (OpOk.load rfl rfl rfl (Blk.out Blk.pts.left.left.left.left.left.left.left.left.left.left.left _ _ (by first | rfl | assumption))) rfl ?_
          refine RunL.call cal19 rfl (s19a rdj.left.left.left.left.left.left.left.left.left.left.left.left rd.left.left.left.left.left.left.left.left.left.left.left.left (by omega) (by assumption)) rfl (fun vx166 Ax166 hx166 => ?_)
          obtain ⟨x167, rfl⟩ := hx166
          refine RunL.know (fun w s => (s.conv rfl).ownRd0) (fun rdx168 => ?_)
          refine RunL.call cal21 rfl (s21 (Rd.right rdx165).left.left (Rd.right rdx168)) rfl (fun vx169 Ax169 hx169 => ?_)
          obtain ⟨rfl, rfl⟩ := hx169
          refine RunL.ok (OpOk.assign rfl) rfl ?_
          refine RunL.nil ?_
          refine Run.ret1 Try.func5 rfl rfl ?_
          rw [decide_eq_true (by first | omega | with_reducible rfl | assumption)]
          exact ⟨rfl, ⟨_, (asg (asg (asg (asg (asg (asg (asg (asg (asg (asg (asg (asg (asg as1)))))))))))))⟩⟩
        refine RunL.off rfl rfl rfl rfl ?_
        refine RunL.off rfl rfl rfl rfl ?_
        refine RunL.ok (OpOk.pickF rfl rfl) rfl ?_
        refine RunL.ok (OpOk.move rfl) rfl ?_
        refine RunL.off rfl rfl rfl rfl ?_
        refine RunL.off rfl rfl rfl rfl ?_
        refine RunL.ok (OpOk.pickF rfl rfl) rfl ?_
        refine RunL.nil ?_
        refine Run.condF rfl ?_
        refine Run.skip ?_
        refine Run.seq ?_
        refine Run.seq ?_
        refine Run.region ?_
        refine RunL.ok (OpOk.move rfl) rfl ?_
        refine RunL.ok (OpOk.asF (OpOk.eql rfl rfl) (by omega)) rfl ?_
        refine RunL.ok (OpOk.move rfl) rfl ?_
        refine RunL.off rfl rfl rfl rfl ?_
        refine RunL.off rfl rfl rfl rfl ?_
        refine RunL.ok (OpOk.pickF rfl rfl) rfl ?_
        refine RunL.ok (OpOk.move rfl) rfl ?_
        refine RunL.on rfl rfl ?_
        refine RunL.ok (OpOk.move rfl) rfl ?_
        refine RunL.on rfl rfl ?_
        refine RunL.ok (OpOk.eql rfl rfl) rfl ?_
        refine RunL.on rfl rfl ?_
        refine RunL.ok (OpOk.move rfl) rfl ?_
        refine RunL.splitD (t := 108) rfl (fun x170 => ?_) (fun x170 => ?_)
        · refine RunL.on rfl rfl ?_
          refine RunL.ok (OpOk.move rfl) rfl ?_
          refine RunL.on rfl rfl ?_
          refine RunL.ok (OpOk.asF (OpOk.eql rfl rfl) (by omega)) rfl ?_
          refine RunL.on rfl rfl ?_
          refine RunL.ok (OpOk.pickT rfl rfl) rfl ?_
          refine RunL.on rfl rfl ?_
          refine RunL.ok (OpOk.move rfl) rfl ?_
          refine RunL.off rfl rfl rfl rfl ?_
          refine RunL.off rfl rfl rfl rfl ?_
          refine RunL.on rfl rfl ?_
          refine RunL.ok (OpOk.pickF rfl rfl) rfl ?_
          refine RunL.ok (OpOk.pickF rfl rfl) rfl ?_
          refine RunL.nil ?_
          refine Run.condF rfl ?_
          refine Run.skip ?_
          refine Run.seq ?_
          refine Run.know (fun w s => (s.conv rfl).ownRd0) (fun rdx171 => ?_)
          (apply Run.drawD [] (by rfl) (sep_emp _).symm; case hchk => kernel_rfl)
          refine Sd.quiet 0 _ _ rfl rfl rfl rfl rfl (QOp.ok (fun X => OpOk.fieldAddr fld34_2 rfl)) ?_
          refine Sd.quiet 1 _ _ rfl rfl rfl rfl rfl (QOp.ok (fun X => OpOk.load rfl rfl rfl (Blk.out Blk.pts.left.left.left.left.left.left.left.left.left _ _ (by first | rfl | assumption)))) ?_
          refine Sd.quiet 2 _ _ rfl rfl rfl rfl rfl (QOp.ok (fun X => OpOk.fieldAddr fld34_1 rfl)) ?_
          refine Sd.quiet 3 _ _ rfl rfl rfl rfl rfl (QOp.ok (fun X => OpOk.load rfl rfl rfl (Blk.out Blk.pts.left.left.left.left.left.left.left.left.left _ _ (by first | rfl | assumption)))) ?_
          refine Sd.quiet 4 _ _ rfl rfl rfl rfl rfl (QOp.ok (fun X => OpOk.move rfl)) ?_
          refine Sd.quiet 5 _ _ rfl rfl rfl rfl rfl (QOp.ok (fun X => OpOk.move rfl)) ?_
          refine Sd.quiet 6 _ _ rfl rfl rfl rfl rfl (QOp.ok (fun X => OpOk.cutM0 rfl ti126 rfl rd.left.left.left.left.left.left.left.left.left.left ⟨_, rfl⟩ ⟨_, rfl⟩ (by omega))) ?_
          refine Sd.quiet 8 _ _ rfl rfl rfl rfl rfl (QOp.ok (fun X => OpOk.fieldAddr fld34_1 rfl)) ?_
          refine Sd.quiet 9 _ _ rfl rfl rfl rfl rfl (QOp.ok (fun X => OpOk.load rfl rfl rfl (Blk.out Blk.pts.left.left.left.left.left.left.left.left.left _ _ (by first | rfl | assumption)))) ?_
          refine Sd.quiet 10 _ _ rfl rfl rfl rfl rfl (QOp.ok (fun X => OpOk.move rfl)) ?_
          refine Sd.quiet 11 _ _ rfl rfl rfl rfl rfl (QOp.ok (fun X => OpOk.cut rfl ti126 rfl rd.left.left.left.left.left.left.left.left.left.left ⟨_, rfl⟩ rfl (by omega) (by omega))) ?_
          (refine Sd.exec 7 rfl rfl rfl rfl rfl ?hrest (by rfl) (fun Xx172 Kx172 hKx172 => ?_); case hrest => kernel_rfl)
          refine RunL.mem (fl2 (sep_emp _) (sep_emp _)) ?_
          refine RunL.call cal19 rfl (s19a rdj.left.left.left.left.left.left.left.left.left rdA.left.left.left.left.left.left.left.left.left (by omega) (by assumption)) rfl (fun vx173 Ax173 hx173 => ?_)
          obtain ⟨x174, rfl⟩ := hx173
          refine RunL.know (fun w s => (s.conv rfl).ownRd0) (fun rdx175 => ?_)
          refine Sd.ret hKx172 (Eq.trans rfl (gp2 (sep_emp _).symm (asg rfl))) ⟨_, (emp_sep _).symm⟩ ?_
          (refine Sd.exec 12 rfl rfl rfl rfl rfl ?hrest (by rfl) (fun Xx176 Kx176 hKx176 => ?_); case hrest => kernel_rfl)
          refine RunL.mem (fl2 (flS rfl) (sep_emp _)) ?_
          refine RunL.call cal19 rfl (s19a (Rd.right rdx175) rdB.left.left.left.left.left.left.left.left.left.left.left (by omega) (by assumption)) rfl (fun vx177 Ax177 hx177 => ?_)
          obtain ⟨x178, rfl⟩ := hx177
          refine RunL.know (fun w s => (s.conv rfl).ownRd0) (fun rdx179 => ?_)
          refine Sd.ret hKx176 (Eq.trans rfl (gp2 (sep_emp _).symm (asg (asg (asg rfl))))) ⟨_, (asg rfl)⟩ ?_
          refine Sd.quiet 13 _ _ rfl rfl rfl rfl rfl (QOp.ok (fun X => OpOk.assign rfl)) ?_
          (apply Sd.tail; case hall => kernel_rfl)
          refine RunL.mem (fl2 (flS (flS (flS rfl))) (sep_emp _)) ?_
          refine RunL.nil ?_
          refine Run.seq ?_
          refine Run.region ?_
          refine RunL.ok (OpOk.move rfl) rfl ?_
          refine RunL.ok (OpOk.fieldAddr fld34_2 rfl) rfl ?_
          refine RunL.ok (OpOk.load rfl rfl rfl (Blk.out Blk.pts.left.left.left.left.left.left.left.left.left.left.left _ _ (by first | rfl | assumption))) rfl ?_
          refine RunL.ok (OpOk.fieldAddr fld34_1 rfl) rfl ?_
          refine RunL.ok (OpOk.load rfl rfl rfl (Blk.out Blk.pts.left.left.left.left.left.left.left.left.left.left.left _ _ (by first | rfl | assumption))) rfl ?_
          refine RunL.call cal19 rfl (s19a rdj.left.left.left.left.left.left.left.left.left.left.left.left rd.left.left.left.left.left.left.left.left.left.left.left.left (by omega) (by assumption)) rfl (fun vx180 Ax180 hx180 => ?_)
          obtain ⟨x181, rfl⟩ := hx180
          refine RunL.know (fun w s => (s.conv rfl).ownRd0) (fun rdx182 => ?_)
          refine RunL.call cal21 rfl (s21 (Rd.right rdx179).left.left (Rd.right rdx182)) rfl (fun vx183 Ax183 hx183 => ?_)
          obtain ⟨rfl, rfl⟩ := hx183
          refine RunL.ok (OpOk.assign rfl) rfl ?_
          refine RunL.nil ?_
          refine Run.ret1 Try.func5 rfl rfl ?_
          rw [decide_eq_true (by first | omega | with_reducible rfl | assumption)]
          exact ⟨rfl, ⟨_, (asg (asg (asg (asg (asg (asg (asg (asg (asg (asg (asg (asg (asg as1)))))))))))))⟩⟩
        refine RunL.off rfl rfl rfl rfl ?_
        refine RunL.off rfl rfl rfl rfl ?_
        refine RunL.on rfl rfl ?_
        refine RunL.ok (OpOk.pickF rfl rfl) rfl ?_
        refine RunL.on rfl rfl ?_
        refine RunL.ok (OpOk.move rfl) rfl ?_
        refine RunL.off rfl rfl rfl rfl ?_
        refine RunL.off rfl rfl rfl rfl ?_
        refine RunL.on rfl rfl ?_
        refine RunL.ok (OpOk.pickF rfl rfl) rfl ?_
        refine RunL.ok (OpOk.pickF rfl rfl) rfl ?_
        refine RunL.nil ?_
        refine Run.condF rfl ?_
        refine Run.skip ?_
        refine Run.seq ?_
        refine Run.know (fun w s => (s.conv rfl).ownRd0) (fun rdx184 => ?_)
        (apply Run.drawD [] (by rfl) (sep_emp _).symm; case hchk => kernel_rfl)
        refine Sd.quiet 0 _ _ rfl rfl rfl rfl rfl (QOp.ok (fun X => OpOk.fieldAddr fld34_2 rfl)) ?_
        refine Sd.quiet 1 _ _ rfl rfl rfl rfl rfl (QOp.ok (fun X => OpOk.load rfl rfl rfl (Blk.out Blk.pts.left.left.left.left.left.left.left.left.left _ _ (by first | rfl | assumption)))) ?_
        refine Sd.quiet 2 _ _ rfl rfl rfl rfl rfl (QOp.ok (fun X => OpOk.fieldAddr fld34_1 rfl)) ?_
        refine Sd.quiet 3 _ _ rfl rfl rfl rfl rfl (QOp.ok (fun X => OpOk.load rfl rfl rfl (Blk.out Blk.pts.left.left.left.left.left.left.left.left.left _ _ (by first | rfl | assumption)))) ?_
        refine Sd.quiet 4 _ _ rfl rfl rfl rfl rfl (QOp.ok (fun X => OpOk.move rfl)) ?_
        refine Sd.quiet 5 _ _ rfl rfl rfl rfl rfl (QOp.ok (fun X => OpOk.move rfl)) ?_
        refine Sd.quiet 6 _ _ rfl rfl rfl rfl rfl (QOp.ok (fun X => OpOk.cutM0 rfl ti126 rfl rd.left.left.left.left.left.left.left.left.left.left ⟨_, rfl⟩ ⟨_, rfl⟩ (by omega))) ?_
        refine Sd.quiet 8 _ _ rfl rfl rfl rfl rfl (QOp.ok (fun X => OpOk.fieldAddr fld34_1 rfl)) ?_
        refine Sd.quiet 9 _ _ rfl rfl rfl rfl rfl (QOp.ok (fun X => OpOk.load rfl rfl rfl (Blk.out Blk.pts.left.left.left.left.left.left.left.left.left _ _ (by first | rfl | assumption)))) ?_
        refine Sd.quiet 10 _ _ rfl rfl rfl rfl rfl (QOp.ok (fun X => OpOk.move rfl)) ?_
        refine Sd.quiet 11 _ _ rfl rfl rfl rfl rfl (QOp.ok (fun X => OpOk.cut rfl ti126 rfl rd.left.left.left.left.left.left.left.left.left.left ⟨_, rfl⟩ rfl (by omega) (by omega))) ?_
        (refine Sd.exec 7 rfl rfl rfl rfl rfl ?hrest (by rfl) (fun Xx185 Kx185 hKx185 => ?_); case hrest => kernel_rfl)
        refine RunL.mem (fl2 (sep_emp _) (sep_emp _)) ?_
        refine RunL.call cal19 rfl (s19a rdj.left.left.left.left.left.left.left.left.left rdA.left.left.left.left.left.left.left.left.left (by omega) (by assumption)) rfl (fun vx186 Ax186 hx186 => ?_)
        obtain ⟨x187, rfl⟩ := hx186
        refine RunL.know (fun w s => (s.conv rfl).ownRd0) (fun rdx188 => ?_)
        refine Sd.ret hKx185 (Eq.trans rfl (gp2 (sep_emp _).symm (asg rfl))) ⟨_, (emp_sep _).symm⟩ ?_
        (refine Sd.exec 12 rfl rfl rfl rfl rfl ?hrest (by rfl) (fun Xx189 Kx189 hKx189 => ?_); case hrest => kernel_rfl)
        refine RunL.mem (fl2 (flS rfl) (sep_emp _)) ?_
        refine RunL.call cal19 rfl (s19a (Rd.right rdx188) rdB.left.left.left.left.left.left.left.left.left.left.left (by omega) (by assumption)) rfl (fun vx190 Ax190 hx190 => ?_)
        obtain ⟨x191, rfl⟩ := hx190
        refine RunL.know (fun w s => (s.conv rfl).ownRd0) (fun rdx192 => ?_)
        refine Sd.ret hKx189 (Eq.trans rfl (gp2 (sep_emp _).symm (asg (asg (asg rfl))))) ⟨_, (asg rfl)⟩ ?_
        refine Sd.quiet 13 _ _ rfl rfl rfl rfl rfl (QOp.ok (fun X => OpOk.assign rfl)) ?_
        (apply Sd.tail; case hall => kernel_rfl)
        refine RunL.mem (fl2 (flS (flS (flS rfl))) (sep_emp _)) ?_
        refine RunL.nil ?_
        refine Run.seq ?_
        refine Run.region ?_
        refine RunL.ok (OpOk.move rfl) rfl ?_
        refine RunL.ok (OpOk.fieldAddr fld34_2 rfl) rfl ?_
        refine RunL.ok (OpOk.load rfl rfl rfl (Blk.out Blk.pts.left.left.left.left.left.left.left.left.left.left.left _ _ (by first | rfl | assumption))) rfl ?_
        refine RunL.ok (OpOk.fieldAddr fld34_1 rfl) rfl ?_
        refine RunL.ok (OpOk.load rfl rfl rfl (Blk.out Blk.pts.left.left.left.left.left.left.left.left.left.left.left _ _ (by first | rfl | assumption))) rfl ?_
        refine RunL.call cal19 rfl (s19a rdj.left.left.left.left.left.left.left.left.left.left.left.left rd.left.left.left.left.left.left.left.left.left.left.left.left (by omega) (by assumption)) rfl (fun vx193 Ax193 hx193 => ?_)
        obtain ⟨x194, rfl⟩ := hx193
        refine RunL.know (fun w s => (s.conv rfl).ownRd0) (fun rdx195 => ?_)
        refine RunL.call cal21 rfl (s21 (Rd.right rdx192).left.left (Rd.right rdx195)) rfl (fun vx196 Ax196 hx196 => ?_)
        obtain ⟨rfl, rfl⟩ := hx196
        refine RunL.ok (OpOk.assign rfl) rfl ?_
        refine RunL.nil ?_
        refine Run.ret1 Try.func5 rfl rfl ?_
        rw [decide_eq_true (by first | omega | with_reducible rfl | assumption)]
        exact ⟨rfl, ⟨_, (asg (asg (asg (asg (asg (asg (asg (asg (asg (asg (asg (asg (asg as1)))))))))))))⟩⟩
  · refine Spec.of_run [(0, .agg #[.int .i64 ops, sv.1, jv.1, wv.1]), (1, .int .i64 cut)] Try.func5 rfl (Nat.le_of_ble_eq_true rfl) (by repeat (first | exact trivial | refine ⟨rfl, ?_⟩)) ?_
    refine Run.seq ?_
    refine Run.region ?_
    refine RunL.box rfl rfl (fun bx1 => ?_)
    refine RunL.ok (OpOk.assign rfl) rfl ?_
    refine RunL.nil ?_
    refine Run.seq ?_
    refine Run.seq ?_
    refine Run.region ?_
    refine RunL.call cal14 rfl (s14) rfl (fun vx2 Ax2 hx2 => ?_)
    obtain ⟨x3, ⟨rfl, rfl⟩⟩ := hx2
    refine RunL.ok (OpOk.not rfl) rfl ?_
    refine RunL.ok (OpOk.move rfl) rfl ?_
    refine RunL.on rfl rfl ?_
    refine RunL.ok (OpOk.fieldAddr fld34_1 rfl) rfl ?_
    refine RunL.on rfl rfl ?_
    refine RunL.ok (OpOk.load rfl rfl rfl (Blk.out Blk.pts.left _ _ (by first | rfl | assumption))) rfl ?_
    refine RunL.on rfl rfl ?_
    refine RunL.ok (OpOk.lenR rfl rfl rd.left.left rfl) rfl ?_
    refine RunL.on rfl rfl ?_
    refine RunL.ok (OpOk.gtr rfl rfl) rfl ?_
    refine RunL.ok (OpOk.pickF rfl rfl) rfl ?_
    refine RunL.ok (OpOk.move rfl) rfl ?_
    refine RunL.splitD (t := 22) rfl (fun x4 => ?_) (fun x4 => ?_)
    · refine RunL.off rfl rfl rfl rfl ?_
      refine RunL.off rfl rfl rfl rfl ?_
      refine RunL.off rfl rfl rfl rfl ?_
      refine RunL.off rfl rfl rfl rfl ?_
      refine RunL.ok (OpOk.pickT rfl rfl) rfl ?_
      refine RunL.nil ?_
      refine Run.condT rfl ?_
      refine Run.seq ?_
      refine Run.region ?_
      refine RunL.call cal14 rfl (s14) rfl (fun vx5 Ax5 hx5 => ?_)
      obtain ⟨x6, ⟨rfl, rfl⟩⟩ := hx5
      refine RunL.ok (OpOk.assign rfl) rfl ?_
      refine RunL.nil ?_
      refine Run.ret1 Try.func5 rfl rfl ?_
      exact ⟨rfl, ⟨_, (asg (asg as1))⟩⟩
    refine RunL.on rfl rfl ?_
    refine RunL.ok (OpOk.fieldAddr fld34_2 rfl) rfl ?_
    refine RunL.on rfl rfl ?_
    refine RunL.ok (OpOk.load rfl rfl rfl (Blk.out Blk.pts.left _ _ (by first | rfl | assumption))) rfl ?_
    refine RunL.on rfl rfl ?_
    refine RunL.ok (OpOk.lenR rfl rfl rdj.left.left rfl) rfl ?_
    refine RunL.on rfl rfl ?_
    refine RunL.ok (OpOk.asT (OpOk.gtr rfl rfl) (by omega)) rfl ?_
    refine RunL.ok (OpOk.pickF rfl rfl) rfl ?_
    refine RunL.nil ?_
    refine Run.condT rfl ?_
    refine Run.seq ?_
    refine Run.region ?_
    refine RunL.call cal14 rfl (s14) rfl (fun vx7 Ax7 hx7 => ?_)
    obtain ⟨x8, ⟨rfl, rfl⟩⟩ := hx7
    refine RunL.ok (OpOk.assign rfl) rfl ?_
    refine RunL.nil ?_
    refine Run.ret1 Try.func5 rfl rfl ?_
    exact ⟨rfl, ⟨_, (asg (asg as1))⟩⟩
end
end Go.Proofs.Yteopadjihklkmaa
