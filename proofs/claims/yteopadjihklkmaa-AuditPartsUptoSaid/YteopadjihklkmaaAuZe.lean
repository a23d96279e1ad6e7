/- The law AuditSums, walked. -/
import Derived.Test.YteopadjihklkmaaAuZd
namespace Go.Proofs.Yteopadjihklkmaa
open Go Go.Proofs
set_option maxRecDepth 100000
set_option maxHeartbeats 4000000
set_option linter.unusedSimpArgs false
theorem shs_ct {ps qs : List Po} (h : ps.map ct = qs.map ct) : shs ps = shs qs := by
  have e : ∀ l : List Po, shs l = (l.map ct).flatMap fun c => c.2.2 := fun l => by rw [List.flatMap_map]; rfl
  rw [e, e, h]
theorem keyP_ct {ps qs : List Po} (h : ps.map ct = qs.map ct) : ps.map keyP = qs.map keyP := by
  have e : ∀ l : List Po, l.map keyP = (l.map ct).map fun c => (c.1, c.2.1) := fun l => by rw [List.map_map]; rfl
  rw [e, e, h]
theorem in_ct {ps qs : List Po} (h : ps.map ct = qs.map ct) (hin : ∀ q ∈ qs, ∀ s ∈ q.2.2.2, inI s.2) : ∀ q ∈ ps, ∀ s ∈ q.2.2.2, inI s.2 := fun q hq s hs => by
  have : s ∈ shs ps := List.mem_flatMap.2 ⟨q, hq, hs⟩
  rw [shs_ct h] at this
  obtain ⟨p, hp, hsp⟩ := mem_shs this
  exact hin p hp s hsp
section
variable {w0 : World} {A : Asn}
theorem auditSums_spec {ops : Int} {sv jv wv : SV} {ps : List Po} {js ws : List Jn} (rd : Rd w0 (old w0) sv.1 3 ps.length (Fl encT126 ps)) (al : Alls (GP w0) (old w0) ps) (rdj : Rd w0 (old w0) jv.1 10 js.length (Fl encT47 js)) (rdw : Rd w0 (old w0) wv.1 10 ws.length (Fl encT47 ws)) (hin : ∀ q ∈ ps, ∀ s ∈ q.2.2.2, inI s.2) (hm : ∀ q ∈ ps, q.2.2.2.length ≤ 1048576) (hL : (shs ps).length ≤ 1048576) :
    Spec Try.prog w0 4 [.agg #[.int .i64 ops, sv.1, jv.1, wv.1]] (old w0) (fun v' A' => v' = .bool true ∧ Grew (old w0) A') := by
  have hone1 := sv.2
  have hone2 := jv.2
  have hone3 := wv.2
  have hmx := rd.max
  have hmxj := rdj.max
  have hmxw := rdw.max
  rcases Decidable.em (ps.length ≤ 300 ∧ js.length ≤ 300 ∧ ws.length ≤ 300) with hsm | hbig
  · obtain ⟨h1, h2, h3⟩ := hsm
    have hL0 : ps.length ≤ 1099511627776 := by omega
    have hm2 : ∀ q ∈ ps, q.2.2.2.length ≤ 8796093022208 := fun q hq => Nat.le_trans (hm q hq) (by decide)
    refine Spec.of_run [(0, .agg #[.int .i64 ops, sv.1, jv.1, wv.1])] Try.func4 rfl (Nat.le_of_ble_eq_true rfl) (by repeat (first | exact trivial | refine ⟨rfl, ?_⟩)) ?_
    refine Run.seq ?_
    refine Run.region ?_
    refine RunL.box rfl rfl (fun bx1 => ?_)
    refine RunL.ok (OpOk.assign rfl) rfl ?_
    refine RunL.nil ?_
    refine Run.seq ?_
    (apply Run.drawD [] (by rfl) (sep_emp _).symm; case hchk => kernel_rfl)
    refine Sd.quiet 0 _ _ rfl rfl rfl rfl rfl (QOp.ok (fun X => OpOk.fieldAddr fld34_0 rfl)) ?_
    refine Sd.quiet 1 _ _ rfl rfl rfl rfl rfl (QOp.ok (fun X => OpOk.load rfl rfl rfl (Blk.out Blk.pts.left.left _ _ (by first | rfl | assumption)))) ?_
    refine Sd.quiet 2 _ _ rfl rfl rfl rfl rfl (QOp.ok (fun X => OpOk.fieldAddr fld34_1 rfl)) ?_
    refine Sd.quiet 3 _ _ rfl rfl rfl rfl rfl (QOp.ok (fun X => OpOk.load rfl rfl rfl (Blk.out Blk.pts.left.left _ _ (by first | rfl | assumption)))) ?_
    refine Sd.quiet 4 _ _ rfl rfl rfl rfl rfl (QOp.ok (fun X => OpOk.fieldAddr fld34_2 rfl)) ?_
    refine Sd.quiet 5 _ _ rfl rfl rfl rfl rfl (QOp.ok (fun X => OpOk.load rfl rfl rfl (Blk.out Blk.pts.left.left _ _ (by first | rfl | assumption)))) ?_
    refine Sd.quiet 6 _ _ rfl rfl rfl rfl rfl (QOp.ok (fun X => OpOk.fieldAddr fld34_3 rfl)) ?_
    refine Sd.quiet 7 _ _ rfl rfl rfl rfl rfl (QOp.ok (fun X => OpOk.load rfl rfl rfl (Blk.out Blk.pts.left.left _ _ (by first | rfl | assumption)))) ?_
    refine Sd.quiet 8 _ _ rfl rfl rfl rfl rfl (QOp.ok (fun X => OpOk.assign rfl)) ?_
    refine Sd.quiet 9 _ _ rfl rfl rfl rfl rfl (QOp.ok (fun X => OpOk.assign rfl)) ?_
    refine Sd.quiet 10 _ _ rfl rfl rfl rfl rfl (QOp.ok (fun X => OpOk.assign rfl)) ?_
    refine Sd.quiet 11 _ _ rfl rfl rfl rfl rfl (QOp.ok (fun X => OpOk.assign rfl)) ?_
    (apply Sd.tail; case hall => kernel_rfl)
    refine RunL.mem (fl2 (sep_emp _) (sep_emp _)) ?_
    refine RunL.nil ?_
    refine Run.seq ?_
    refine Run.seq ?_
    refine Run.region ?_
    refine RunL.call cal14 rfl (s14) rfl (fun vx2 Ax2 hx2 => ?_)
    obtain ⟨x3, ⟨rfl, rfl⟩⟩ := hx2
    refine RunL.ok (OpOk.not rfl) rfl ?_
    refine RunL.ok (OpOk.move rfl) rfl ?_
    refine RunL.on rfl rfl ?_
    refine RunL.ok (OpOk.move rfl) rfl ?_
    refine RunL.on rfl rfl ?_
    refine RunL.ok (OpOk.lenR rfl rfl rd.left.left rfl) rfl ?_
    refine RunL.on rfl rfl ?_
    refine RunL.ok (OpOk.asF (OpOk.gtr rfl rfl) (by omega)) rfl ?_
    refine RunL.ok (OpOk.pickF rfl rfl) rfl ?_
    refine RunL.ok (OpOk.move rfl) rfl ?_
    refine RunL.on rfl rfl ?_
    refine RunL.ok (OpOk.move rfl) rfl ?_
    refine RunL.on rfl rfl ?_
    refine RunL.ok (OpOk.lenR rfl rfl rdj.left.left rfl) rfl ?_
    refine RunL.on rfl rfl ?_
    refine RunL.ok (OpOk.asF (OpOk.gtr rfl rfl) (by omega)) rfl ?_
    refine RunL.ok (OpOk.pickF rfl rfl) rfl ?_
    refine RunL.ok (OpOk.move rfl) rfl ?_
    refine RunL.on rfl rfl ?_
    refine RunL.ok (OpOk.move rfl) rfl ?_
    refine RunL.on rfl rfl ?_
    refine RunL.ok (OpOk.lenR rfl rfl rdw.left.left rfl) rfl ?_
    refine RunL.on rfl rfl ?_
    refine RunL.ok (OpOk.asF (OpOk.gtr rfl rfl) (by omega)) rfl ?_
    refine RunL.ok (OpOk.pickF rfl rfl) rfl ?_
    refine RunL.nil ?_
    refine Run.condF rfl ?_
    refine Run.skip ?_
    refine Run.seq ?_
    refine Run.region ?_
    refine RunL.ok (OpOk.move rfl) rfl ?_
    refine RunL.ok (OpOk.move rfl) rfl ?_
    refine RunL.call cal16 rfl (s16 rd.left.left al.left.left (by assumption) (by assumption)) rfl (fun vx4 Ax4 hx4 => ?_)
    obtain ⟨x5, ⟨x6, ⟨x7, rfl⟩⟩⟩ := hx4
    refine RunL.know (fun w s => (s.conv rfl).ownsP0) (fun alx8 => ?_)
    refine RunL.know (fun w s => (s.conv (frl rfl)).ownRd0) (fun rdx9 => ?_)
    have hin5 := in_ct x7 hin
    have hs5 := shs_ct x7
    have hL5 : (shs x5).length ≤ 1048576 := by rw [hs5]; exact hL
    refine RunL.call cal17 rfl (s17c (Rd.right rdx9).left (Alls.right alx8) (by assumption) (by assumption) (by assumption)) rfl (fun vy2 Ay2 hy2 => ?_)
    obtain ⟨y3, ⟨y4, ⟨rfl, rfl⟩⟩⟩ := hy2
    refine RunL.ok (OpOk.move rfl) rfl ?_
    refine RunL.ok (OpOk.ext20 rfl) rfl ?_
    refine RunL.ok (OpOk.ext21 rfl) rfl ?_
    refine RunL.ok (OpOk.assign rfl) rfl ?_
    refine RunL.ok (OpOk.assign rfl) rfl ?_
    refine RunL.nil ?_
    refine Run.seq ?_
    refine Run.region ?_
    refine RunL.ok (OpOk.move rfl) rfl ?_
    refine RunL.ok (OpOk.move rfl) rfl ?_
    refine RunL.call cal18 rfl (s18 rd.left.left.left.left.left.left.left al.left.left.left.left.left.left.left (by assumption) (by assumption)) rfl (fun vy5 Ay5 hy5 => ?_)
    obtain ⟨y6, ⟨y7, ⟨rfl, rfl⟩⟩⟩ := hy5
    refine RunL.ok (OpOk.move rfl) rfl ?_
    refine RunL.ok (OpOk.ext20 rfl) rfl ?_
    refine RunL.ok (OpOk.ext21 rfl) rfl ?_
    refine RunL.ok (OpOk.assign rfl) rfl ?_
    refine RunL.ok (OpOk.assign rfl) rfl ?_
    refine RunL.nil ?_
    refine Run.seq ?_
    refine Run.region ?_
    refine RunL.lit0 rfl ti47 rfl (fun vy8 rdy8 => ?_)
    refine RunL.ok (OpOk.move rfl) rfl ?_
    refine RunL.appendF0 rfl ti47 rfl rfl rfl rfl rdj.left.left.left.left.left.left.left.left.left.left rfl (by decide) (by omega) (by simp only [maxLen]; omega) rfl (fun vy9 rdy9 => ?_)
    refine RunL.ok (OpOk.assign rfl) rfl ?_
    refine RunL.nil ?_
    refine Run.seq ?_
    refine Run.region ?_
    refine RunL.ok (OpOk.move rfl) rfl ?_
    refine RunL.ok (OpOk.move rfl) rfl ?_
    refine RunL.call cal16 rfl (s16 rd.left.left.left.left.left.left.left.left.left.left al.left.left.left.left.left.left.left.left.left.left (by assumption) (by assumption)) rfl (fun vy10 Ay10 hy10 => ?_)
    obtain ⟨y11, ⟨y12, ⟨y13, rfl⟩⟩⟩ := hy10
    refine RunL.lit0 rfl ti47 rfl (fun vy14 rdy14 => ?_)
    refine RunL.ok (OpOk.move rfl) rfl ?_
    refine RunL.appendF0 rfl ti47 rfl rfl rfl rfl rdw.left.left.left.left.left.left.left.left.left.left.left.left.left.left rfl (by decide) (by omega) (by simp only [maxLen]; omega) rfl (fun vy15 rdy15 => ?_)
    refine RunL.know (fun w s => (s.conv (frl rfl)).ownsP0) (fun aly16 => ?_)
    refine RunL.know (fun w s => (s.conv (frl (frl (frl (frl rfl))))).ownRd0) (fun rdy17 => ?_)
    refine RunL.know (fun w s => (s.conv (frl (frl rfl))).ownRd0) (fun rdy18 => ?_)
    refine RunL.know (fun w s => (s.conv rfl).ownRd0) (fun rdy19 => ?_)
    have hk10 : KeysAre y11 (ps.map keyP) := ⟨keyP_ct y13⟩
    have ho := missF_len (ps.map keyP ++ ws.map keyJ) js
    refine RunL.call cal19 rfl (s19 (Rd.right rdy17).left.left.left.left (Rd.right rdy18).left.left (Rd.right rdy19) (by omega) (by assumption)) rfl (fun vz1 Az1 hz1 => ?_)
    obtain ⟨z2, rfl⟩ := hz1
    refine RunL.ok (OpOk.assign rfl) rfl ?_
    refine RunL.nil ?_
    refine Run.seq ?_
    refine Run.seq ?_
    refine Run.region ?_
    refine RunL.ok (OpOk.move rfl) rfl ?_
    refine RunL.ok (OpOk.move rfl) rfl ?_
    refine RunL.know (fun w s => (s.conv (frl (frl (frl (frl (frl (frl (frl (frl (frl rfl)))))))))).ownRd0) (fun rdz3 => ?_)
    refine RunL.know (fun w s => (s.conv (frl (frl (frl (frl (frl (frl (frl rfl)))))))).ownRd0) (fun rdz4 => ?_)
    refine RunL.call cal20 rfl (s20 (Rd.right rdz3).left.left.left.left.left.left.left.left.left (Rd.right rdz4).left.left.left.left.left.left.left) rfl (fun vz5 Az5 hz5 => ?_)
    obtain ⟨rfl, rfl⟩ := hz5
    refine RunL.ok (OpOk.not rfl) rfl ?_
    refine RunL.ok (OpOk.move rfl) rfl ?_
    refine RunL.splitNF (t := 67) rfl (by first | omega | with_reducible rfl | assumption) ?_
    refine RunL.on rfl rfl ?_
    refine RunL.ok (OpOk.move rfl) rfl ?_
    refine RunL.on rfl rfl ?_
    refine RunL.ok (OpOk.move rfl) rfl ?_
    refine RunL.on rfl rfl ?_
    refine RunL.ok (OpOk.as (c := false) (OpOk.neq rfl rfl) (by rw [decide_eq_true (by omega)]; rfl)) rfl ?_
    refine RunL.ok (OpOk.pickF rfl rfl) rfl ?_
    refine RunL.ok (OpOk.move rfl) rfl ?_
    refine RunL.on rfl rfl ?_
    refine RunL.ok (OpOk.move rfl) rfl ?_
    refine RunL.on rfl rfl ?_
    refine RunL.ok (OpOk.move rfl) rfl ?_
    refine RunL.on rfl rfl ?_
    refine RunL.ok (OpOk.move rfl) rfl ?_
    refine RunL.on rfl rfl ?_
    refine RunL.ok (OpOk.move rfl) rfl ?_
    refine RunL.on rfl rfl ?_
    refine RunL.call cal22 rfl (s22 rdj.left.left.left.left.left.left.left.left.left.left.left.left.left.left.left.left rd.left.left.left.left.left.left.left.left.left.left.left.left.left.left.left.left rdw.left.left.left.left.left.left.left.left.left.left.left.left.left.left.left.left (by omega)) rfl (fun vz7 Az7 hz7 => ?_)
    obtain ⟨z8, rfl⟩ := hz7
    refine RunL.on rfl rfl ?_
    refine RunL.know (fun w s => (s.conv (frl (frl rfl))).ownRd0) (fun rdz9 => ?_)
    refine RunL.know (fun w s => (s.conv rfl).ownRd0) (fun rdz10 => ?_)
    refine RunL.call cal21 rfl (s21 (Rd.right rdz9).left.left (Rd.right rdz10)) rfl (fun vz11 Az11 hz11 => ?_)
    obtain ⟨rfl, rfl⟩ := hz11
    refine RunL.on rfl rfl ?_
    refine RunL.ok (OpOk.not rfl) rfl ?_
    refine RunL.ok (OpOk.pickF rfl rfl) rfl ?_
    refine RunL.ok (OpOk.move rfl) rfl ?_
    refine RunL.splitNF (t := 81) rfl (by first | omega | with_reducible rfl | assumption) ?_
    refine RunL.on rfl rfl ?_
    refine RunL.ok (OpOk.move rfl) rfl ?_
    refine RunL.on rfl rfl ?_
    refine RunL.ok (OpOk.move rfl) rfl ?_
    refine RunL.on rfl rfl ?_
    refine RunL.call cal21 rfl (s21 (Rd.right rdy17).left.left.left.left.left.left.left.left rdj.left.left.left.left.left.left.left.left.left.left.left.left.left.left.left.left.left.left) rfl (fun vz13 Az13 hz13 => ?_)
    obtain ⟨rfl, rfl⟩ := hz13
    refine RunL.on rfl rfl ?_
    refine RunL.ok (OpOk.not rfl) rfl ?_
    refine RunL.ok (OpOk.pickF rfl rfl) rfl ?_
    refine RunL.nil ?_
    refine Run.condNF rfl (by first | omega | with_reducible rfl | assumption) ?_
    refine Run.skip ?_
    refine Run.seq ?_
    refine Run.seq ?_
    refine Run.region ?_
    refine RunL.ok (OpOk.assign rfl) rfl ?_
    refine RunL.nil ?_
    refine Run.block ?_
    refine Run.jump ((Run.loopJ (X := Nat × Asn × List Jn) (fun x => [(13, .int .i64 (x.1 : Int)), (12, vz1), (11, vy9), (5, jv.1)]) (fun x => old w0 * x.2.1 * own 47 10 vy9 js.length (Fl encT47 js) * own 47 10 vz1 (missF (ps.map keyP ++ ws.map keyJ) js).length (Fl encT47 x.2.2)) (fun x => x.1 ≤ (missF (ps.map keyP ++ ws.map keyJ) js).length ∧ x.2.2.length = (missF (ps.map keyP ++ ws.map keyJ) js).length) (fun x => (missF (ps.map keyP ++ ws.map keyJ) js).length - x.1) (0, _, missF (ps.map keyP ++ ws.map keyJ) js) ⟨Nat.zero_le _, rfl⟩ (fun x hx ih => ?_))) ⟨rfl, rfl, rfl, rfl, trivial⟩ (Grew.of (Eq.trans (frc (frl (frl rfl)) (frc (frl (frl (frl (frl (frl (frl (frl rfl))))))) rfl)) (congrArg (· * _) (congrArg (· * _) (asg (asg (asg (asg (asg (asg (asg (asg (asg (asg (asg (asg (asg (asg (asg as1)))))))))))))))))) (Grew.refl _))
    obtain ⟨i, J, cur⟩ := x
    simp only at hx ih ⊢
    obtain ⟨hi, hcl⟩ := hx
    rcases Nat.lt_or_ge i (missF (ps.map keyP ++ ws.map keyJ) js).length with hlt | hge
    · refine Run.seq ?_
      refine Run.seq ?_
      refine Run.region ?_
      refine RunL.ok (OpOk.move rfl) rfl ?_
      refine RunL.ok (OpOk.move rfl) rfl ?_
      refine RunL.know (fun w s => (s.conv rfl).ownRd0) (fun rdq1 => ?_)
      refine RunL.ok (OpOk.lenR rfl rfl (Rd.right rdq1) rfl) rfl ?_
      refine RunL.ok (OpOk.asT (OpOk.lss rfl rfl) (by omega)) rfl ?_
      refine RunL.nil ?_
      refine Run.condT rfl ?_
      refine Run.skip ?_
      refine Run.seq ?_
      refine Run.block ?_
      refine Run.region ?_
      refine RunL.ok (OpOk.move rfl) rfl ?_
      refine RunL.ok (OpOk.move rfl) rfl ?_
      refine RunL.ok (OpOk.build rfl (fun w => run_build w 47 _ _ (by rfl))) rfl ?_
      refine RunL.ok (OpOk.idxN rfl ti47 rfl (Rd.right rdq1) rfl (by omega)) rfl ?_
      refine RunL.storeFl (enc := encT47) ((0, (0, (0, (0, (0, (0, (0, (0, (0, 0)))))))))) ti47 rfl rfl rfl (fun _ => rfl) rfl rfl (by first | omega | (simp; omega)) (by omega) ?_
      refine RunL.nil ?_
      refine Run.inBlock ?_
      refine Run.region ?_
      refine RunL.ok (OpOk.move rfl) rfl ?_
      refine RunL.ok (OpOk.addN _ 1 rfl rfl rfl rfl (by omega)) rfl ?_
      refine RunL.ok (OpOk.assign rfl) rfl ?_
      refine RunL.nil ?_
      refine Run.jump ((ih (i + 1, _, cur.set i (0, 0, 0, 0, 0, 0, 0, 0, 0, 0)) ⟨by dsimp only; omega, by dsimp only; rw [List.length_set]; exact hcl⟩ (by dsimp only; omega))) ⟨rfl, rfl, rfl, rfl, trivial⟩ (Grew.of (congrArg (· * _) (congrArg (· * _) as1)) (Grew.refl _))
    · obtain rfl : i = (missF (ps.map keyP ++ ws.map keyJ) js).length := by omega
      clear ih
      refine Run.seq ?_
      refine Run.seq ?_
      refine Run.region ?_
      refine RunL.ok (OpOk.move rfl) rfl ?_
      refine RunL.ok (OpOk.move rfl) rfl ?_
      refine RunL.know (fun w s => (s.conv rfl).ownRd0) (fun rdq1 => ?_)
      refine RunL.ok (OpOk.lenR rfl rfl (Rd.right rdq1) rfl) rfl ?_
      refine RunL.ok (OpOk.asF (OpOk.lss rfl rfl) (by omega)) rfl ?_
      refine RunL.nil ?_
      refine Run.condF rfl ?_
      refine Run.exit rfl ?_
      refine Run.seq ?_
      refine Run.region ?_
      refine RunL.ok (OpOk.move rfl) rfl ?_
      refine RunL.ok (OpOk.move rfl) rfl ?_
      refine RunL.call cal21 rfl (s21 (Rd.right rdy17).left rdj.left.left.left) rfl (fun vq2 Aq2 hq2 => ?_)
      obtain ⟨rfl, rfl⟩ := hq2
      refine RunL.ok (OpOk.assign rfl) rfl ?_
      refine RunL.nil ?_
      refine Run.ret1 Try.func4 rfl rfl ?_
      rw [decide_eq_true (by first | omega | with_reducible rfl | assumption)]
      exact ⟨rfl, ⟨_, (asg (asg as1))⟩⟩
  · refine Spec.of_run [(0, .agg #[.int .i64 ops, sv.1, jv.1, wv.1])] Try.func4 rfl (Nat.le_of_ble_eq_true rfl) (by repeat (first | exact trivial | refine ⟨rfl, ?_⟩)) ?_
    refine Run.seq ?_
    refine Run.region ?_
    refine RunL.box rfl rfl (fun bx1 => ?_)
    refine RunL.ok (OpOk.assign rfl) rfl ?_
    refine RunL.nil ?_
    refine Run.seq ?_
    (apply Run.drawD [] (by rfl) (sep_emp _).symm; case hchk => kernel_rfl)
    refine Sd.quiet 0 _ _ rfl rfl rfl rfl rfl (QOp.ok (fun X => OpOk.fieldAddr fld34_0 rfl)) ?_
    refine Sd.quiet 1 _ _ rfl rfl rfl rfl rfl (QOp.ok (fun X => OpOk.load rfl rfl rfl (Blk.out Blk.pts.left.left _ _ (by first | rfl | assumption)))) ?_
    refine Sd.quiet 2 _ _ rfl rfl rfl rfl rfl (QOp.ok (fun X => OpOk.fieldAddr fld34_1 rfl)) ?_
    refine Sd.quiet 3 _ _ rfl rfl rfl rfl rfl (QOp.ok (fun X => OpOk.load rfl rfl rfl (Blk.out Blk.pts.left.left _ _ (by first | rfl | assumption)))) ?_
    refine Sd.quiet 4 _ _ rfl rfl rfl rfl rfl (QOp.ok (fun X => OpOk.fieldAddr fld34_2 rfl)) ?_
    refine Sd.quiet 5 _ _ rfl rfl rfl rfl rfl (QOp.ok (fun X => OpOk.load rfl rfl rfl (Blk.out Blk.pts.left.left _ _ (by first | rfl | assumption)))) ?_
    refine Sd.quiet 6 _ _ rfl rfl rfl rfl rfl (QOp.ok (fun X => OpOk.fieldAddr fld34_3 rfl)) ?_
    refine Sd.quiet 7 _ _ rfl rfl rfl rfl rfl (QOp.ok (fun X => OpOk.load rfl rfl rfl (Blk.out Blk.pts.left.left _ _ (by first | rfl | assumption)))) ?_
    refine Sd.quiet 8 _ _ rfl rfl rfl rfl rfl (QOp.ok (fun X => OpOk.assign rfl)) ?_
    refine Sd.quiet 9 _ _ rfl rfl rfl rfl rfl (QOp.ok (fun X => OpOk.assign rfl)) ?_
    refine Sd.quiet 10 _ _ rfl rfl rfl rfl rfl (QOp.ok (fun X => OpOk.assign rfl)) ?_
    refine Sd.quiet 11 _ _ rfl rfl rfl rfl rfl (QOp.ok (fun X => OpOk.assign rfl)) ?_
    (apply Sd.tail; case hall => kernel_rfl)
    refine RunL.mem (fl2 (sep_emp _) (sep_emp _)) ?_
    refine RunL.nil ?_
    refine Run.seq ?_
    refine Run.seq ?_
    refine Run.region ?_
    refine RunL.call cal14 rfl (s14) rfl (fun vx2 Ax2 hx2 => ?_)
    obtain ⟨x3, ⟨rfl, rfl⟩⟩ := hx2
    refine RunL.ok (OpOk.not rfl) rfl ?_
    refine RunL.ok (OpOk.move rfl) rfl ?_
    refine RunL.on rfl rfl ?_
    refine RunL.ok (OpOk.move rfl) rfl ?_
    refine RunL.on rfl rfl ?_
    refine RunL.ok (OpOk.lenR rfl rfl rd.left.left rfl) rfl ?_
    refine RunL.on rfl rfl ?_
    refine RunL.ok (OpOk.gtr rfl rfl) rfl ?_
    refine RunL.ok (OpOk.pickF rfl rfl) rfl ?_
    refine RunL.ok (OpOk.move rfl) rfl ?_
    refine RunL.splitD (t := 29) rfl (fun x4 => ?_) (fun x4 => ?_)
    · refine RunL.off rfl rfl rfl rfl ?_
      refine RunL.off rfl rfl rfl rfl ?_
      refine RunL.off rfl rfl rfl rfl ?_
      refine RunL.ok (OpOk.pickT rfl rfl) rfl ?_
      refine RunL.ok (OpOk.move rfl) rfl ?_
      refine RunL.off rfl rfl rfl rfl ?_
      refine RunL.off rfl rfl rfl rfl ?_
      refine RunL.off rfl rfl rfl rfl ?_
      refine RunL.ok (OpOk.pickT rfl rfl) rfl ?_
      refine RunL.nil ?_
      refine Run.condT rfl ?_
      refine Run.seq ?_
      refine Run.region ?_
      refine RunL.call cal14 rfl (s14) rfl (fun vx5 Ax5 hx5 => ?_)
      obtain ⟨x6, ⟨rfl, rfl⟩⟩ := hx5
      refine RunL.ok (OpOk.assign rfl) rfl ?_
      refine RunL.nil ?_
      refine Run.ret1 Try.func4 rfl rfl ?_
      exact ⟨rfl, ⟨_, (asg (asg as1))⟩⟩
    refine RunL.on rfl rfl ?_
    refine RunL.ok (OpOk.move rfl) rfl ?_
    refine RunL.on rfl rfl ?_
    refine RunL.ok (OpOk.lenR rfl rfl rdj.left.left rfl) rfl ?_
    refine RunL.on rfl rfl ?_
    refine RunL.ok (OpOk.gtr rfl rfl) rfl ?_
    refine RunL.ok (OpOk.pickF rfl rfl) rfl ?_
    refine RunL.ok (OpOk.move rfl) rfl ?_
    refine RunL.splitD (t := 34) rfl (fun x7 => ?_) (fun x7 => ?_)
    · refine RunL.off rfl rfl rfl rfl ?_
      refine RunL.off rfl rfl rfl rfl ?_
      refine RunL.off rfl rfl rfl rfl ?_
      refine RunL.ok (OpOk.pickT rfl rfl) rfl ?_
      refine RunL.nil ?_
      refine Run.condT rfl ?_
      refine Run.seq ?_
      refine Run.region ?_
      refine RunL.call cal14 rfl (s14) rfl (fun vx8 Ax8 hx8 => ?_)
      obtain ⟨x9, ⟨rfl, rfl⟩⟩ := hx8
      refine RunL.ok (OpOk.assign rfl) rfl ?_
      refine RunL.nil ?_
      refine Run.ret1 Try.func4 rfl rfl ?_
      exact ⟨rfl, ⟨_, (asg (asg as1))⟩⟩
    refine RunL.on rfl rfl ?_
    refine RunL.ok (OpOk.move rfl) rfl ?_
    refine RunL.on rfl rfl ?_
    refine RunL.ok (OpOk.lenR rfl rfl rdw.left.left rfl) rfl ?_
    refine RunL.on rfl rfl ?_
    refine RunL.ok (OpOk.asT (OpOk.gtr rfl rfl) (by omega)) rfl ?_
    refine RunL.ok (OpOk.pickF rfl rfl) rfl ?_
    refine RunL.nil ?_
    refine Run.condT rfl ?_
    refine Run.seq ?_
    refine Run.region ?_
    refine RunL.call cal14 rfl (s14) rfl (fun vx10 Ax10 hx10 => ?_)
    obtain ⟨x11, ⟨rfl, rfl⟩⟩ := hx10
    refine RunL.ok (OpOk.assign rfl) rfl ?_
    refine RunL.nil ?_
    refine Run.ret1 Try.func4 rfl rfl ?_
    exact ⟨rfl, ⟨_, (asg (asg as1))⟩⟩
end
end Go.Proofs.Yteopadjihklkmaa
