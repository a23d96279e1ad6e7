/- The law of packs, walked. -/
import Derived.Test.YtajjmephfoaiaaaSpG
namespace Go.Proofs.Ytajjmephfoaiaaa
open Go Go.Proofs
set_option maxRecDepth 100000
set_option maxHeartbeats 4000000
theorem pack_right {ss : List (Int × Int)} (h : ss.all rightS = true) : packE ss = 0 ∧ packL ss = foursB ss ∧ unpE (packL ss) = 0 ∧ unpL (packL ss) = ss := by
  have e := packL_fours h
  have := unp_fours h
  rw [e]
  exact ⟨by simp [packE, h], rfl, this⟩
theorem pack_wrong {ss : List (Int × Int)} (h : ss.all rightS = false) : packE ss = 2 ∧ packL ss = [] := by simp [packE, packL, h]
theorem stampPacks_spec {w0 : World} {u1 u2 : Value} {ss : List (Int × Int)} {bs : List UInt8} (rd : Rd w0 (old w0) u1 2 ss.length (Fl encF ss)) (rd2 : Rd w0 (old w0) u2 1 bs.length (B bs)) (hs1 : ss.length ≤ 8796093022208) (hs2 : bs.length ≤ 35184372088832) :
    Spec Try.prog w0 14 [u1, u2] (old w0) (fun v' A' => v' = .bool true ∧ Grew (old w0) A') := by
  refine Spec.of_run [(0, u1), (1, u2)] Try.func14 rfl (Nat.le_of_ble_eq_true rfl) (by repeat (first | exact trivial | refine ⟨rfl, ?_⟩)) ?_
  have hb1 := pack_right (unp_right (bs := bs))
  have hb2 := hb1.1
  have hul : (unpL bs).length ≤ bs.length / 4 := by
    unfold unpL
    split
    · simp
    · simp
  refine Run.seq ?_
  refine Run.region ?_
  refine RunL.ok (OpOk.assign rfl) rfl ?_
  refine RunL.nil ?_
  refine Run.seq ?_
  refine Run.seq ?_
  refine Run.region ?_
  refine RunL.call cal19 rfl (s19) rfl (fun vx1 Ax1 hx1 => ?_)
  obtain ⟨x2, ⟨rfl, rfl⟩⟩ := hx1
  refine RunL.ok (OpOk.not rfl) rfl ?_
  refine RunL.nil ?_
  refine Run.condF rfl ?_
  refine Run.skip ?_
  refine Run.seq ?_
  refine Run.region ?_
  refine RunL.ok (OpOk.assign rfl) rfl ?_
  refine RunL.nil ?_
  refine Run.seq ?_
  refine Run.region ?_
  refine RunL.ok (OpOk.assign rfl) rfl ?_
  refine RunL.nil ?_
  refine Run.seq ?_
  refine Run.seq ?_
  refine Run.region ?_
  refine RunL.ok (OpOk.assign rfl) rfl ?_
  refine RunL.nil ?_
  refine Run.block ?_
  refine Run.ent (Ent.ownNil' _ 5 1 (B []) rfl) ?_
  refine Run.jump ((Run.loopJ (X := Nat × Asn × Value × List UInt8) (fun x => [(0, u1), (1, u2), (5, .bool ((ss.take x.1).all rightS)), (6, x.2.2.1), (7, .int .i64 (x.1 : Int))]) (fun x => old w0 * x.2.1 * own 5 1 x.2.2.1 (4 * x.1) (B x.2.2.2)) (fun x => x.1 ≤ ss.length ∧ x.2.2.2.length = 4 * x.1 ∧ ((ss.take x.1).all rightS = true → x.2.2.2 = foursB (ss.take x.1))) (fun x => ss.length - x.1) (0, x2, .slice none 0 0, []) ⟨Nat.zero_le _, rfl, fun _ => rfl⟩ (fun x hx ih => ?_))) ⟨rfl, rfl, rfl, rfl, rfl, trivial⟩ ((Grew.refl _))
  obtain ⟨i, J, v, zs⟩ := x
  simp only at hx ih ⊢
  obtain ⟨hi, hzl, hz⟩ := hx
  rcases Nat.lt_or_ge i ss.length with hlt | hge
  · have hn : foursB (ss.take i) ++ fourB ((ss.getD i default).1, (ss.getD i default).2) = foursB (ss.take (i + 1)) := by rw [take_next hlt, foursB_append]; simp [foursB]
    have hal : (ss.take (i + 1)).all rightS = ((ss.take i).all rightS && right (ss.getD i default).1 (ss.getD i default).2) := by rw [take_next hlt, List.all_append]; simp [rightS]
    refine Run.seq ?_
    refine Run.seq ?_
    refine Run.region ?_
    refine RunL.ok (OpOk.move rfl) rfl ?_
    refine RunL.ok (OpOk.move rfl) rfl ?_
    refine RunL.ok (OpOk.lenR rfl rfl rd.left.left rfl) rfl ?_
    refine RunL.ok (OpOk.asT (OpOk.lss rfl rfl) (by omega)) rfl ?_
    refine RunL.nil ?_
    refine Run.condT rfl ?_
    refine Run.skip ?_
    refine Run.seq ?_
    refine Run.block ?_
    refine Run.seq ?_
    refine Run.region ?_
    refine RunL.ok (OpOk.move rfl) rfl ?_
    refine RunL.ok (OpOk.move rfl) rfl ?_
    refine RunL.splitB (t := 28) rfl (fun y1 => ?_) (fun y1 => ?_)
    · refine RunL.on rfl rfl ?_
      refine RunL.ok (OpOk.move rfl) rfl ?_
      refine RunL.on rfl rfl ?_
      refine RunL.ok (OpOk.move rfl) rfl ?_
      refine RunL.on rfl rfl ?_
      refine RunL.ok (OpOk.idxN rfl ti29 rfl rd.left.left rfl (by omega)) rfl ?_
      refine RunL.on rfl rfl ?_
      refine RunL.ok (OpOk.loadFl default rfl rfl ti29 rfl rd.left.left (fun _ => rfl) rfl (by omega)) rfl ?_
      refine RunL.on rfl rfl ?_
      refine RunL.call cal23 rfl (s23) rfl (fun vy2 Ay2 hy2 => ?_)
      obtain ⟨rfl, rfl⟩ := hy2
      refine RunL.ok (OpOk.pickT rfl rfl) rfl ?_
      refine RunL.ok (OpOk.assign rfl) rfl ?_
      refine RunL.nil ?_
      refine Run.seq ?_
      refine Run.seq ?_
      refine Run.know (fun w s => (s.conv rfl).ownRd0) (fun rdy3 => ?_)
      (apply Run.drawD [] (by rfl) (sep_emp _).symm; case hchk => kernel_rfl)
      refine Sd.quiet 0 _ _ rfl rfl rfl rfl rfl (QOp.ok (fun X => OpOk.move rfl)) ?_
      refine Sd.quiet 1 _ _ rfl rfl rfl rfl rfl (QOp.ok (fun X => OpOk.move rfl)) ?_
      refine Sd.quiet 2 _ _ rfl rfl rfl rfl rfl (QOp.ok (fun X => OpOk.idxN rfl ti29 rfl rd.left.left.left.left rfl (by omega))) ?_
      refine Sd.quiet 3 _ _ rfl rfl rfl rfl rfl (QOp.ok (fun X => OpOk.loadFl default rfl rfl ti29 rfl rd.left.left.left.left (fun _ => rfl) rfl (by omega))) ?_
      refine Sd.quiet 4 _ _ rfl rfl rfl rfl rfl (QOp.call cal29 rfl (fun X => s29)) ?_
      refine Sd.quiet 5 _ _ rfl rfl rfl rfl rfl (QOp.ok (fun X => OpOk.move rfl)) ?_
      refine Sd.quiet 6 _ _ rfl rfl rfl rfl rfl (QOp.ok (fun X => OpOk.move rfl)) ?_
      refine Sd.quiet 7 _ _ rfl rfl rfl rfl rfl (QOp.ok (fun X => OpOk.idxN rfl ti29 rfl rd.left.left.left.left rfl (by omega))) ?_
      refine Sd.quiet 8 _ _ rfl rfl rfl rfl rfl (QOp.ok (fun X => OpOk.loadFl default rfl rfl ti29 rfl rd.left.left.left.left (fun _ => rfl) rfl (by omega))) ?_
      refine Sd.quiet 9 _ _ rfl rfl rfl rfl rfl (QOp.call cal23 rfl (fun X => s23)) ?_
      refine Sd.quiet 10 _ _ rfl rfl rfl rfl rfl (QOp.ok (fun X => OpOk.neqB rfl rfl rfl)) ?_
      (apply Sd.tail; case hall => kernel_rfl)
      refine RunL.mem (fl2 (sep_emp _) (sep_emp _)) ?_
      refine RunL.nil ?_
      refine Run.cond rfl (fun y4 => ?_) (fun y4 => ?_)
      · refine Run.seq ?_
        refine Run.region ?_
        refine RunL.ok (OpOk.assign rfl) rfl ?_
        refine RunL.nil ?_
        refine Run.ret1 Try.func14 rfl rfl ?_
        simp at y4
      refine Run.skip ?_
      refine Run.region ?_
      refine RunL.ok (OpOk.move rfl) rfl ?_
      refine RunL.ok (OpOk.move rfl) rfl ?_
      refine RunL.ok (OpOk.move rfl) rfl ?_
      refine RunL.ok (OpOk.idxN rfl ti29 rfl rd.left.left rfl (by omega)) rfl ?_
      refine RunL.ok (OpOk.loadFl default rfl rfl ti29 rfl rd.left.left (fun _ => rfl) rfl (by omega)) rfl ?_
      refine RunL.call cal30 rfl (s30) rfl (fun vy5 Ay5 hy5 => ?_)
      obtain ⟨y6, ⟨y7, ⟨rfl, ⟨y8, y9⟩⟩⟩⟩ := hy5
      refine RunL.know (fun w s => (s.conv rfl).ownRd0) (fun rdy11 => ?_)
      refine RunL.appendB rfl ti5 rfl rfl rfl (frl (frl rfl)) (Rd.right rdy11) (by omega) rfl (fun vy10 rdy10 => ?_)
      refine RunL.ok (OpOk.assign rfl) rfl ?_
      refine RunL.nil ?_
      refine Run.inBlock ?_
      refine Run.region ?_
      refine RunL.ok (OpOk.move rfl) rfl ?_
      refine RunL.ok (OpOk.addN _ 1 rfl rfl rfl rfl (by omega)) rfl ?_
      refine RunL.ok (OpOk.assign rfl) rfl ?_
      refine RunL.nil ?_
      rw [show right (ss.getD i default).1 (ss.getD i default).2 = (ss.take (i + 1)).all rightS by rw [hal, y1, Bool.true_and]]
      refine Run.jump ((ih (i + 1, _, _, zs ++ y7) ⟨by simp; omega, by simp [hzl, y8]; omega, fun h => by rw [hal, y1, Bool.true_and] at h; show zs ++ y7 = _; rw [hz y1, y9 h, hn]⟩ (by simp; omega))) ⟨rfl, rfl, rfl, rfl, rfl, trivial⟩ (Grew.of (Eq.trans (frc rfl rfl) (congrArg (· * _) (asg (asg as1)))) (Grew.refl _))
    refine RunL.off rfl rfl rfl rfl ?_
    refine RunL.off rfl rfl rfl rfl ?_
    refine RunL.off rfl rfl rfl rfl ?_
    refine RunL.off rfl rfl rfl rfl ?_
    refine RunL.off rfl rfl rfl rfl ?_
    refine RunL.ok (OpOk.pickF rfl rfl) rfl ?_
    refine RunL.ok (OpOk.assign rfl) rfl ?_
    refine RunL.nil ?_
    refine Run.seq ?_
    refine Run.seq ?_
    refine Run.know (fun w s => (s.conv rfl).ownRd0) (fun rdy12 => ?_)
    (apply Run.drawD [] (by rfl) (sep_emp _).symm; case hchk => kernel_rfl)
    refine Sd.quiet 0 _ _ rfl rfl rfl rfl rfl (QOp.ok (fun X => OpOk.move rfl)) ?_
    refine Sd.quiet 1 _ _ rfl rfl rfl rfl rfl (QOp.ok (fun X => OpOk.move rfl)) ?_
    refine Sd.quiet 2 _ _ rfl rfl rfl rfl rfl (QOp.ok (fun X => OpOk.idxN rfl ti29 rfl rd.left.left.left.left rfl (by omega))) ?_
    refine Sd.quiet 3 _ _ rfl rfl rfl rfl rfl (QOp.ok (fun X => OpOk.loadFl default rfl rfl ti29 rfl rd.left.left.left.left (fun _ => rfl) rfl (by omega))) ?_
    refine Sd.quiet 4 _ _ rfl rfl rfl rfl rfl (QOp.call cal29 rfl (fun X => s29)) ?_
    refine Sd.quiet 5 _ _ rfl rfl rfl rfl rfl (QOp.ok (fun X => OpOk.move rfl)) ?_
    refine Sd.quiet 6 _ _ rfl rfl rfl rfl rfl (QOp.ok (fun X => OpOk.move rfl)) ?_
    refine Sd.quiet 7 _ _ rfl rfl rfl rfl rfl (QOp.ok (fun X => OpOk.idxN rfl ti29 rfl rd.left.left.left.left rfl (by omega))) ?_
    refine Sd.quiet 8 _ _ rfl rfl rfl rfl rfl (QOp.ok (fun X => OpOk.loadFl default rfl rfl ti29 rfl rd.left.left.left.left (fun _ => rfl) rfl (by omega))) ?_
    refine Sd.quiet 9 _ _ rfl rfl rfl rfl rfl (QOp.call cal23 rfl (fun X => s23)) ?_
    refine Sd.quiet 10 _ _ rfl rfl rfl rfl rfl (QOp.ok (fun X => OpOk.neqB rfl rfl rfl)) ?_
    (apply Sd.tail; case hall => kernel_rfl)
    refine RunL.mem (fl2 (sep_emp _) (sep_emp _)) ?_
    refine RunL.nil ?_
    refine Run.cond rfl (fun y13 => ?_) (fun y13 => ?_)
    · refine Run.seq ?_
      refine Run.region ?_
      refine RunL.ok (OpOk.assign rfl) rfl ?_
      refine RunL.nil ?_
      refine Run.ret1 Try.func14 rfl rfl ?_
      simp at y13
    refine Run.skip ?_
    refine Run.region ?_
    refine RunL.ok (OpOk.move rfl) rfl ?_
    refine RunL.ok (OpOk.move rfl) rfl ?_
    refine RunL.ok (OpOk.move rfl) rfl ?_
    refine RunL.ok (OpOk.idxN rfl ti29 rfl rd.left.left rfl (by omega)) rfl ?_
    refine RunL.ok (OpOk.loadFl default rfl rfl ti29 rfl rd.left.left (fun _ => rfl) rfl (by omega)) rfl ?_
    refine RunL.call cal30 rfl (s30) rfl (fun vy14 Ay14 hy14 => ?_)
    obtain ⟨y15, ⟨y16, ⟨rfl, ⟨y17, y18⟩⟩⟩⟩ := hy14
    refine RunL.know (fun w s => (s.conv rfl).ownRd0) (fun rdy20 => ?_)
    refine RunL.appendB rfl ti5 rfl rfl rfl (frl (frl rfl)) (Rd.right rdy20) (by omega) rfl (fun vy19 rdy19 => ?_)
    refine RunL.ok (OpOk.assign rfl) rfl ?_
    refine RunL.nil ?_
    refine Run.inBlock ?_
    refine Run.region ?_
    refine RunL.ok (OpOk.move rfl) rfl ?_
    refine RunL.ok (OpOk.addN _ 1 rfl rfl rfl rfl (by omega)) rfl ?_
    refine RunL.ok (OpOk.assign rfl) rfl ?_
    refine RunL.nil ?_
    have h7 : false = (ss.take (i + 1)).all rightS := by rw [hal, y1, Bool.false_and]
    refine Run.jump ((ih (i + 1, _, _, zs ++ y16) ⟨by simp; omega, by simp [hzl, y17]; omega, fun h => by rw [hal, y1, Bool.false_and] at h; cases h⟩ (by simp; omega))) ⟨rfl, rfl, lkB rfl (by assumption), rfl, rfl, trivial⟩ (Grew.of (Eq.trans (frc rfl rfl) (congrArg (· * _) (asg (asg as1)))) (Grew.refl _))
  · obtain rfl : i = ss.length := by omega
    clear ih
    rw [List.take_length] at *
    rcases Bool.eq_false_or_eq_true (ss.all rightS) with hall | hall
    · obtain ⟨hp1, hp2, hp3, hp4⟩ := pack_right hall
      have hp5 := foursB_length ss
      rw [← hp2] at hp5
      have hzz := hz hall
      rw [hall]
      refine Run.seq ?_
      refine Run.seq ?_
      refine Run.region ?_
      refine RunL.ok (OpOk.move rfl) rfl ?_
      refine RunL.ok (OpOk.move rfl) rfl ?_
      refine RunL.ok (OpOk.lenR rfl rfl rd.left.left rfl) rfl ?_
      refine RunL.ok (OpOk.asF (OpOk.lss rfl rfl) (by omega)) rfl ?_
      refine RunL.nil ?_
      refine Run.condF rfl ?_
      refine Run.exit rfl ?_
      refine Run.seq ?_
      refine Run.region ?_
      refine RunL.lit0 rfl ti29 rfl (fun vz1 rdz1 => ?_)
      refine RunL.ok (OpOk.move rfl) rfl ?_
      refine RunL.appendF0 rfl ti29 rfl rfl rfl rfl rd.left.left.left rfl (by decide) (by omega) (by simp only [maxLen]; omega) rfl (fun vz2 rdz2 => ?_)
      refine RunL.know (fun w s => (s.conv rfl).ownRd0) (fun rdz3 => ?_)
      refine RunL.call cal31 rfl (s31 (Rd.right rdz3) (by assumption)) rfl (fun vz4 Az4 hz4 => ?_)
      obtain ⟨z5, ⟨z6, ⟨rfl, rfl⟩⟩⟩ := hz4
      refine RunL.ok (OpOk.move rfl) rfl ?_
      refine RunL.ok (OpOk.ext20 rfl) rfl ?_
      refine RunL.ok (OpOk.ext21 rfl) rfl ?_
      refine RunL.ok (OpOk.assign rfl) rfl ?_
      refine RunL.ok (OpOk.assign rfl) rfl ?_
      refine RunL.nil ?_
      refine Run.seq ?_
      refine Run.seq ?_
      refine Run.region ?_
      refine RunL.ok (OpOk.move rfl) rfl ?_
      refine RunL.ok (OpOk.not rfl) rfl ?_
      refine RunL.nil ?_
      refine Run.condF rfl ?_
      refine Run.seq ?_
      refine Run.region ?_
      refine RunL.ok (OpOk.move rfl) rfl ?_
      refine RunL.know (fun w s => (s.conv rfl).ownRd0) (fun rdz7 => ?_)
      refine RunL.call cal32 rfl (s32 (Rd.right rdz7) (by omega)) rfl (fun vz8 Az8 hz8 => ?_)
      obtain ⟨z9, ⟨z10, ⟨rfl, rfl⟩⟩⟩ := hz8
      refine RunL.ok (OpOk.move rfl) rfl ?_
      refine RunL.ok (OpOk.ext20 rfl) rfl ?_
      refine RunL.ok (OpOk.ext21 rfl) rfl ?_
      refine RunL.ok (OpOk.assign rfl) rfl ?_
      refine RunL.ok (OpOk.assign rfl) rfl ?_
      refine RunL.nil ?_
      refine Run.seq ?_
      refine Run.region ?_
      refine RunL.ok (OpOk.move rfl) rfl ?_
      refine RunL.ok (OpOk.as (c := false) (OpOk.neq rfl rfl) (by rw [decide_eq_true (by omega)]; rfl)) rfl ?_
      refine RunL.ok (OpOk.move rfl) rfl ?_
      refine RunL.on rfl rfl ?_
      refine RunL.ok (OpOk.move rfl) rfl ?_
      refine RunL.on rfl rfl ?_
      refine RunL.ok (OpOk.strOf rfl rfl rfl rfl (Rd.right rdz7).left.left) rfl ?_
      refine RunL.on rfl rfl ?_
      refine RunL.ok (OpOk.move rfl) rfl ?_
      refine RunL.on rfl rfl ?_
      refine RunL.know (fun w s => (s.conv (frl (frl (frl (frl (frl rfl)))))).ownRd0) (fun rdz11 => ?_)
      refine RunL.ok (OpOk.strOf rfl rfl rfl rfl (Rd.right rdz11).left.left.left.left.left) rfl ?_
      refine RunL.on rfl rfl ?_
      refine RunL.ok (OpOk.neqSS rfl rfl) rfl ?_
      refine RunL.ok (OpOk.pickF rfl rfl) rfl ?_
      refine RunL.ok (OpOk.move rfl) rfl ?_
      refine RunL.splitN (t := 83) rfl (fun z12 => ?_) (fun z12 => ?_)
      · refine RunL.off rfl rfl rfl rfl ?_
        refine RunL.off rfl rfl rfl rfl ?_
        refine RunL.ok (OpOk.pickT rfl rfl) rfl ?_
        refine RunL.ok (OpOk.move rfl) rfl ?_
        refine RunL.off rfl rfl rfl rfl ?_
        refine RunL.off rfl rfl rfl rfl ?_
        refine RunL.off rfl rfl rfl rfl ?_
        refine RunL.off rfl rfl rfl rfl ?_
        refine RunL.ok (OpOk.pickT rfl rfl) rfl ?_
        refine RunL.nil ?_
        refine Run.condT rfl ?_
        refine Run.seq ?_
        refine Run.region ?_
        refine RunL.ok (OpOk.assign rfl) rfl ?_
        refine RunL.nil ?_
        refine Run.ret1 Try.func14 rfl rfl ?_
        exact absurd (hp2.trans hzz.symm) z12
      refine RunL.on rfl rfl ?_
      refine RunL.ok (OpOk.move rfl) rfl ?_
      refine RunL.on rfl rfl ?_
      refine RunL.ok (OpOk.as (c := false) (OpOk.neq rfl rfl) (by rw [decide_eq_true (by omega)]; rfl)) rfl ?_
      refine RunL.ok (OpOk.pickF rfl rfl) rfl ?_
      refine RunL.ok (OpOk.move rfl) rfl ?_
      refine RunL.on rfl rfl ?_
      refine RunL.ok (OpOk.move rfl) rfl ?_
      refine RunL.on rfl rfl ?_
      refine RunL.ok (OpOk.move rfl) rfl ?_
      refine RunL.on rfl rfl ?_
      refine RunL.know (fun w s => (s.conv rfl).ownRd0) (fun rdz13 => ?_)
      refine RunL.call cal33 rfl (s33 (Rd.right rdz13) rd.left.left.left.left.left.left.left) rfl (fun vz14 Az14 hz14 => ?_)
      obtain ⟨rfl, rfl⟩ := hz14
      refine RunL.on rfl rfl ?_
      refine RunL.ok (OpOk.not rfl) rfl ?_
      refine RunL.ok (OpOk.pickF rfl rfl) rfl ?_
      refine RunL.nil ?_
      refine Run.condNF rfl (by first | omega | with_reducible rfl) ?_
      refine Run.skip ?_
      refine Run.seq ?_
      refine Run.region ?_
      refine RunL.lit0B rfl ti5 rfl (fun vz15 rdz15 => ?_)
      refine RunL.ok (OpOk.move rfl) rfl ?_
      refine RunL.appendB0 rfl ti5 rfl rfl rfl rfl rd2.left.left.left.left.left.left.left.left (by omega) rfl (fun vz16 rdz16 => ?_)
      refine RunL.ok (OpOk.assign rfl) rfl ?_
      refine RunL.nil ?_
      refine Run.seq ?_
      refine Run.region ?_
      refine RunL.ok (OpOk.move rfl) rfl ?_
      refine RunL.know (fun w s => (s.conv rfl).ownRd0) (fun rdz17 => ?_)
      refine RunL.call cal32 rfl (s32 (Rd.right rdz17) (by assumption)) rfl (fun vz18 Az18 hz18 => ?_)
      obtain ⟨z19, ⟨z20, ⟨rfl, rfl⟩⟩⟩ := hz18
      refine RunL.ok (OpOk.move rfl) rfl ?_
      refine RunL.ok (OpOk.ext20 rfl) rfl ?_
      refine RunL.ok (OpOk.ext21 rfl) rfl ?_
      refine RunL.ok (OpOk.assign rfl) rfl ?_
      refine RunL.ok (OpOk.assign rfl) rfl ?_
      refine RunL.nil ?_
      refine Run.seq ?_
      refine Run.region ?_
      refine RunL.ok (OpOk.move rfl) rfl ?_
      refine RunL.call cal34 rfl (s34 rd2.left.left.left.left.left.left.left.left.left.left (by assumption)) rfl (fun vz21 Az21 hz21 => ?_)
      obtain ⟨z22, ⟨z23, ⟨rfl, rfl⟩⟩⟩ := hz21
      refine RunL.ok (OpOk.move rfl) rfl ?_
      refine RunL.ok (OpOk.ext20 rfl) rfl ?_
      refine RunL.ok (OpOk.ext21 rfl) rfl ?_
      refine RunL.ok (OpOk.assign rfl) rfl ?_
      refine RunL.ok (OpOk.assign rfl) rfl ?_
      refine RunL.nil ?_
      refine Run.seq ?_
      refine Run.seq ?_
      refine Run.region ?_
      refine RunL.ok (OpOk.move rfl) rfl ?_
      refine RunL.ok (OpOk.move rfl) rfl ?_
      refine RunL.know (fun w s => (s.conv (frl (frl rfl))).ownRd0) (fun rdz24 => ?_)
      refine RunL.know (fun w s => (s.conv rfl).ownRd0) (fun rdz25 => ?_)
      refine RunL.call cal33 rfl (s33 (Rd.right rdz24).left.left (Rd.right rdz25)) rfl (fun vz26 Az26 hz26 => ?_)
      obtain ⟨rfl, rfl⟩ := hz26
      refine RunL.ok (OpOk.not rfl) rfl ?_
      refine RunL.ok (OpOk.move rfl) rfl ?_
      refine RunL.splitN (t := 110) rfl (fun z27 => ?_) (fun z27 => ?_)
      · refine RunL.off rfl rfl rfl rfl ?_
        refine RunL.off rfl rfl rfl rfl ?_
        refine RunL.off rfl rfl rfl rfl ?_
        refine RunL.ok (OpOk.pickT rfl rfl) rfl ?_
        refine RunL.ok (OpOk.move rfl) rfl ?_
        refine RunL.off rfl rfl rfl rfl ?_
        refine RunL.off rfl rfl rfl rfl ?_
        refine RunL.off rfl rfl rfl rfl ?_
        refine RunL.off rfl rfl rfl rfl ?_
        refine RunL.off rfl rfl rfl rfl ?_
        refine RunL.ok (OpOk.pickT rfl rfl) rfl ?_
        refine RunL.nil ?_
        refine Run.condT rfl ?_
        refine Run.seq ?_
        refine Run.region ?_
        refine RunL.ok (OpOk.assign rfl) rfl ?_
        refine RunL.nil ?_
        refine Run.ret1 Try.func14 rfl rfl ?_
        (exfalso; contradiction)
      refine RunL.on rfl rfl ?_
      refine RunL.ok (OpOk.move rfl) rfl ?_
      refine RunL.on rfl rfl ?_
      refine RunL.ok (OpOk.move rfl) rfl ?_
      refine RunL.on rfl rfl ?_
      refine RunL.ok (OpOk.as (c := false) (OpOk.neq rfl rfl) (by rw [decide_eq_true (by omega)]; rfl)) rfl ?_
      refine RunL.ok (OpOk.pickF rfl rfl) rfl ?_
      refine RunL.ok (OpOk.move rfl) rfl ?_
      refine RunL.on rfl rfl ?_
      refine RunL.ok (OpOk.move rfl) rfl ?_
      refine RunL.on rfl rfl ?_
      refine RunL.ok (OpOk.strOf rfl rfl rfl rfl (Rd.right rdz17).left.left.left.left) rfl ?_
      refine RunL.on rfl rfl ?_
      refine RunL.ok (OpOk.move rfl) rfl ?_
      refine RunL.on rfl rfl ?_
      refine RunL.ok (OpOk.strOf rfl rfl rfl rfl rd2.left.left.left.left.left.left.left.left.left.left.left.left) rfl ?_
      refine RunL.on rfl rfl ?_
      refine RunL.ok (OpOk.neqSS rfl rfl) rfl ?_
      refine RunL.ok (OpOk.pickF rfl rfl) rfl ?_
      refine RunL.nil ?_
      refine Run.condNF rfl (by first | omega | with_reducible rfl) ?_
      refine Run.skip ?_
      refine Run.seq ?_
      refine Run.region ?_
      refine RunL.ok (OpOk.move rfl) rfl ?_
      refine RunL.call cal31 rfl (s31 (Rd.right rdz24).left.left (by omega)) rfl (fun vz28 Az28 hz28 => ?_)
      obtain ⟨z29, ⟨z30, ⟨rfl, rfl⟩⟩⟩ := hz28
      refine RunL.ok (OpOk.move rfl) rfl ?_
      refine RunL.ok (OpOk.ext20 rfl) rfl ?_
      refine RunL.ok (OpOk.ext21 rfl) rfl ?_
      refine RunL.ok (OpOk.assign rfl) rfl ?_
      refine RunL.ok (OpOk.assign rfl) rfl ?_
      refine RunL.nil ?_
      refine Run.seq ?_
      refine Run.region ?_
      refine RunL.ok (OpOk.move rfl) rfl ?_
      refine RunL.ok (OpOk.asT (OpOk.eql rfl rfl) (by omega)) rfl ?_
      refine RunL.ok (OpOk.move rfl) rfl ?_
      refine RunL.on rfl rfl ?_
      refine RunL.ok (OpOk.move rfl) rfl ?_
      refine RunL.on rfl rfl ?_
      refine RunL.ok (OpOk.neq rfl rfl) rfl ?_
      refine RunL.on rfl rfl ?_
      refine RunL.ok (OpOk.move rfl) rfl ?_
      refine RunL.splitN (t := 132) rfl (fun z31 => ?_) (fun z31 => ?_)
      · refine RunL.off rfl rfl rfl rfl ?_
        refine RunL.off rfl rfl rfl rfl ?_
        refine RunL.off rfl rfl rfl rfl ?_
        refine RunL.off rfl rfl rfl rfl ?_
        refine RunL.off rfl rfl rfl rfl ?_
        refine RunL.on rfl rfl ?_
        refine RunL.ok (OpOk.pickT rfl rfl) rfl ?_
        refine RunL.ok (OpOk.pickT rfl rfl) rfl ?_
        refine RunL.ok (OpOk.assign rfl) rfl ?_
        refine RunL.nil ?_
        refine Run.ret1 Try.func14 rfl rfl ?_
        exact ⟨rfl, ⟨_, (asg (asg (asg (asg (asg (asg (asg (asg (asg (asg (asg (asg (asg as1)))))))))))))⟩⟩
      refine RunL.on rfl rfl ?_
      refine RunL.ok (OpOk.move rfl) rfl ?_
      refine RunL.on rfl rfl ?_
      refine RunL.know (fun w s => (s.conv rfl).ownRd0) (fun rdz32 => ?_)
      refine RunL.ok (OpOk.strOf rfl rfl rfl rfl (Rd.right rdz32)) rfl ?_
      refine RunL.on rfl rfl ?_
      refine RunL.ok (OpOk.move rfl) rfl ?_
      refine RunL.on rfl rfl ?_
      refine RunL.ok (OpOk.strOf rfl rfl rfl rfl rd2.left.left.left.left.left.left.left.left.left.left.left.left.left.left) rfl ?_
      refine RunL.on rfl rfl ?_
      refine RunL.ok (OpOk.eqlSS rfl rfl) rfl ?_
      refine RunL.on rfl rfl ?_
      refine RunL.ok (OpOk.pickF rfl rfl) rfl ?_
      refine RunL.ok (OpOk.pickT rfl rfl) rfl ?_
      refine RunL.ok (OpOk.assign rfl) rfl ?_
      refine RunL.nil ?_
      refine Run.ret1 Try.func14 rfl rfl ?_
      rw [decide_eq_true (hb1.2.1.trans (fours_unp z31))]
      exact ⟨rfl, ⟨_, (asg (asg (asg (asg (asg (asg (asg (asg (asg (asg (asg (asg (asg as1)))))))))))))⟩⟩
    · obtain ⟨hp1, hp2⟩ := pack_wrong hall
      have hp3 := congrArg List.length hp2
      simp only [List.length_nil] at hp3
      rw [hall]
      refine Run.seq ?_
      refine Run.seq ?_
      refine Run.region ?_
      refine RunL.ok (OpOk.move rfl) rfl ?_
      refine RunL.ok (OpOk.move rfl) rfl ?_
      refine RunL.ok (OpOk.lenR rfl rfl rd.left.left rfl) rfl ?_
      refine RunL.ok (OpOk.asF (OpOk.lss rfl rfl) (by omega)) rfl ?_
      refine RunL.nil ?_
      refine Run.condF rfl ?_
      refine Run.exit rfl ?_
      refine Run.seq ?_
      refine Run.region ?_
      refine RunL.lit0 rfl ti29 rfl (fun vz1 rdz1 => ?_)
      refine RunL.ok (OpOk.move rfl) rfl ?_
      refine RunL.appendF0 rfl ti29 rfl rfl rfl rfl rd.left.left.left rfl (by decide) (by omega) (by simp only [maxLen]; omega) rfl (fun vz2 rdz2 => ?_)
      refine RunL.know (fun w s => (s.conv rfl).ownRd0) (fun rdz3 => ?_)
      refine RunL.call cal31 rfl (s31 (Rd.right rdz3) (by assumption)) rfl (fun vz4 Az4 hz4 => ?_)
      obtain ⟨z5, ⟨z6, ⟨rfl, rfl⟩⟩⟩ := hz4
      refine RunL.ok (OpOk.move rfl) rfl ?_
      refine RunL.ok (OpOk.ext20 rfl) rfl ?_
      refine RunL.ok (OpOk.ext21 rfl) rfl ?_
      refine RunL.ok (OpOk.assign rfl) rfl ?_
      refine RunL.ok (OpOk.assign rfl) rfl ?_
      refine RunL.nil ?_
      refine Run.seq ?_
      refine Run.seq ?_
      refine Run.region ?_
      refine RunL.ok (OpOk.move rfl) rfl ?_
      refine RunL.ok (OpOk.not rfl) rfl ?_
      refine RunL.nil ?_
      refine Run.condT rfl ?_
      refine Run.seq ?_
      refine Run.region ?_
      refine RunL.ok (OpOk.move rfl) rfl ?_
      refine RunL.ok (OpOk.as (c := false) (OpOk.neq rfl rfl) (by rw [decide_eq_true (by omega)]; rfl)) rfl ?_
      refine RunL.ok (OpOk.move rfl) rfl ?_
      refine RunL.on rfl rfl ?_
      refine RunL.ok (OpOk.move rfl) rfl ?_
      refine RunL.on rfl rfl ?_
      refine RunL.know (fun w s => (s.conv rfl).ownRd0) (fun rdz7 => ?_)
      refine RunL.ok (OpOk.lenR rfl rfl (Rd.right rdz7) rfl) rfl ?_
      refine RunL.on rfl rfl ?_
      refine RunL.ok (OpOk.as (c := false) (OpOk.neq rfl rfl) (by rw [decide_eq_true (by omega)]; rfl)) rfl ?_
      refine RunL.ok (OpOk.pickF rfl rfl) rfl ?_
      refine RunL.nil ?_
      refine Run.condF rfl ?_
      refine Run.skip ?_
      refine Run.seq ?_
      refine Run.region ?_
      refine RunL.lit0B rfl ti5 rfl (fun vz8 rdz8 => ?_)
      refine RunL.ok (OpOk.move rfl) rfl ?_
      refine RunL.appendB0 rfl ti5 rfl rfl rfl rfl rd2.left.left.left.left.left.left (by omega) rfl (fun vz9 rdz9 => ?_)
      refine RunL.ok (OpOk.assign rfl) rfl ?_
      refine RunL.nil ?_
      refine Run.seq ?_
      refine Run.region ?_
      refine RunL.ok (OpOk.move rfl) rfl ?_
      refine RunL.know (fun w s => (s.conv rfl).ownRd0) (fun rdz10 => ?_)
      refine RunL.call cal32 rfl (s32 (Rd.right rdz10) (by assumption)) rfl (fun vz11 Az11 hz11 => ?_)
      obtain ⟨z12, ⟨z13, ⟨rfl, rfl⟩⟩⟩ := hz11
      refine RunL.ok (OpOk.move rfl) rfl ?_
      refine RunL.ok (OpOk.ext20 rfl) rfl ?_
      refine RunL.ok (OpOk.ext21 rfl) rfl ?_
      refine RunL.ok (OpOk.assign rfl) rfl ?_
      refine RunL.ok (OpOk.assign rfl) rfl ?_
      refine RunL.nil ?_
      refine Run.seq ?_
      refine Run.region ?_
      refine RunL.ok (OpOk.move rfl) rfl ?_
      refine RunL.call cal34 rfl (s34 rd2.left.left.left.left.left.left.left.left (by assumption)) rfl (fun vz14 Az14 hz14 => ?_)
      obtain ⟨z15, ⟨z16, ⟨rfl, rfl⟩⟩⟩ := hz14
      refine RunL.ok (OpOk.move rfl) rfl ?_
      refine RunL.ok (OpOk.ext20 rfl) rfl ?_
      refine RunL.ok (OpOk.ext21 rfl) rfl ?_
      refine RunL.ok (OpOk.assign rfl) rfl ?_
      refine RunL.ok (OpOk.assign rfl) rfl ?_
      refine RunL.nil ?_
      refine Run.seq ?_
      refine Run.seq ?_
      refine Run.region ?_
      refine RunL.ok (OpOk.move rfl) rfl ?_
      refine RunL.ok (OpOk.move rfl) rfl ?_
      refine RunL.know (fun w s => (s.conv (frl (frl rfl))).ownRd0) (fun rdz17 => ?_)
      refine RunL.know (fun w s => (s.conv rfl).ownRd0) (fun rdz18 => ?_)
      refine RunL.call cal33 rfl (s33 (Rd.right rdz17).left.left (Rd.right rdz18)) rfl (fun vz19 Az19 hz19 => ?_)
      obtain ⟨rfl, rfl⟩ := hz19
      refine RunL.ok (OpOk.not rfl) rfl ?_
      refine RunL.ok (OpOk.move rfl) rfl ?_
      refine RunL.splitN (t := 110) rfl (fun z20 => ?_) (fun z20 => ?_)
      · refine RunL.off rfl rfl rfl rfl ?_
        refine RunL.off rfl rfl rfl rfl ?_
        refine RunL.off rfl rfl rfl rfl ?_
        refine RunL.ok (OpOk.pickT rfl rfl) rfl ?_
        refine RunL.ok (OpOk.move rfl) rfl ?_
        refine RunL.off rfl rfl rfl rfl ?_
        refine RunL.off rfl rfl rfl rfl ?_
        refine RunL.off rfl rfl rfl rfl ?_
        refine RunL.off rfl rfl rfl rfl ?_
        refine RunL.off rfl rfl rfl rfl ?_
        refine RunL.ok (OpOk.pickT rfl rfl) rfl ?_
        refine RunL.nil ?_
        refine Run.condT rfl ?_
        refine Run.seq ?_
        refine Run.region ?_
        refine RunL.ok (OpOk.assign rfl) rfl ?_
        refine RunL.nil ?_
        refine Run.ret1 Try.func14 rfl rfl ?_
        (exfalso; contradiction)
      refine RunL.on rfl rfl ?_
      refine RunL.ok (OpOk.move rfl) rfl ?_
      refine RunL.on rfl rfl ?_
      refine RunL.ok (OpOk.move rfl) rfl ?_
      refine RunL.on rfl rfl ?_
      refine RunL.ok (OpOk.as (c := false) (OpOk.neq rfl rfl) (by rw [decide_eq_true (by omega)]; rfl)) rfl ?_
      refine RunL.ok (OpOk.pickF rfl rfl) rfl ?_
      refine RunL.ok (OpOk.move rfl) rfl ?_
      refine RunL.on rfl rfl ?_
      refine RunL.ok (OpOk.move rfl) rfl ?_
      refine RunL.on rfl rfl ?_
      refine RunL.ok (OpOk.strOf rfl rfl rfl rfl (Rd.right rdz10).left.left.left.left) rfl ?_
      refine RunL.on rfl rfl ?_
      refine RunL.ok (OpOk.move rfl) rfl ?_
      refine RunL.on rfl rfl ?_
      refine RunL.ok (OpOk.strOf rfl rfl rfl rfl rd2.left.left.left.left.left.left.left.left.left.left) rfl ?_
      refine RunL.on rfl rfl ?_
      refine RunL.ok (OpOk.neqSS rfl rfl) rfl ?_
      refine RunL.ok (OpOk.pickF rfl rfl) rfl ?_
      refine RunL.nil ?_
      refine Run.condNF rfl (by first | omega | with_reducible rfl) ?_
      refine Run.skip ?_
      refine Run.seq ?_
      refine Run.region ?_
      refine RunL.ok (OpOk.move rfl) rfl ?_
      refine RunL.call cal31 rfl (s31 (Rd.right rdz17).left.left (by omega)) rfl (fun vz21 Az21 hz21 => ?_)
      obtain ⟨z22, ⟨z23, ⟨rfl, rfl⟩⟩⟩ := hz21
      refine RunL.ok (OpOk.move rfl) rfl ?_
      refine RunL.ok (OpOk.ext20 rfl) rfl ?_
      refine RunL.ok (OpOk.ext21 rfl) rfl ?_
      refine RunL.ok (OpOk.assign rfl) rfl ?_
      refine RunL.ok (OpOk.assign rfl) rfl ?_
      refine RunL.nil ?_
      refine Run.seq ?_
      refine Run.region ?_
      refine RunL.ok (OpOk.move rfl) rfl ?_
      refine RunL.ok (OpOk.asT (OpOk.eql rfl rfl) (by omega)) rfl ?_
      refine RunL.ok (OpOk.move rfl) rfl ?_
      refine RunL.on rfl rfl ?_
      refine RunL.ok (OpOk.move rfl) rfl ?_
      refine RunL.on rfl rfl ?_
      refine RunL.ok (OpOk.neq rfl rfl) rfl ?_
      refine RunL.on rfl rfl ?_
      refine RunL.ok (OpOk.move rfl) rfl ?_
      refine RunL.splitN (t := 132) rfl (fun z24 => ?_) (fun z24 => ?_)
      · refine RunL.off rfl rfl rfl rfl ?_
        refine RunL.off rfl rfl rfl rfl ?_
        refine RunL.off rfl rfl rfl rfl ?_
        refine RunL.off rfl rfl rfl rfl ?_
        refine RunL.off rfl rfl rfl rfl ?_
        refine RunL.on rfl rfl ?_
        refine RunL.ok (OpOk.pickT rfl rfl) rfl ?_
        refine RunL.ok (OpOk.pickT rfl rfl) rfl ?_
        refine RunL.ok (OpOk.assign rfl) rfl ?_
        refine RunL.nil ?_
        refine Run.ret1 Try.func14 rfl rfl ?_
        exact ⟨rfl, ⟨_, (asg (asg (asg (asg (asg (asg (asg (asg (asg (asg (asg as1)))))))))))⟩⟩
      refine RunL.on rfl rfl ?_
      refine RunL.ok (OpOk.move rfl) rfl ?_
      refine RunL.on rfl rfl ?_
      refine RunL.know (fun w s => (s.conv rfl).ownRd0) (fun rdz25 => ?_)
      refine RunL.ok (OpOk.strOf rfl rfl rfl rfl (Rd.right rdz25)) rfl ?_
      refine RunL.on rfl rfl ?_
      refine RunL.ok (OpOk.move rfl) rfl ?_
      refine RunL.on rfl rfl ?_
      refine RunL.ok (OpOk.strOf rfl rfl rfl rfl rd2.left.left.left.left.left.left.left.left.left.left.left.left) rfl ?_
      refine RunL.on rfl rfl ?_
      refine RunL.ok (OpOk.eqlSS rfl rfl) rfl ?_
      refine RunL.on rfl rfl ?_
      refine RunL.ok (OpOk.pickF rfl rfl) rfl ?_
      refine RunL.ok (OpOk.pickT rfl rfl) rfl ?_
      refine RunL.ok (OpOk.assign rfl) rfl ?_
      refine RunL.nil ?_
      refine Run.ret1 Try.func14 rfl rfl ?_
      rw [decide_eq_true (hb1.2.1.trans (fours_unp z24))]
      exact ⟨rfl, ⟨_, (asg (asg (asg (asg (asg (asg (asg (asg (asg (asg (asg as1)))))))))))⟩⟩
end Go.Proofs.Ytajjmephfoaiaaa
