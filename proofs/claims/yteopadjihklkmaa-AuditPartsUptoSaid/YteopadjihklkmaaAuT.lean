/- Totals. -/
import Derived.Test.YteopadjihklkmaaAuP
namespace Go.Proofs.Yteopadjihklkmaa
open Go Go.Proofs
set_option maxRecDepth 100000
set_option maxHeartbeats 4000000
set_option linter.unusedSimpArgs false
section
variable {w0 : World} {A : Asn}
theorem s17 {n : Int} {u : Value} {m : Nat} {ps : List Po} (rd : Rd w0 A u 3 m (Fl encT126 ps)) (al : Alls (GP w0) A ps) (hin : ∀ q ∈ ps, ∀ s ∈ q.2.2.2, inI s.2) (hL : (shs ps).length ≤ 1048576) :
    Spec Try.prog w0 17 [.int .i64 n, u] A (fun v' A' => ∃ v J, v' = .tuple #[v, .int .i64 (totF n (shs ps)).1] ∧ A' = A * J * own 3 1 v (totF n (shs ps)).2.length (I (totF n (shs ps)).2)) := by
  have hl0 := rd.lenFl (fun _ => rfl) (by decide)
  subst hl0
  have hmx := rd.max
  have hins : ∀ s ∈ shs ps, inI s.2 := fun s hs => by
    obtain ⟨p, hp, hsp⟩ := mem_shs hs
    exact hin p hp s hsp
  have own0 : own 3 1 (Value.slice none 0 0) (List.length ([] : List Int)) (I ([] : List Int)) = emp := own_nil_eq 3 1
  rcases Decidable.em (n < 1 ∨ 4 < n) with hn | hn
  · have e : totF n (shs ps) = (2, []) := if_pos hn
    rw [e]
    refine Spec.of_run [(0, .int .i64 n), (1, u)] Try.func17 rfl (Nat.le_of_ble_eq_true rfl) (by repeat (first | exact trivial | refine ⟨rfl, ?_⟩)) ?_
    refine Run.seq ?_
    refine Run.region ?_
    refine RunL.ok (OpOk.assign rfl) rfl ?_
    refine RunL.ok (OpOk.assign rfl) rfl ?_
    refine RunL.nil ?_
    refine Run.seq ?_
    refine Run.seq ?_
    refine Run.region ?_
    refine RunL.ok (OpOk.move rfl) rfl ?_
    refine RunL.ok (OpOk.lss rfl rfl) rfl ?_
    refine RunL.ok (OpOk.move rfl) rfl ?_
    refine RunL.splitD (t := 18) rfl (fun x1 => ?_) (fun x1 => ?_)
    · refine RunL.off rfl rfl rfl rfl ?_
      refine RunL.off rfl rfl rfl rfl ?_
      refine RunL.ok (OpOk.pickT rfl rfl) rfl ?_
      refine RunL.nil ?_
      refine Run.condT rfl ?_
      refine Run.seq ?_
      refine Run.region ?_
      refine RunL.ok (OpOk.assign rfl) rfl ?_
      refine RunL.ok (OpOk.assign rfl) rfl ?_
      refine RunL.nil ?_
      refine Run.ent (Ent.ownNil' _ 3 1 (I []) rfl) ?_
      refine Run.ret2 Try.func17 rfl rfl rfl ?_
      exact ⟨_, _, rfl, (Eq.trans (frc rfl rfl) (congrArg (· * _) as0))⟩
    refine RunL.on rfl rfl ?_
    refine RunL.ok (OpOk.move rfl) rfl ?_
    refine RunL.on rfl rfl ?_
    refine RunL.ok (OpOk.asT (OpOk.gtr rfl rfl) (by omega)) rfl ?_
    refine RunL.ok (OpOk.pickF rfl rfl) rfl ?_
    refine RunL.nil ?_
    refine Run.condT rfl ?_
    refine Run.seq ?_
    refine Run.region ?_
    refine RunL.ok (OpOk.assign rfl) rfl ?_
    refine RunL.ok (OpOk.assign rfl) rfl ?_
    refine RunL.nil ?_
    refine Run.ent (Ent.ownNil' _ 3 1 (I []) rfl) ?_
    refine Run.ret2 Try.func17 rfl rfl rfl ?_
    exact ⟨_, _, rfl, (Eq.trans (frc rfl rfl) (congrArg (· * _) as0))⟩
  · obtain ⟨k, rfl⟩ := Int.eq_ofNat_of_zero_le (show 0 ≤ n by omega)
    have hk1 : 1 ≤ k := by omega
    have hk4 : k ≤ 4 := by omega
    refine Spec.of_run [(0, .int .i64 (k : Int)), (1, u)] Try.func17 rfl (Nat.le_of_ble_eq_true rfl) (by repeat (first | exact trivial | refine ⟨rfl, ?_⟩)) ?_
    have hkk : ¬ ((k : Int) < 1 ∨ 4 < (k : Int)) := hn
    refine Run.seq ?_
    refine Run.region ?_
    refine RunL.ok (OpOk.assign rfl) rfl ?_
    refine RunL.ok (OpOk.assign rfl) rfl ?_
    refine RunL.nil ?_
    refine Run.seq ?_
    refine Run.seq ?_
    refine Run.region ?_
    refine RunL.ok (OpOk.move rfl) rfl ?_
    refine RunL.ok (OpOk.asF (OpOk.lss rfl rfl) (by omega)) rfl ?_
    refine RunL.ok (OpOk.move rfl) rfl ?_
    refine RunL.on rfl rfl ?_
    refine RunL.ok (OpOk.move rfl) rfl ?_
    refine RunL.on rfl rfl ?_
    refine RunL.ok (OpOk.asF (OpOk.gtr rfl rfl) (by omega)) rfl ?_
    refine RunL.ok (OpOk.pickF rfl rfl) rfl ?_
    refine RunL.nil ?_
    refine Run.condF rfl ?_
    refine Run.skip ?_
    refine Run.seq ?_
    refine Run.region ?_
    refine RunL.ok (OpOk.move rfl) rfl ?_
    refine RunL.make rfl ti35 rfl rfl (by omega) (by simp only [maxLen]; omega) rfl (fun vx1 rdx1 => ?_)
    refine RunL.ok (OpOk.assign rfl) rfl ?_
    refine RunL.nil ?_
    refine Run.seq ?_
    refine Run.seq ?_
    refine Run.region ?_
    refine RunL.ok (OpOk.move rfl) rfl ?_
    refine RunL.ok (OpOk.lenR rfl rfl rd.left rfl) rfl ?_
    refine RunL.ok (OpOk.move rfl) rfl ?_
    refine RunL.nil ?_
    refine Run.block ?_
    refine Run.mem (A' := A * emp * own 35 1 vx1 k (Fl encRi (List.replicate k r0)) * ownsRi (List.replicate k r0)) (by rw [ownsRi_new, Fl_Ri_new, sep_emp, sep_emp, show (madeCells (Value.slice none 0 0).cells (k * 1)).toList = List.replicate k (.slice none 0 0) from made_one (.slice none 0 0) rfl k]) ?_
    refine Run.jump ((Run.loopJ (X := Nat × Asn × List Ri) (fun x => [(26, .int .i64 (x.1 : Int)), (25, .int .i64 (ps.length : Int)), (24, u), (6, vx1), (0, .int .i64 (k : Int))]) (fun x => A * x.2.1 * own 35 1 vx1 k (Fl encRi x.2.2) * ownsRi x.2.2) (fun x => x.1 ≤ ps.length ∧ x.2.2.map Prod.snd = rowsOf k (shs (ps.take x.1)) ∧ (shs (ps.take x.1)).all (okT k) = true) (fun x => ps.length - x.1) (0, _, List.replicate k r0) ⟨Nat.zero_le _, by rw [List.map_replicate]; exact (rowsOf_nil k).symm, rfl⟩ (fun x hx ih => ?_))) ⟨rfl, rfl, rfl, rfl, rfl, trivial⟩ (Grew.of (congrArg (· * _) (congrArg (· * _) as1)) (Grew.refl _))
    obtain ⟨i, J, R⟩ := x
    simp only at hx ih ⊢
    obtain ⟨hi, hR, hok⟩ := hx
    rcases Nat.lt_or_ge i ps.length with hlt | hge
    · have rdi : Rd w0 A (ps.getD i default).2.2.1.1 2 (ps.getD i default).2.2.2.length (Fl encT132 (ps.getD i default).2.2.2) := al.get hlt
      have hone : ∀ w ∈ (Value.agg (encT126 (ps.getD i default)).toArray).cells.toList, w.oneCell' = true := fun w hw => OneC.one (enc := encT126) _ w hw
      have hsl := shs_at_le hlt
      refine Run.seq ?_
      refine Run.region ?_
      refine RunL.ok (OpOk.asT (OpOk.lss rfl rfl) (by omega)) rfl ?_
      refine RunL.nil ?_
      refine Run.seq ?_
      refine Run.condT rfl ?_
      refine Run.skip ?_
      refine Run.seq ?_
      refine Run.block ?_
      refine Run.seq ?_
      refine Run.region ?_
      refine RunL.ok (OpOk.idxN rfl ti126 rfl rd.left.left.left rfl (by omega)) rfl ?_
      refine RunL.ok (OpOk.loadFl default rfl rfl ti126 rfl rd.left.left.left (fun _ => rfl) rfl (by omega)) rfl ?_
      refine RunL.alloc ti126 rfl (fun by1 => ?_)
      refine RunL.storeAll ti126 rfl rfl rfl (fun w hw => OneC.one (enc := encT126) (ps.getD i default) w hw) rfl rfl ?_
      refine RunL.nil ?_
      refine Run.seq ?_
      refine Run.region ?_
      refine RunL.ok (OpOk.fieldAddr fld126_2 rfl) rfl ?_
      refine RunL.ok (OpOk.load rfl rfl rfl (Blk.out Blk.pts _ _ (by first | rfl | assumption))) rfl ?_
      refine RunL.ok (OpOk.lenR rfl rfl rdi.left.left.left.left rfl) rfl ?_
      refine RunL.ok (OpOk.move rfl) rfl ?_
      refine RunL.nil ?_
      refine Run.block ?_
      refine Run.jump ((Run.loopJ (X := Nat × Asn × List Ri) (fun x => [(33, .int .i64 (x.1 : Int)), (32, .int .i64 ((ps.getD i default).2.2.2.length : Int)), (31, (ps.getD i default).2.2.1.1), (26, .int .i64 (i : Int)), (25, .int .i64 (ps.length : Int)), (24, u), (6, vx1), (0, .int .i64 (k : Int))]) (fun x => A * x.2.1 * own 35 1 vx1 k (Fl encRi x.2.2) * ownsRi x.2.2) (fun x => x.1 ≤ (ps.getD i default).2.2.2.length ∧ x.2.2.map Prod.snd = rowsOf k (shs (ps.take i) ++ (ps.getD i default).2.2.2.take x.1) ∧ ((ps.getD i default).2.2.2.take x.1).all (okT k) = true) (fun x => (ps.getD i default).2.2.2.length - x.1) (0, _, R) ⟨Nat.zero_le _, by rw [List.take_zero, List.append_nil]; exact hR, rfl⟩ (fun x hx ih2 => ?_))) ⟨rfl, rfl, rfl, rfl, rfl, rfl, rfl, rfl, trivial⟩ (Grew.of (Eq.trans (frc (frl rfl) (frc (frl rfl) rfl)) (congrArg (· * _) (congrArg (· * _) (asg as1)))) (Grew.refl _))
      obtain ⟨j, J2, Q⟩ := x
      simp only at hx ih2 ⊢
      obtain ⟨hj, hQ, hok2⟩ := hx
      rcases Nat.lt_or_ge j (ps.getD i default).2.2.2.length with hjt | hjg
      · rcases Decidable.em (1 ≤ ((ps.getD i default).2.2.2.getD j default).1 ∧ ((ps.getD i default).2.2.2.getD j default).1 ≤ k) with hs | hs
        · obtain ⟨hs1, hs2⟩ := hs
          have hQl : Q.length = k := by have := congrArg List.length hQ; rwa [List.length_map, rowsOf_len] at this
          have hq1 : (((ps.getD i default).2.2.2.getD j default).1 - 1).toNat < k := by omega
          have hq2 := rows_get hQ (by omega : (((ps.getD i default).2.2.2.getD j default).1 - 1).toNat < Q.length)
          rw [rowsOf_get hq1] at hq2
          have hql : (Q.getD (((ps.getD i default).2.2.2.getD j default).1 - 1).toNat default).2.length ≤ 1048576 := by
            rw [hq2]
            refine Nat.le_trans (amts_len _ _) ?_
            rw [List.length_append, List.length_take]
            omega
          rw [ownsRi_at (show (((ps.getD i default).2.2.2.getD j default).1 - 1).toNat < Q.length by omega)]
          obtain ⟨r, hr⟩ : ∃ r, Q.getD (((ps.getD i default).2.2.2.getD j default).1 - 1).toNat default = r := ⟨_, rfl⟩
          obtain ⟨sv, ns⟩ := r
          rw [hr] at hq2 hql ⊢
          dsimp only at hq2 hql
          simp only [rone, ← sep_assoc]
          have drawApart : sv.1 = sv.1 := rfl
          have hKQ : (((ps.getD i default).2.2.2.getD j default).1 - 1).toNat < Q.length := by omega
          have hnx := rowsOf_snoc (n := k) (k := (((ps.getD i default).2.2.2.getD j default).1 - 1).toNat) (l := shs (ps.take i) ++ (ps.getD i default).2.2.2.take j) (s := (ps.getD i default).2.2.2.getD j default) (by omega)
          rw [List.append_assoc, ← take_next hjt, ← hq2] at hnx
          have hok4 : ((ps.getD i default).2.2.2.take (j + 1)).all (okT k) = true := by
            rw [okT_next hjt, hok2, okT, decide_eq_true hs1, decide_eq_true hs2]; rfl
          refine Run.seq ?_
          refine Run.region ?_
          refine RunL.ok (OpOk.asT (OpOk.lss rfl rfl) (by omega)) rfl ?_
          refine RunL.nil ?_
          refine Run.seq ?_
          refine Run.condT rfl ?_
          refine Run.skip ?_
          refine Run.seq ?_
          refine Run.block ?_
          refine Run.seq ?_
          refine Run.region ?_
          refine RunL.ok (OpOk.idxN rfl ti132 rfl rdi.left.left.left.left rfl (by omega)) rfl ?_
          refine RunL.ok (OpOk.loadFl default rfl rfl ti132 rfl rdi.left.left.left.left (fun _ => rfl) rfl (by omega)) rfl ?_
          refine RunL.alloc ti132 rfl (fun bz1 => ?_)
          refine RunL.storeAll ti132 rfl rfl rfl (fun w hw => OneC.one (enc := encT132) ((ps.getD i default).snd.snd.snd.getD j default) w hw) rfl rfl ?_
          refine RunL.nil ?_
          refine Run.seq ?_
          refine Run.seq ?_
          refine Run.region ?_
          refine RunL.ok (OpOk.fieldAddr fld132_0 rfl) rfl ?_
          refine RunL.ok (OpOk.load rfl rfl rfl (Blk.out Blk.pts _ _ (by first | rfl | assumption))) rfl ?_
          refine RunL.ok (OpOk.asF (OpOk.lss rfl rfl) (by omega)) rfl ?_
          refine RunL.ok (OpOk.move rfl) rfl ?_
          refine RunL.on rfl rfl ?_
          refine RunL.ok (OpOk.fieldAddr fld132_0 rfl) rfl ?_
          refine RunL.on rfl rfl ?_
          refine RunL.ok (OpOk.load rfl rfl rfl (Blk.out Blk.pts _ _ (by first | rfl | assumption))) rfl ?_
          refine RunL.on rfl rfl ?_
          refine RunL.ok (OpOk.move rfl) rfl ?_
          refine RunL.on rfl rfl ?_
          refine RunL.ok (OpOk.asF (OpOk.gtr rfl rfl) (by omega)) rfl ?_
          refine RunL.ok (OpOk.pickF rfl rfl) rfl ?_
          refine RunL.nil ?_
          refine Run.condF rfl ?_
          refine Run.skip ?_
          refine Run.know (fun w s => (s.conv (frl (frl (frl rfl)))).ownRd0) (fun rdz2 => ?_)
          refine Run.know (fun w s => (s.conv (frl rfl)).ownRd0) (fun rdz3 => ?_)
          (apply Run.drawD [15] (by rfl) (Eq.trans (frc (frl rfl) rfl) rfl); case hchk => kernel_rfl)
          refine Sd.quiet 0 _ _ rfl rfl rfl rfl rfl (QOp.ok (fun X => OpOk.move rfl)) ?_
          refine Sd.quiet 1 _ _ rfl rfl rfl rfl rfl (QOp.ok (fun X => OpOk.fieldAddr fld132_0 rfl)) ?_
          refine Sd.quiet 2 _ _ rfl rfl rfl rfl rfl (QOp.ok (fun X => OpOk.load rfl rfl rfl (Blk.out Blk.pts.left.left _ _ (by first | rfl | assumption)))) ?_
          refine Sd.quiet 3 _ _ rfl rfl rfl rfl rfl (QOp.ok (fun X => OpOk.sub rfl rfl (wrapI (by omega) (by omega)))) ?_
          refine Sd.quiet 4 _ _ rfl rfl rfl rfl rfl (QOp.ok (fun X => OpOk.move rfl)) ?_
          refine Sd.quiet 5 _ _ rfl rfl rfl rfl rfl (QOp.ok (fun X => OpOk.fieldAddr fld132_0 rfl)) ?_
          refine Sd.quiet 6 _ _ rfl rfl rfl rfl rfl (QOp.ok (fun X => OpOk.load rfl rfl rfl (Blk.out Blk.pts.left.left _ _ (by first | rfl | assumption)))) ?_
          refine Sd.quiet 7 _ _ rfl rfl rfl rfl rfl (QOp.ok (fun X => OpOk.sub rfl rfl (wrapI (by omega) (by omega)))) ?_
          refine Sd.quiet 8 _ _ rfl rfl rfl rfl rfl (QOp.ok (fun X => OpOk.idx1 rfl ti35 rfl (Rd.right rdz2).left.left.left.left rfl (by omega) (by omega))) ?_
          refine Sd.quiet 9 _ _ rfl rfl rfl rfl rfl (QOp.ok (fun X => OpOk.loadRowE hr rfl rfl rfl (Rd.right rdz2).left.left.left.left (fun _ => rfl) (by omega) rfl)) ?_
          refine Sd.quiet 10 _ _ rfl rfl rfl rfl rfl (QOp.ok (fun X => OpOk.fieldAddr fld132_1 rfl)) ?_
          refine Sd.quiet 11 _ _ rfl rfl rfl rfl rfl (QOp.ok (fun X => OpOk.load rfl rfl rfl (Blk.out Blk.pts.left.left _ _ (by first | rfl | assumption)))) ?_
          refine Sd.quiet 14 _ _ rfl rfl rfl rfl rfl (QOp.ok (fun X => OpOk.idx1 rfl ti35 rfl (Rd.right rdz2).left.left.left.left rfl (by omega) (by omega))) ?_
          (refine Sd.exec 12 rfl rfl rfl rfl rfl ?hrest (by rfl) (fun Xz4 Kz4 hKz4 => ?_); case hrest => kernel_rfl)
          refine RunL.mem (fl2 (sep_emp _) rfl) ?_
          refine RunL.litI (xs := [((ps.getD i default).snd.snd.snd.getD j default).snd]) rfl ti3 rfl rfl rfl (by decide) rfl (fun vz5 rdz5 => ?_)
          refine RunL.know (fun w s => (s.conv rfl).ownRd0) (fun rdz6 => ?_)
          refine Sd.ret hKz4 (Eq.trans (frc (frl rfl) rfl) (gp2 rfl rfl)) ⟨_, (emp_sep _).symm⟩ ?_
          (refine Sd.exec 13 rfl rfl rfl rfl rfl ?hrest (by rfl) (fun Xz7 Kz7 hKz7 => ?_); case hrest => kernel_rfl)
          refine RunL.mem (fl2 rfl rfl) ?_
          refine RunL.appendI rfl ti3 rfl rfl rfl rfl (Rd.right rdz6).left (by omega) rfl rfl (fun vz8 rdz8 => ?_)
          refine RunL.know (fun w s => (s.conv rfl).ownRd0) (fun rdz9 => ?_)
          refine Sd.ret hKz7 (Eq.trans rfl (gp2 (sep_emp _).symm (asg rfl))) ⟨_, rfl⟩ ?_
          (apply Sd.tail; case hall => kernel_rfl)
          refine RunL.mem (fl2 (flS rfl) (sep_emp _)) ?_
          refine RunL.storeOwn ti35 rfl rfl (Rd.one rdz9) (frl (frl (frl (frl rfl)))) (by omega) ?_
          refine RunL.nil ?_
          refine Run.inBlock ?_
          refine Run.region ?_
          refine RunL.ok (OpOk.addN _ 1 rfl rfl rfl rfl (by omega)) rfl ?_
          refine RunL.ok (OpOk.move rfl) rfl ?_
          refine RunL.nil ?_
          have h9 : vz8.oneCell' = true := Rd.one rdz9
          have e0 : (Fl encRi Q).set (((ps.getD i default).2.2.2.getD j default).1 - 1).toNat vz8 = Fl encRi (Q.set (((ps.getD i default).2.2.2.getD j default).1 - 1).toNat (⟨vz8, h9⟩, ns ++ [((ps.getD i default).2.2.2.getD j default).2])) := Fl_set1 (enc := encRi) (u := vz8) (fun _ => rfl) hKQ (y := (⟨vz8, h9⟩, ns ++ [((ps.getD i default).2.2.2.getD j default).2])) rfl
          rw [e0]
          refine Run.mem (A' := A * (J2 * pts bz1 (.cells (Value.agg (encT132 ((ps.getD i default).2.2.2.getD j default)).toArray).cells 132 (0, 0)) * own 3 1 vz5 1 (I [((ps.getD i default).2.2.2.getD j default).2])) * own 35 1 vx1 k (Fl encRi (Q.set (((ps.getD i default).2.2.2.getD j default).1 - 1).toNat (⟨vz8, h9⟩, ns ++ [((ps.getD i default).2.2.2.getD j default).2]))) * ownsRi (Q.set (((ps.getD i default).2.2.2.getD j default).1 - 1).toNat (⟨vz8, h9⟩, ns ++ [((ps.getD i default).2.2.2.getD j default).2]))) ?_ ?_
          · rw [ownsRi_set hKQ, rone, List.length_append, List.length_singleton]
            dsimp only
            simp only [← sep_assoc]
            exact (frc (frl rfl) (frc (frl (frl (frl rfl))) rfl))
          · refine Run.jump ((ih2 (j + 1, _, Q.set (((ps.getD i default).2.2.2.getD j default).1 - 1).toNat (⟨vz8, h9⟩, ns ++ [((ps.getD i default).2.2.2.getD j default).2])) ⟨by dsimp only; omega, by dsimp only; rw [rows_set hQ, hnx], hok4⟩ (by dsimp only; omega))) ⟨rfl, rfl, rfl, rfl, rfl, rfl, rfl, rfl, trivial⟩ (Grew.of (congrArg (· * _) (congrArg (· * _) as1)) (Grew.refl _))
        · have e : totF (k : Int) (shs ps) = (2, []) := by
            rw [totF, if_neg hkk, if_neg]
            rw [okT_fail hlt hjt (by rw [okT, ← Bool.decide_and]; exact decide_eq_false hs)]
            decide
          rw [e]
          refine Run.seq ?_
          refine Run.region ?_
          refine RunL.ok (OpOk.asT (OpOk.lss rfl rfl) (by omega)) rfl ?_
          refine RunL.nil ?_
          refine Run.seq ?_
          refine Run.condT rfl ?_
          refine Run.skip ?_
          refine Run.seq ?_
          refine Run.block ?_
          refine Run.seq ?_
          refine Run.region ?_
          refine RunL.ok (OpOk.idxN rfl ti132 rfl rdi.left.left.left rfl (by omega)) rfl ?_
          refine RunL.ok (OpOk.loadFl default rfl rfl ti132 rfl rdi.left.left.left (fun _ => rfl) rfl (by omega)) rfl ?_
          refine RunL.alloc ti132 rfl (fun bz1 => ?_)
          refine RunL.storeAll ti132 rfl rfl rfl (fun w hw => OneC.one (enc := encT132) ((ps.getD i default).snd.snd.snd.getD j default) w hw) rfl rfl ?_
          refine RunL.nil ?_
          refine Run.seq ?_
          refine Run.seq ?_
          refine Run.region ?_
          refine RunL.ok (OpOk.fieldAddr fld132_0 rfl) rfl ?_
          refine RunL.ok (OpOk.load rfl rfl rfl (Blk.out Blk.pts _ _ (by first | rfl | assumption))) rfl ?_
          refine RunL.ok (OpOk.lss rfl rfl) rfl ?_
          refine RunL.ok (OpOk.move rfl) rfl ?_
          refine RunL.splitD (t := 40) rfl (fun z2 => ?_) (fun z2 => ?_)
          · refine RunL.off rfl rfl rfl rfl ?_
            refine RunL.off rfl rfl rfl rfl ?_
            refine RunL.off rfl rfl rfl rfl ?_
            refine RunL.off rfl rfl rfl rfl ?_
            refine RunL.ok (OpOk.pickT rfl rfl) rfl ?_
            refine RunL.nil ?_
            refine Run.condT rfl ?_
            refine Run.seq ?_
            refine Run.region ?_
            refine RunL.ok (OpOk.assign rfl) rfl ?_
            refine RunL.ok (OpOk.assign rfl) rfl ?_
            refine RunL.nil ?_
            refine Run.ent (Ent.ownNil' _ 3 1 (I []) rfl) ?_
            refine Run.ret2 Try.func17 rfl rfl rfl ?_
            exact ⟨_, _, rfl, (Eq.trans (frc rfl rfl) (congrArg (· * _) (asg (asg (asg as1)))))⟩
          refine RunL.on rfl rfl ?_
          refine RunL.ok (OpOk.fieldAddr fld132_0 rfl) rfl ?_
          refine RunL.on rfl rfl ?_
          refine RunL.ok (OpOk.load rfl rfl rfl (Blk.out Blk.pts _ _ (by first | rfl | assumption))) rfl ?_
          refine RunL.on rfl rfl ?_
          refine RunL.ok (OpOk.move rfl) rfl ?_
          refine RunL.on rfl rfl ?_
          refine RunL.ok (OpOk.asT (OpOk.gtr rfl rfl) (by omega)) rfl ?_
          refine RunL.ok (OpOk.pickF rfl rfl) rfl ?_
          refine RunL.nil ?_
          refine Run.condT rfl ?_
          refine Run.seq ?_
          refine Run.region ?_
          refine RunL.ok (OpOk.assign rfl) rfl ?_
          refine RunL.ok (OpOk.assign rfl) rfl ?_
          refine RunL.nil ?_
          refine Run.ent (Ent.ownNil' _ 3 1 (I []) rfl) ?_
          refine Run.ret2 Try.func17 rfl rfl rfl ?_
          exact ⟨_, _, rfl, (Eq.trans (frc rfl rfl) (congrArg (· * _) (asg (asg (asg as1)))))⟩
      · obtain rfl : j = (ps.getD i default).2.2.2.length := by omega
        clear ih2
        rw [List.take_length] at hQ hok2
        rw [← shs_next hlt] at hQ
        have hok3 : (shs (ps.take (i + 1))).all (okT k) = true := by rw [shs_next hlt, List.all_append, hok, hok2]; rfl
        refine Run.seq ?_
        refine Run.region ?_
        refine RunL.ok (OpOk.asF (OpOk.lss rfl rfl) (by omega)) rfl ?_
        refine RunL.nil ?_
        refine Run.seq ?_
        refine Run.condF rfl ?_
        refine Run.exit rfl ?_
        refine Run.inBlock ?_
        refine Run.region ?_
        refine RunL.ok (OpOk.addN _ 1 rfl rfl rfl rfl (by omega)) rfl ?_
        refine RunL.ok (OpOk.move rfl) rfl ?_
        refine RunL.nil ?_
        refine Run.jump ((ih (i + 1, _, Q) ⟨by dsimp only; omega, hQ, hok3⟩ (by dsimp only; omega))) ⟨rfl, rfl, rfl, rfl, rfl, trivial⟩ (Grew.of (congrArg (· * _) (congrArg (· * _) as1)) (Grew.refl _))
    · obtain rfl : i = ps.length := by omega
      clear ih
      rw [List.take_length] at hR hok
      have hRl : R.length = k := by have := congrArg List.length hR; rwa [List.length_map, rowsOf_len] at this
      have hall : ∀ s ∈ shs ps, okT (k : Int) s = true := fun s hs => List.all_eq_true.1 hok s hs
      have e : totF (k : Int) (shs ps) = match sumsO (rowsOf k (shs ps)) with | some o => (0, o) | none => (29, []) := by
        rw [totF, if_neg hkk, if_pos hok, Int.toNat_natCast]
        rfl
      refine Run.know (fun w s => s.ownsRi0) (fun alR => ?_)
      refine Run.seq ?_
      refine Run.region ?_
      refine RunL.ok (OpOk.asF (OpOk.lss rfl rfl) (by omega)) rfl ?_
      refine RunL.nil ?_
      refine Run.seq ?_
      refine Run.condF rfl ?_
      refine Run.exit rfl ?_
      refine Run.seq ?_
      refine Run.region ?_
      refine RunL.ok (OpOk.assign rfl) rfl ?_
      refine RunL.nil ?_
      refine Run.seq ?_
      refine Run.seq ?_
      refine Run.region ?_
      refine RunL.ok (OpOk.move rfl) rfl ?_
      refine RunL.know (fun w s => (s.conv (frl rfl)).ownRd0) (fun rdy1 => ?_)
      refine RunL.ok (OpOk.lenR rfl rfl (Rd.right rdy1).left rfl) rfl ?_
      refine RunL.ok (OpOk.move rfl) rfl ?_
      refine RunL.nil ?_
      refine Run.block ?_
      refine Run.ent (Ent.ownNil' _ 3 1 (I []) rfl) ?_
      refine Run.jump ((Run.loopJ (X := Nat × Asn × Value × List Int) (fun x => [(65, .int .i64 (x.1 : Int)), (64, .int .i64 (k : Int)), (63, vx1), (11, x.2.2.1)]) (fun x => A * x.2.1 * own 35 1 vx1 k (Fl encRi R) * ownsRi R * own 3 1 x.2.2.1 x.2.2.2.length (I x.2.2.2)) (fun x => x.1 ≤ k ∧ x.2.2.2.length = x.1 ∧ sumsO (rowsOf k (shs ps)) = (sumsO ((rowsOf k (shs ps)).drop x.1)).map (x.2.2.2 ++ ·)) (fun x => k - x.1) (0, _, .slice none 0 0, []) ⟨Nat.zero_le _, rfl, by dsimp only; rw [List.drop_zero]; cases sumsO (rowsOf k (shs ps)) <;> rfl⟩ (fun x hx ih => ?_))) ⟨rfl, rfl, rfl, rfl, trivial⟩ (Grew.of (Eq.trans (frc rfl rfl) (congrArg (· * _) (congrArg (· * _) (congrArg (· * _) as1)))) (Grew.refl _))
      obtain ⟨i, J2, vo, out⟩ := x
      simp only at hx ih ⊢
      obtain ⟨hi, hol, hso⟩ := hx
      rcases Nat.lt_or_ge i k with hlt | hge
      · have hg := rows_get hR (show i < R.length by omega)
        have rdr : Rd w0 (ownsRi R) (R.getD i default).1.1 1 (R.getD i default).2.length (I (R.getD i default).2) := alR.get (by omega)
        rw [sumsO_next (by rw [rowsOf_len]; exact hlt), ← hg] at hso
        have hinr : ∀ z ∈ (R.getD i default).2, inI z := by
          rw [hg, rowsOf_get hlt]
          exact amts_in hins
        obtain ⟨r, hr⟩ : ∃ r, R.getD i default = r := ⟨_, rfl⟩
        obtain ⟨sv, ns⟩ := r
        rw [hr] at rdr hso hinr
        dsimp only at rdr hso hinr
        cases hsum : sumO 0 ns with
        | none =>
          rw [hsum] at hso
          rw [e, hso]
          refine Run.seq ?_
          refine Run.region ?_
          refine RunL.ok (OpOk.asT (OpOk.lss rfl rfl) (by omega)) rfl ?_
          refine RunL.nil ?_
          refine Run.seq ?_
          refine Run.condT rfl ?_
          refine Run.skip ?_
          refine Run.seq ?_
          refine Run.block ?_
          refine Run.seq ?_
          refine Run.region ?_
          refine RunL.ok (OpOk.idx1N rfl ti35 rfl (Rd.right rdy1).left.left rfl (by omega)) rfl ?_
          refine RunL.ok (OpOk.loadRowE hr rfl rfl rfl (Rd.right rdy1).left.left (fun _ => rfl) (by omega) rfl) rfl ?_
          refine RunL.ok (OpOk.assign rfl) rfl ?_
          refine RunL.nil ?_
          refine Run.seq ?_
          refine Run.region ?_
          refine RunL.ok (OpOk.move rfl) rfl ?_
          refine RunL.call cal65 rfl (s65b (Rd.right rdr).left (by assumption) (by assumption)) rfl (fun vz2 Az2 hz2 => ?_)
          obtain ⟨rfl, rfl⟩ := hz2
          refine RunL.ok (OpOk.move rfl) rfl ?_
          refine RunL.ok (OpOk.ext20 rfl) rfl ?_
          refine RunL.ok (OpOk.ext21 rfl) rfl ?_
          refine RunL.ok (OpOk.assign rfl) rfl ?_
          refine RunL.ok (OpOk.assign rfl) rfl ?_
          refine RunL.nil ?_
          refine Run.seq ?_
          refine Run.seq ?_
          refine Run.region ?_
          refine RunL.ok (OpOk.move rfl) rfl ?_
          refine RunL.ok (OpOk.as (c := true) (OpOk.neq rfl rfl) (by rw [decide_eq_false (by omega)]; rfl)) rfl ?_
          refine RunL.nil ?_
          refine Run.condT rfl ?_
          refine Run.seq ?_
          refine Run.region ?_
          refine RunL.ok (OpOk.move rfl) rfl ?_
          refine RunL.ok (OpOk.assign rfl) rfl ?_
          refine RunL.ok (OpOk.assign rfl) rfl ?_
          refine RunL.nil ?_
          refine Run.ent (Ent.ownNil' _ 3 1 (I []) rfl) ?_
          refine Run.ret2 Try.func17 rfl rfl rfl ?_
          exact ⟨_, _, rfl, (Eq.trans (frc rfl rfl) (congrArg (· * _) (asg (asg (asg as1)))))⟩
        | some q =>
          rw [hsum] at hso
          have hso2 : sumsO (rowsOf k (shs ps)) = (sumsO ((rowsOf k (shs ps)).drop (i + 1))).map ((out ++ [q]) ++ ·) := by
            rw [hso]
            cases sumsO ((rowsOf k (shs ps)).drop (i + 1)) <;> simp
          refine Run.seq ?_
          refine Run.region ?_
          refine RunL.ok (OpOk.asT (OpOk.lss rfl rfl) (by omega)) rfl ?_
          refine RunL.nil ?_
          refine Run.seq ?_
          refine Run.condT rfl ?_
          refine Run.skip ?_
          refine Run.seq ?_
          refine Run.block ?_
          refine Run.seq ?_
          refine Run.region ?_
          refine RunL.ok (OpOk.idx1N rfl ti35 rfl (Rd.right rdy1).left.left rfl (by omega)) rfl ?_
          refine RunL.ok (OpOk.loadRowE hr rfl rfl rfl (Rd.right rdy1).left.left (fun _ => rfl) (by omega) rfl) rfl ?_
          refine RunL.ok (OpOk.assign rfl) rfl ?_
          refine RunL.nil ?_
          refine Run.seq ?_
          refine Run.region ?_
          refine RunL.ok (OpOk.move rfl) rfl ?_
          refine RunL.call cal65 rfl (s65a (Rd.right rdr).left (by assumption) (by assumption)) rfl (fun vz1 Az1 hz1 => ?_)
          obtain ⟨rfl, rfl⟩ := hz1
          refine RunL.ok (OpOk.move rfl) rfl ?_
          refine RunL.ok (OpOk.ext20 rfl) rfl ?_
          refine RunL.ok (OpOk.ext21 rfl) rfl ?_
          refine RunL.ok (OpOk.assign rfl) rfl ?_
          refine RunL.ok (OpOk.assign rfl) rfl ?_
          refine RunL.nil ?_
          refine Run.seq ?_
          refine Run.seq ?_
          refine Run.region ?_
          refine RunL.ok (OpOk.move rfl) rfl ?_
          refine RunL.ok (OpOk.as (c := false) (OpOk.neq rfl rfl) (by rw [decide_eq_true (by omega)]; rfl)) rfl ?_
          refine RunL.nil ?_
          refine Run.condF rfl ?_
          refine Run.skip ?_
          refine Run.region ?_
          refine RunL.ok (OpOk.move rfl) rfl ?_
          refine RunL.ok (OpOk.move rfl) rfl ?_
          refine RunL.litI (xs := [q]) rfl ti3 rfl rfl rfl (by decide) rfl (fun vz2 rdz2 => ?_)
          refine RunL.know (fun w s => (s.conv rfl).ownRd0) (fun rdz4 => ?_)
          refine RunL.appendI rfl ti3 rfl rfl rfl (frl rfl) (Rd.right rdz4) (by omega) rfl rfl (fun vz3 rdz3 => ?_)
          refine RunL.ok (OpOk.assign rfl) rfl ?_
          refine RunL.nil ?_
          refine Run.inBlock ?_
          refine Run.region ?_
          refine RunL.ok (OpOk.addN _ 1 rfl rfl rfl rfl (by omega)) rfl ?_
          refine RunL.ok (OpOk.move rfl) rfl ?_
          refine RunL.nil ?_
          rw [show out.length + 1 = (out ++ [q]).length by simp]
          refine Run.jump ((ih (i + 1, _, _, out ++ [q]) ⟨by dsimp only; omega, by simp [hol], hso2⟩ (by dsimp only; omega))) ⟨rfl, rfl, rfl, rfl, trivial⟩ (Grew.of (Eq.trans (frc rfl (frc (frl rfl) (frc (frl rfl) rfl))) (congrArg (· * _) (congrArg (· * _) (congrArg (· * _) (asg as1))))) (Grew.refl _))
      · obtain rfl : i = k := by omega
        clear ih
        have hd : (rowsOf i (shs ps)).drop i = [] := List.drop_eq_nil_of_le (by rw [rowsOf_len]; exact Nat.le_refl _)
        rw [hd] at hso
        have hso3 : sumsO (rowsOf i (shs ps)) = some out := by rw [hso]; simp [sumsO]
        rw [e, hso3]
        refine Run.seq ?_
        refine Run.region ?_
        refine RunL.ok (OpOk.asF (OpOk.lss rfl rfl) (by omega)) rfl ?_
        refine RunL.nil ?_
        refine Run.seq ?_
        refine Run.condF rfl ?_
        refine Run.exit rfl ?_
        refine Run.seq ?_
        refine Run.region ?_
        refine RunL.ok (OpOk.move rfl) rfl ?_
        refine RunL.ok (OpOk.assign rfl) rfl ?_
        refine RunL.ok (OpOk.assign rfl) rfl ?_
        refine RunL.nil ?_
        refine Run.ret2 Try.func17 rfl rfl rfl ?_
        exact ⟨_, _, rfl, (congrArg (· * _) (asg (asg as1)))⟩
end
end Go.Proofs.Yteopadjihklkmaa
