/- The law RouterApart, walked. -/
import Derived.Test.YtegbfnibjgpbpaaRtO
namespace Go.Proofs.Ytegbfnibjgpbpaa
open Go Go.Proofs
set_option maxRecDepth 100000
set_option maxHeartbeats 4000000
set_option linter.unusedSimpArgs false
section
variable {w0 : World} {A : Asn}
theorem routerApart_spec {room to : Int} {u : Value} {P : List ROp} (rd : Rd w0 (old w0) u 3 P.length (Fl encT74 P)) (hok : ∀ o ∈ P, ROpG w0 o) :
    Spec Try.prog w0 11 [.int .i64 room, u, .int .i64 to] (old w0) (fun v' A' => v' = .bool true ∧ Grew (old w0) A') := by
  have hmx := rd.max
  obtain ⟨r, rw_r, hr1, hr2⟩ := mod_16 room
  obtain ⟨t, rw_t, ht4⟩ := mod_4 to
  have hQ0 : (List.replicate 4 q0).length = 4 := rfl
  have hR0 := RowB.new r (by omega) 4
  have hB0 := BodB.new 4
  refine Spec.of_run [(0, .int .i64 room), (1, u), (2, .int .i64 to)] Try.func11 rfl (Nat.le_of_ble_eq_true rfl) (by repeat (first | exact trivial | refine ⟨rfl, ?_⟩)) ?_
  refine Run.seq ?_
  refine Run.region ?_
  refine RunL.ok (OpOk.assign rfl) rfl ?_
  refine RunL.nil ?_
  refine Run.seq ?_
  refine Run.seq ?_
  refine Run.region ?_
  refine RunL.call cal40 rfl (s40) rfl (fun vx1 Ax1 hx1 => ?_)
  obtain ⟨x2, ⟨rfl, rfl⟩⟩ := hx1
  refine RunL.ok (OpOk.not rfl) rfl ?_
  refine RunL.nil ?_
  refine Run.condF rfl ?_
  refine Run.skip ?_
  refine Run.seq ?_
  refine Run.region ?_
  refine RunL.ok (OpOk.move rfl) rfl ?_
  refine RunL.ok (OpOk.rem rfl rfl (by decide) rfl) rfl ?_
  refine RunL.ok (OpOk.add rfl rfl rfl) rfl ?_
  refine RunL.ok (OpOk.rem rfl rfl (by decide) rfl) rfl ?_
  refine RunL.ok (OpOk.add rfl rfl rfl) rfl ?_
  refine RunL.ok (OpOk.assign rfl) rfl ?_
  refine RunL.nil ?_
  refine Run.seq ?_
  rw [rw_r]
  refine Run.region ?_
  refine RunL.ok (OpOk.move rfl) rfl ?_
  refine RunL.call cal41 rfl (s41b (by decide) (by decide) (by assumption) (by assumption)) rfl (fun vx4 Ax4 hx4 => ?_)
  obtain ⟨x5, ⟨x6, ⟨rfl, rfl⟩⟩⟩ := hx4
  refine RunL.ok (OpOk.move rfl) rfl ?_
  refine RunL.ok (OpOk.ext20 rfl) rfl ?_
  refine RunL.ok (OpOk.ext21 rfl) rfl ?_
  refine RunL.ok (OpOk.assign rfl) rfl ?_
  refine RunL.ok (OpOk.assign rfl) rfl ?_
  refine RunL.nil ?_
  refine Run.seq ?_
  refine Run.region ?_
  refine RunL.ok (OpOk.move rfl) rfl ?_
  refine RunL.call cal41 rfl (s41b (by decide) (by decide) (by assumption) (by assumption)) rfl (fun vx8 Ax8 hx8 => ?_)
  obtain ⟨x9, ⟨x10, ⟨rfl, rfl⟩⟩⟩ := hx8
  refine RunL.ok (OpOk.move rfl) rfl ?_
  refine RunL.ok (OpOk.ext20 rfl) rfl ?_
  refine RunL.ok (OpOk.ext21 rfl) rfl ?_
  refine RunL.ok (OpOk.assign rfl) rfl ?_
  refine RunL.ok (OpOk.assign rfl) rfl ?_
  refine RunL.nil ?_
  refine Run.seq ?_
  refine Run.seq ?_
  refine Run.region ?_
  refine RunL.ok (OpOk.move rfl) rfl ?_
  refine RunL.ok (OpOk.eqlPN rfl rfl) rfl ?_
  refine RunL.ok (OpOk.move rfl) rfl ?_
  refine RunL.on rfl rfl ?_
  refine RunL.ok (OpOk.move rfl) rfl ?_
  refine RunL.on rfl rfl ?_
  refine RunL.ok (OpOk.eqlPN rfl rfl) rfl ?_
  refine RunL.ok (OpOk.pickF rfl rfl) rfl ?_
  refine RunL.ok (OpOk.move rfl) rfl ?_
  refine RunL.on rfl rfl ?_
  refine RunL.ok (OpOk.move rfl) rfl ?_
  refine RunL.on rfl rfl ?_
  refine RunL.ok (OpOk.as (c := false) (OpOk.neq rfl rfl) (by rw [decide_eq_true (by omega)]; rfl)) rfl ?_
  refine RunL.ok (OpOk.pickF rfl rfl) rfl ?_
  refine RunL.ok (OpOk.move rfl) rfl ?_
  refine RunL.on rfl rfl ?_
  refine RunL.ok (OpOk.move rfl) rfl ?_
  refine RunL.on rfl rfl ?_
  refine RunL.ok (OpOk.as (c := false) (OpOk.neq rfl rfl) (by rw [decide_eq_true (by omega)]; rfl)) rfl ?_
  refine RunL.ok (OpOk.pickF rfl rfl) rfl ?_
  refine RunL.nil ?_
  refine Run.condF rfl ?_
  refine Run.skip ?_
  refine Run.seq ?_
  refine Run.region ?_
  refine RunL.ok (OpOk.move rfl) rfl ?_
  refine RunL.ok (OpOk.rem rfl rfl (by decide) rfl) rfl ?_
  refine RunL.ok (OpOk.add rfl rfl rfl) rfl ?_
  refine RunL.ok (OpOk.rem rfl rfl (by decide) rfl) rfl ?_
  refine RunL.ok (OpOk.assign rfl) rfl ?_
  refine RunL.nil ?_
  refine Run.seq ?_
  refine Run.seq ?_
  rw [rw_t]
  refine Run.region ?_
  refine RunL.ok (OpOk.assign rfl) rfl ?_
  refine RunL.nil ?_
  refine Run.block ?_
  rw [show (3 : Nat) + 1 = 4 from rfl]
  refine Run.jump ((Run.loopJ (X := Nat × Asn × (List Qu × Int) × (List Qu × Int)) (fun x => [(13, .int .i64 (x.1 : Int)), (12, .int .i64 (t : Int)), (10, .pointer (some ⟨x9, 0, none⟩)), (8, .pointer (some ⟨x5, 0, none⟩)), (1, u)]) (fun x => old w0 * x.2.1 * pts x5 (.cells #[x6, .int .i64 r, .int .i64 x.2.2.1.2] 119 (0, 0)) * own 123 1 x6 4 (Fl encT123 (x.2.2.1.1)) * ownsQ (x.2.2.1.1) * pts x9 (.cells #[x10, .int .i64 r, .int .i64 x.2.2.2.2] 119 (0, 0)) * own 123 1 x10 4 (Fl encT123 (x.2.2.2.1)) * ownsQ (x.2.2.2.1)) (fun x => x.1 ≤ P.length ∧ x.1 ≤ 100 ∧ (x.2.2.1.1.length = 4 ∧ RowB r (cQ x.2.2.1.1) ∧ BodB (cQ x.2.2.1.1) ∧ 0 ≤ x.2.2.1.2 ∧ x.2.2.1.2 ≤ 2513169434844 * (x.1 : Int)) ∧ (x.2.2.2.1.length = 4 ∧ RowB r (cQ x.2.2.2.1) ∧ BodB (cQ x.2.2.2.1) ∧ 0 ≤ x.2.2.2.2 ∧ x.2.2.2.2 ≤ 2513169434844 * (x.1 : Int)) ∧ (cQ x.2.2.1.1).getD t [] = (cQ x.2.2.2.1).getD t []) (fun x => P.length - x.1) (0, _, (List.replicate 4 q0, 0), (List.replicate 4 q0, 0)) ⟨Nat.zero_le _, Nat.zero_le _, ⟨hQ0, hR0, hB0, Int.le_refl _, by simp⟩, ⟨hQ0, hR0, hB0, Int.le_refl _, by simp⟩, rfl⟩ (fun x hx ih => ?_))) ⟨rfl, rfl, rfl, rfl, rfl, trivial⟩ (Grew.of (congrArg (· * _) (congrArg (· * _) (congrArg (· * _) (congrArg (· * _) (congrArg (· * _) (congrArg (· * _) as1)))))) (Grew.refl _))
  obtain ⟨i, J, ⟨Qa, ra⟩, ⟨Qb, rb⟩⟩ := x
  simp only at hx ih ⊢
  obtain ⟨hi, hi1, ⟨hQa, hRa, hBa, hra0, hra1⟩, ⟨hQb, hRb, hBb, hrb0, hrb1⟩, hrow⟩ := hx
  rcases Nat.lt_or_ge i P.length with hlt | hge
  · rcases Nat.lt_or_ge i 100 with h100 | h100
    · have ho := hok _ (getD_mem hlt)
      obtain ⟨o, hoe⟩ : ∃ o, P.getD i default = o := ⟨_, rfl⟩
      rw [hoe] at ho
      obtain ⟨ok, ot, osv, ol⟩ := o
      have hord := ho.rd
      have hoal := ho.al
      have hobd := ho.bd
      have honm := ho.nm
      dsimp only at hord hoal hobd honm
      have hCa : (cQ Qa).length = 4 := by rw [cQ_len]; exact hQa
      have hCb : (cQ Qb).length = 4 := by rw [cQ_len]; exact hQb
      rcases Decidable.em (ok = 0) with hk0 | hk0
      · subst hk0
        refine Run.seq ?_
        refine Run.seq ?_
        refine Run.region ?_
        refine RunL.ok (OpOk.move rfl) rfl ?_
        refine RunL.ok (OpOk.move rfl) rfl ?_
        refine RunL.ok (OpOk.lenR rfl rfl rd.left.left.left.left.left.left.left rfl) rfl ?_
        refine RunL.ok (OpOk.asT (OpOk.lss rfl rfl) (by omega)) rfl ?_
        refine RunL.ok (OpOk.move rfl) rfl ?_
        refine RunL.on rfl rfl ?_
        refine RunL.ok (OpOk.move rfl) rfl ?_
        refine RunL.on rfl rfl ?_
        refine RunL.ok (OpOk.asT (OpOk.lss rfl rfl) (by omega)) rfl ?_
        refine RunL.ok (OpOk.pickT rfl rfl) rfl ?_
        refine RunL.nil ?_
        refine Run.condT rfl ?_
        refine Run.skip ?_
        refine Run.seq ?_
        refine Run.block ?_
        refine Run.seq ?_
        refine Run.region ?_
        refine RunL.ok (OpOk.move rfl) rfl ?_
        refine RunL.ok (OpOk.move rfl) rfl ?_
        refine RunL.ok (OpOk.idxN rfl ti74 rfl rd.left.left.left.left.left.left.left rfl (by omega)) rfl ?_
        refine RunL.ok (OpOk.loadFlE (by assumption) rfl rfl ti74 rfl rd.left.left.left.left.left.left.left (fun _ => rfl) rfl (by omega)) rfl ?_
        refine RunL.alloc ti74 rfl (fun by1 => ?_)
        refine RunL.storeAll ti74 rfl rfl rfl (fun w hw => OneC.one (enc := encT74) ((0, ot, osv, ol)) w hw) rfl rfl ?_
        refine RunL.nil ?_
        refine Run.seq ?_
        refine Run.seq ?_
        refine Run.region ?_
        refine RunL.ok (OpOk.fieldAddr fld74_0 rfl) rfl ?_
        refine RunL.ok (OpOk.load rfl rfl rfl (Blk.out Blk.pts _ _ (by first | rfl | assumption))) rfl ?_
        refine RunL.ok (OpOk.asT (OpOk.eql rfl rfl) (by omega)) rfl ?_
        refine RunL.nil ?_
        refine Run.condT rfl ?_
        refine Run.seq ?_
        refine Run.region ?_
        refine RunL.ok (OpOk.move rfl) rfl ?_
        refine RunL.ok (OpOk.fieldAddr fld74_2 rfl) rfl ?_
        refine RunL.ok (OpOk.load rfl rfl rfl (Blk.out Blk.pts _ _ (by first | rfl | assumption))) rfl ?_
        refine RunL.call cal42 rfl (s42 hord.left.left.left.left.left.left.left.left hoal.left.left.left.left.left.left.left.left (by assumption) (by assumption)) rfl (fun vy2 Ay2 hy2 => ?_)
        obtain ⟨y3, ⟨y4, ⟨y5, rfl⟩⟩⟩ := hy2
        refine RunL.know (fun w s => (s.conv rfl).ownsM0) (fun aly6 => ?_)
        refine RunL.know (fun w s => (s.conv (frl rfl)).ownRd0) (fun rdy7 => ?_)
        refine RunL.mem (frc (frl (frl (frl (frl (frl (frl (frl rfl))))))) (frc (frl (frl (frl (frl (frl (frl (frl rfl))))))) (frc (frl (frl (frl (frl (frl (frl (frl rfl))))))) rfl))) ?_
        have hybd := cm_bd y5 hobd
        have hyl : y3.length = ol.length := by simpa using congrArg List.length y5
        have hct : countC r (cQ Qa) (y3.map cm) ≤ y3.length := by simpa using countC_le r (cQ Qa) _ (y3.map cm) rfl
        obtain ⟨N, hN⟩ : ∃ N, N = countC r (cQ Qa) (y3.map cm) := ⟨_, rfl⟩
        rw [← hN] at hct
        have hRa2 := row_offers (room := r) (y3.map cm) hRa
        have hBa2 := bod_offers (room := r) hBa (bd_cm hybd)
        refine RunL.call cal43 rfl (s43 (Rd.right rdy7).left (Alls.right aly6) (by assumption) (by assumption) (by assumption) (by assumption) (by omega) (by omega)) rfl (fun vz1 Az1 hz1 => ?_)
        obtain ⟨z2, ⟨z3, ⟨rfl, ⟨z4, ⟨z5, rfl⟩⟩⟩⟩⟩ := hz1
        refine RunL.nil ?_
        refine Run.seq ?_
        refine Run.region ?_
        refine RunL.ok (OpOk.assign rfl) rfl ?_
        refine RunL.nil ?_
        refine Run.block ?_
        rw [← hN]
        refine Run.jump ((Run.loopJ (X := Nat × Asn × List Qu × Int) (fun x => [(15, .int .i64 (x.1 : Int)), (14, .pointer (some ⟨by1, 0, none⟩)), (13, .int .i64 (i : Int)), (12, .int .i64 (t : Int)), (10, .pointer (some ⟨x9, 0, none⟩)), (8, .pointer (some ⟨x5, 0, none⟩)), (1, u)]) (fun x => old w0 * x.2.1 * pts by1 (.cells (Value.agg (encT74 (0, ot, osv, ol)).toArray).cells 74 (0, 0)) * pts x5 (.cells #[x6, .int .i64 r, .int .i64 (ra + (y3.length : Int) - (N : Int))] 119 (0, 0)) * own 123 1 x6 4 (Fl encT123 (z2)) * ownsQ (z2) * pts x9 (.cells #[x10, .int .i64 r, .int .i64 x.2.2.2] 119 (0, 0)) * own 123 1 x10 4 (Fl encT123 (x.2.2.1)) * ownsQ (x.2.2.1)) (fun x => x.1 ≤ ol.length ∧ x.2.2.1.length = 4 ∧ RowB r (cQ x.2.2.1) ∧ BodB (cQ x.2.2.1) ∧ 0 ≤ x.2.2.2 ∧ x.2.2.2 ≤ rb + (x.1 : Int) ∧ (offersC r (cQ Qa) ((ol.take x.1).map cm)).getD t [] = (cQ x.2.2.1).getD t []) (fun x => ol.length - x.1) (0, _, Qb, rb) ⟨Nat.zero_le _, hQb, hRb, hBb, hrb0, by simp, hrow⟩ (fun x hx ihk => ?_))) ⟨rfl, rfl, rfl, rfl, rfl, rfl, rfl, trivial⟩ (Grew.of (Eq.trans (frc (frl (frl (frl (frl (frl (frl (frl (frl rfl)))))))) (frc (frl (frl (frl (frl (frl (frl (frl (frl rfl)))))))) (frc (frl (frl (frl (frl (frl (frl (frl (frl rfl)))))))) (frc rfl (frc rfl (frc rfl (frc (frl (frl (frl (frl rfl)))) rfl))))))) (congrArg (· * _) (congrArg (· * _) (congrArg (· * _) (congrArg (· * _) (congrArg (· * _) (congrArg (· * _) (congrArg (· * _) (asg (asg (asg (asg as1)))))))))))) (Grew.refl _))
        obtain ⟨q, J1, Qd, rd2⟩ := x
        simp only at hx ihk ⊢
        obtain ⟨hq, hQd, hRd, hBd, hrd0, hrd1, hrowd⟩ := hx
        rcases Nat.lt_or_ge q ol.length with hql | hqg
        · have hs1 := offersC_snoc r (cQ Qa) ((ol.take q).map cm) (cm (ol.getD q default))
          have et : (ol.take q).map cm ++ [cm (ol.getD q default)] = (ol.take (q + 1)).map cm := by rw [take_next hql, List.map_append]; rfl
          rw [et] at hs1
          have hgm := hoal.at_ _ (getD_mem hql)
          have hgb := hobd _ (getD_mem hql)
          have hst := row_step (room := r) (C := offersC r (cQ Qa) ((ol.take q).map cm)) (m := cm (ol.getD q default)) (t := t) (by rw [offersC_len]; omega)
          rw [← hs1] at hst
          obtain ⟨o2, hoe2⟩ : ∃ o, ol.getD q default = o := ⟨_, rfl⟩
          rw [hoe2] at hst hgm hgb
          obtain ⟨mk, mf, mt, msv, mo, mb⟩ := o2
          rcases Decidable.em (mt = (t : Int)) with hmt | hmt
          · subst hmt
            rw [show (cm (mk, mf, (t : Int), msv, mo, mb)).2.2.1 = (t : Int) from rfl, if_pos rfl, hrowd] at hst
            have rdc : Rd w0 (old w0) (cutV osv.1 q (q + 1) 5) 5 1 (Fl encT82 [(mk, mf, (t : Int), msv, mo, mb)]) := by
              have h := Rd.cutV hord (i := q) (j := q + 1) (by omega) (by omega)
              rw [show q + 1 - q = 1 by omega, FlDrop (enc := encT82) (s := 5) (fun _ => rfl), FlTake (enc := encT82) (s := 5) (fun _ => rfl), drop_next hql, hoe2] at h
              exact h
            have alc : Alls (GM w0) (old w0) [(mk, mf, (t : Int), msv, mo, mb)] := Alls.cons hgm Alls.nil
            have hbc : ∀ m ∈ [(mk, mf, (t : Int), msv, mo, mb)], m.2.2.2.2.2.length ≤ 140737488351232 := fun m hm => by rw [List.mem_singleton.1 hm]; exact hgb
            refine Run.seq ?_
            refine Run.seq ?_
            refine Run.region ?_
            refine RunL.ok (OpOk.move rfl) rfl ?_
            refine RunL.ok (OpOk.fieldAddr fld74_2 rfl) rfl ?_
            refine RunL.ok (OpOk.load rfl rfl rfl (Blk.out Blk.pts.left.left.left.left.left.left _ _ (by first | rfl | assumption))) rfl ?_
            refine RunL.ok (OpOk.lenR rfl rfl hord.left.left.left.left.left.left.left.left rfl) rfl ?_
            refine RunL.ok (OpOk.asT (OpOk.lss rfl rfl) (by omega)) rfl ?_
            refine RunL.nil ?_
            refine Run.condT rfl ?_
            refine Run.skip ?_
            refine Run.seq ?_
            refine Run.block ?_
            refine Run.seq ?_
            refine Run.region ?_
            refine RunL.ok (OpOk.fieldAddr fld74_2 rfl) rfl ?_
            refine RunL.ok (OpOk.load rfl rfl rfl (Blk.out Blk.pts.left.left.left.left.left.left _ _ (by first | rfl | assumption))) rfl ?_
            refine RunL.ok (OpOk.move rfl) rfl ?_
            refine RunL.ok (OpOk.idxN rfl ti82 rfl hord.left.left.left.left.left.left.left.left rfl (by omega)) rfl ?_
            refine RunL.ok (OpOk.fieldAddrA fld82_2 rfl) rfl ?_
            refine RunL.ok (OpOk.loadFl1E hoe2 rfl rfl rfl hord.left.left.left.left.left.left.left.left (fun _ => rfl) rfl (by omega) rfl) rfl ?_
            refine RunL.ok (OpOk.move rfl) rfl ?_
            refine RunL.ok (OpOk.asT (OpOk.eql rfl rfl) (by omega)) rfl ?_
            refine RunL.nil ?_
            refine Run.condT rfl ?_
            refine Run.region ?_
            refine RunL.ok (OpOk.move rfl) rfl ?_
            refine RunL.ok (OpOk.fieldAddr fld74_2 rfl) rfl ?_
            refine RunL.ok (OpOk.load rfl rfl rfl (Blk.out Blk.pts.left.left.left.left.left.left _ _ (by first | rfl | assumption))) rfl ?_
            refine RunL.ok (OpOk.move rfl) rfl ?_
            refine RunL.ok (OpOk.move rfl) rfl ?_
            refine RunL.ok (OpOk.addN _ 1 rfl rfl rfl rfl (by omega)) rfl ?_
            refine RunL.ok (OpOk.cut rfl ti82 rfl hord.left.left.left.left.left.left.left.left ⟨_, rfl⟩ ⟨_, rfl⟩ (by omega) (by omega)) rfl ?_
            refine RunL.call cal42 rfl (s42 rdc.left.left.left.left.left.left.left.left alc.left.left.left.left.left.left.left.left (by assumption) (by omega)) rfl (fun vs1 As1 hs1 => ?_)
            obtain ⟨s2, ⟨s3, ⟨s4, rfl⟩⟩⟩ := hs1
            refine RunL.know (fun w s => (s.conv rfl).ownsM0) (fun als5 => ?_)
            refine RunL.know (fun w s => (s.conv (frl rfl)).ownRd0) (fun rds6 => ?_)
            refine RunL.mem (frc (frl (frl (frl rfl))) (frc (frl (frl (frl rfl))) (frc (frl (frl (frl rfl))) rfl))) ?_
            have hsbd := cm_bd s4 hbc
            have hsl : s2.length = 1 := by simpa using congrArg List.length s4
            have hsc : countC r (cQ Qd) (s2.map cm) ≤ 1 := by
              have := countC_le r (cQ Qd) _ (s2.map cm) rfl
              rw [List.length_map, hsl] at this
              exact this
            have hRd3 := row_offer (m := cm (mk, mf, (t : Int), msv, mo, mb)) hRd
            have hBd3 := bod_offer (room := r) (m := cm (mk, mf, (t : Int), msv, mo, mb)) hBd hgb
            have hst3 := row_step (room := r) (C := cQ Qd) (m := cm (mk, mf, (t : Int), msv, mo, mb)) (t := t) (by rw [cQ_len]; omega)
            rw [show (cm (mk, mf, (t : Int), msv, mo, mb)).2.2.1 = (t : Int) from rfl, if_pos rfl] at hst3
            refine RunL.call cal43 rfl (s43 (Rd.right rds6).left (Alls.right als5) (by assumption) (by assumption) (by assumption) (by assumption) (by omega) (by omega)) rfl (fun vv1 Av1 hv1 => ?_)
            obtain ⟨v2, ⟨v3, ⟨rfl, ⟨v4, ⟨v5, rfl⟩⟩⟩⟩⟩ := hv1
            refine RunL.nil ?_
            refine Run.inBlock ?_
            refine Run.region ?_
            refine RunL.ok (OpOk.move rfl) rfl ?_
            refine RunL.ok (OpOk.addN _ 1 rfl rfl rfl rfl (by omega)) rfl ?_
            refine RunL.ok (OpOk.assign rfl) rfl ?_
            refine RunL.nil ?_
            have hv5 : cQ v2 = offerC r (cQ Qd) (cm (mk, mf, (t : Int), msv, mo, mb)) := by rw [v5, s4]; rfl
            rw [← hv5] at hRd3 hBd3 hst3
            refine Run.jump ((ihk (q + 1, _, v2, rd2 + (s2.length : Int) - (countC r (cQ Qd) (s2.map cm) : Int)) ⟨by dsimp only; omega, v4, hRd3, hBd3, by dsimp only; omega, by dsimp only; omega, hst.trans hst3.symm⟩ (by dsimp only; omega))) ⟨rfl, rfl, rfl, rfl, rfl, rfl, rfl, trivial⟩ (Grew.of (Eq.trans (frc rfl (frc rfl (frc rfl (frc (frl (frl (frl (frl rfl)))) (frc (frl (frl (frl (frl rfl)))) (frc (frl (frl (frl (frl rfl)))) (frc (frl (frl (frl (frl rfl)))) rfl))))))) (congrArg (· * _) (congrArg (· * _) (congrArg (· * _) (congrArg (· * _) (congrArg (· * _) (congrArg (· * _) (congrArg (· * _) (asg (asg (asg (asg as1)))))))))))) (Grew.refl _))
          · rw [show (cm (mk, mf, mt, msv, mo, mb)).2.2.1 = mt from rfl, if_neg hmt, hrowd] at hst
            refine Run.seq ?_
            refine Run.seq ?_
            refine Run.region ?_
            refine RunL.ok (OpOk.move rfl) rfl ?_
            refine RunL.ok (OpOk.fieldAddr fld74_2 rfl) rfl ?_
            refine RunL.ok (OpOk.load rfl rfl rfl (Blk.out Blk.pts.left.left.left.left.left.left _ _ (by first | rfl | assumption))) rfl ?_
            refine RunL.ok (OpOk.lenR rfl rfl hord.left.left.left.left.left.left.left.left rfl) rfl ?_
            refine RunL.ok (OpOk.asT (OpOk.lss rfl rfl) (by omega)) rfl ?_
            refine RunL.nil ?_
            refine Run.condT rfl ?_
            refine Run.skip ?_
            refine Run.seq ?_
            refine Run.block ?_
            refine Run.seq ?_
            refine Run.region ?_
            refine RunL.ok (OpOk.fieldAddr fld74_2 rfl) rfl ?_
            refine RunL.ok (OpOk.load rfl rfl rfl (Blk.out Blk.pts.left.left.left.left.left.left _ _ (by first | rfl | assumption))) rfl ?_
            refine RunL.ok (OpOk.move rfl) rfl ?_
            refine RunL.ok (OpOk.idxN rfl ti82 rfl hord.left.left.left.left.left.left.left.left rfl (by omega)) rfl ?_
            refine RunL.ok (OpOk.fieldAddrA fld82_2 rfl) rfl ?_
            refine RunL.ok (OpOk.loadFl1E hoe2 rfl rfl rfl hord.left.left.left.left.left.left.left.left (fun _ => rfl) rfl (by omega) rfl) rfl ?_
            refine RunL.ok (OpOk.move rfl) rfl ?_
            refine RunL.ok (OpOk.asF (OpOk.eql rfl rfl) (by omega)) rfl ?_
            refine RunL.nil ?_
            refine Run.condF rfl ?_
            refine Run.skip ?_
            refine Run.inBlock ?_
            refine Run.region ?_
            refine RunL.ok (OpOk.move rfl) rfl ?_
            refine RunL.ok (OpOk.addN _ 1 rfl rfl rfl rfl (by omega)) rfl ?_
            refine RunL.ok (OpOk.assign rfl) rfl ?_
            refine RunL.nil ?_
            refine Run.jump ((ihk (q + 1, _, Qd, rd2) ⟨by dsimp only; omega, hQd, hRd, hBd, hrd0, by dsimp only; omega, hst⟩ (by dsimp only; omega))) ⟨rfl, rfl, rfl, rfl, rfl, rfl, rfl, trivial⟩ (Grew.of (congrArg (· * _) (congrArg (· * _) (congrArg (· * _) (congrArg (· * _) (congrArg (· * _) (congrArg (· * _) (congrArg (· * _) as1))))))) (Grew.refl _))
        · obtain rfl : q = ol.length := by omega
          clear ihk
          rw [List.take_length, ← y5, ← z5] at hrowd
          rw [← z5] at hRa2 hBa2
          refine Run.seq ?_
          refine Run.seq ?_
          refine Run.region ?_
          refine RunL.ok (OpOk.move rfl) rfl ?_
          refine RunL.ok (OpOk.fieldAddr fld74_2 rfl) rfl ?_
          refine RunL.ok (OpOk.load rfl rfl rfl (Blk.out Blk.pts.left.left.left.left.left.left _ _ (by first | rfl | assumption))) rfl ?_
          refine RunL.ok (OpOk.lenR rfl rfl hord.left.left.left.left.left.left.left.left rfl) rfl ?_
          refine RunL.ok (OpOk.asF (OpOk.lss rfl rfl) (by omega)) rfl ?_
          refine RunL.nil ?_
          refine Run.condF rfl ?_
          refine Run.exit rfl ?_
          refine Run.seq ?_
          refine Run.region ?_
          refine RunL.ok (OpOk.move rfl) rfl ?_
          refine RunL.ok (OpOk.move rfl) rfl ?_
          refine RunL.mem (frc (frl (frl (frl rfl))) (frc (frl (frl (frl rfl))) (frc (frl (frl (frl rfl))) rfl))) ?_
          have hwA := wait_row (C := cQ z2) (t := t) (by rw [cQ_len]; omega)
          have hwB := wait_row (C := cQ Qd) (t := t) (by rw [cQ_len]; omega)
          rw [← hrowd] at hwB
          have hwb := hBa2 t (by rw [cQ_len]; omega)
          have hra := hRa2
          have hrb := hRd
          refine RunL.call cal49 rfl (s49 (by assumption) (by assumption) (by assumption) (by assumption) (by assumption)) rfl (fun vv1 Av1 hv1 => ?_)
          obtain ⟨v2, ⟨v3, ⟨v4, rfl⟩⟩⟩ := hv1
          refine RunL.ok (OpOk.move rfl) rfl ?_
          refine RunL.ok (OpOk.move rfl) rfl ?_
          refine RunL.know (fun w s => (s.conv rfl).ownsM0) (fun alv5 => ?_)
          refine RunL.mem (frc (frl (frl (frl (frl (frl (frl rfl)))))) (frc (frl (frl (frl (frl (frl (frl rfl)))))) (frc (frl (frl (frl (frl (frl (frl rfl)))))) rfl))) ?_
          refine RunL.call cal49 rfl (s49 (by assumption) (by assumption) (by assumption) (by assumption) (by assumption)) rfl (fun vv6 Av6 hv6 => ?_)
          obtain ⟨v7, ⟨v8, ⟨v9, rfl⟩⟩⟩ := hv6
          refine RunL.know (fun w s => (s.conv rfl).ownsM0) (fun alv10 => ?_)
          refine RunL.know (fun w s => (s.conv (frl (frl (frl (frl (frl (frl (frl rfl)))))))).ownRd0) (fun rdv11 => ?_)
          refine RunL.know (fun w s => (s.conv (frl rfl)).ownRd0) (fun rdv12 => ?_)
          refine RunL.call cal45 rfl (s45 (Rd.right rdv11).left.left.left.left.left.left.left (Alls.right alv5).left.left.left.left.left.left (Rd.right rdv12).left (Alls.right alv10)) rfl (fun vv13 Av13 hv13 => ?_)
          obtain ⟨v14, ⟨rfl, rfl⟩⟩ := hv13
          refine RunL.ok (OpOk.not rfl) rfl ?_
          refine RunL.nil ?_
          refine Run.condN rfl (fun v15 => ?_) (fun v15 => ?_)
          · refine Run.seq ?_
            refine Run.region ?_
            refine RunL.ok (OpOk.assign rfl) rfl ?_
            refine RunL.nil ?_
            refine Run.ret1 Try.func11 rfl rfl ?_
            exact absurd (v4.trans v9.symm) v15
          refine Run.skip ?_
          refine Run.inBlock ?_
          refine Run.region ?_
          refine RunL.ok (OpOk.move rfl) rfl ?_
          refine RunL.ok (OpOk.addN _ 1 rfl rfl rfl rfl (by omega)) rfl ?_
          refine RunL.ok (OpOk.assign rfl) rfl ?_
          refine RunL.nil ?_
          refine Run.jump ((ih (i + 1, _, (z2, (ra + (y3.length : Int) - (N : Int))), (Qd, rd2)) ⟨by dsimp only; omega, by dsimp only; omega, ⟨z4, hRa2, hBa2, (by constructor <;> (dsimp only; omega))⟩, ⟨hQd, hRd, hBd, (by constructor <;> (dsimp only; omega))⟩, hrowd⟩ (by dsimp only; omega))) ⟨rfl, rfl, rfl, rfl, rfl, trivial⟩ (Grew.of (Eq.trans (frc (frl (frl (frl rfl))) (frc (frl (frl (frl rfl))) (frc (frl (frl (frl rfl))) (frc (frl (frl (frl (frl (frl (frl rfl)))))) (frc (frl (frl (frl (frl (frl (frl rfl)))))) (frc (frl (frl (frl (frl (frl (frl rfl)))))) rfl)))))) (congrArg (· * _) (congrArg (· * _) (congrArg (· * _) (congrArg (· * _) (congrArg (· * _) (congrArg (· * _) (asg (asg (asg (asg (asg (asg (asg (asg as1))))))))))))))) (Grew.refl _))
      · rcases hnx : nextC (cQ Qa) ot with ⟨⟨xk, xf, xt, xo, xb⟩, e, C2⟩
        have hRa2 := row_next hnx hRa
        have hBa2 := bod_next hnx hBa
        have hrw2 := next_row hnx (t := t) (by omega)
        rcases Decidable.em (ot = (t : Int)) with hot | hot
        · subst hot
          obtain ⟨D2, hnx2⟩ := next_same (D := cQ Qb) hnx (by omega) (by omega) hrow
          have hRb2 := row_next hnx2 hRb
          have hBb2 := bod_next hnx2 hBb
          have hrw3 := next_row hnx2 (t := t) (by omega)
          rw [if_pos rfl] at hrw2 hrw3
          refine Run.seq ?_
          refine Run.seq ?_
          refine Run.region ?_
          refine RunL.ok (OpOk.move rfl) rfl ?_
          refine RunL.ok (OpOk.move rfl) rfl ?_
          refine RunL.ok (OpOk.lenR rfl rfl rd.left.left.left.left.left.left.left rfl) rfl ?_
          refine RunL.ok (OpOk.asT (OpOk.lss rfl rfl) (by omega)) rfl ?_
          refine RunL.ok (OpOk.move rfl) rfl ?_
          refine RunL.on rfl rfl ?_
          refine RunL.ok (OpOk.move rfl) rfl ?_
          refine RunL.on rfl rfl ?_
          refine RunL.ok (OpOk.asT (OpOk.lss rfl rfl) (by omega)) rfl ?_
          refine RunL.ok (OpOk.pickT rfl rfl) rfl ?_
          refine RunL.nil ?_
          refine Run.condT rfl ?_
          refine Run.skip ?_
          refine Run.seq ?_
          refine Run.block ?_
          refine Run.seq ?_
          refine Run.region ?_
          refine RunL.ok (OpOk.move rfl) rfl ?_
          refine RunL.ok (OpOk.move rfl) rfl ?_
          refine RunL.ok (OpOk.idxN rfl ti74 rfl rd.left.left.left.left.left.left.left rfl (by omega)) rfl ?_
          refine RunL.ok (OpOk.loadFlE (by assumption) rfl rfl ti74 rfl rd.left.left.left.left.left.left.left (fun _ => rfl) rfl (by omega)) rfl ?_
          refine RunL.alloc ti74 rfl (fun by1 => ?_)
          refine RunL.storeAll ti74 rfl rfl rfl (fun w hw => OneC.one (enc := encT74) ((ok, ↑t, osv, ol)) w hw) rfl rfl ?_
          refine RunL.nil ?_
          refine Run.seq ?_
          refine Run.seq ?_
          refine Run.region ?_
          refine RunL.ok (OpOk.fieldAddr fld74_0 rfl) rfl ?_
          refine RunL.ok (OpOk.load rfl rfl rfl (Blk.out Blk.pts _ _ (by first | rfl | assumption))) rfl ?_
          refine RunL.ok (OpOk.asF (OpOk.eql rfl rfl) (by omega)) rfl ?_
          refine RunL.nil ?_
          refine Run.condF rfl ?_
          refine Run.seq ?_
          refine Run.region ?_
          refine RunL.ok (OpOk.move rfl) rfl ?_
          refine RunL.ok (OpOk.fieldAddr fld74_1 rfl) rfl ?_
          refine RunL.ok (OpOk.load rfl rfl rfl (Blk.out Blk.pts _ _ (by first | rfl | assumption))) rfl ?_
          refine RunL.mem (frc (frl (frl (frl (frl rfl)))) (frc (frl (frl (frl (frl rfl)))) (frc (frl (frl (frl (frl rfl)))) rfl))) ?_
          refine RunL.call cal46 rfl (s46 (by assumption) (by assumption) (by assumption) (by assumption)) rfl (fun vy2 Ay2 hy2 => ?_)
          obtain ⟨y3, ⟨y4, ⟨y5, ⟨rfl, ⟨y6, ⟨y7, rfl⟩⟩⟩⟩⟩⟩ := hy2
          refine RunL.ok (OpOk.move rfl) rfl ?_
          refine RunL.ok (OpOk.ext20 rfl) rfl ?_
          refine RunL.ok (OpOk.ext21 rfl) rfl ?_
          refine RunL.alloc ti82 rfl (fun by8 => ?_)
          refine RunL.storeAll ti82 rfl rfl rfl (fun w hw => OneC.one (enc := encT82) ((xk, xf, xt, y3, xo, xb)) w hw) rfl rfl ?_
          refine RunL.ok (OpOk.assign rfl) rfl ?_
          refine RunL.nil ?_
          refine Run.seq ?_
          refine Run.region ?_
          refine RunL.ok (OpOk.fieldAddr fld74_1 rfl) rfl ?_
          refine RunL.ok (OpOk.load rfl rfl rfl (Blk.out Blk.pts.left.left.left.left.left.left _ _ (by first | rfl | assumption))) rfl ?_
          refine RunL.ok (OpOk.move rfl) rfl ?_
          refine RunL.ok (OpOk.asT (OpOk.eql rfl rfl) (by omega)) rfl ?_
          refine RunL.nil ?_
          refine Run.condT rfl ?_
          refine Run.seq ?_
          refine Run.region ?_
          refine RunL.ok (OpOk.move rfl) rfl ?_
          refine RunL.ok (OpOk.move rfl) rfl ?_
          refine RunL.mem (frc (frl (frl (frl (frl (frl (frl (frl rfl))))))) (frc (frl (frl (frl (frl (frl (frl (frl rfl))))))) (frc (frl (frl (frl (frl (frl (frl (frl rfl))))))) rfl))) ?_
          refine RunL.call cal46 rfl (s46 (by assumption) (by assumption) (by assumption) (by assumption)) rfl (fun vy9 Ay9 hy9 => ?_)
          obtain ⟨y10, ⟨y11, ⟨y12, ⟨rfl, ⟨y13, ⟨y14, rfl⟩⟩⟩⟩⟩⟩ := hy9
          refine RunL.ok (OpOk.move rfl) rfl ?_
          refine RunL.ok (OpOk.ext20 rfl) rfl ?_
          refine RunL.ok (OpOk.ext21 rfl) rfl ?_
          refine RunL.alloc ti82 rfl (fun by15 => ?_)
          refine RunL.storeAll ti82 rfl rfl rfl (fun w hw => OneC.one (enc := encT82) ((xk, xf, xt, y10, xo, xb)) w hw) rfl rfl ?_
          refine RunL.ok (OpOk.assign rfl) rfl ?_
          refine RunL.nil ?_
          refine Run.seq ?_
          refine Run.region ?_
          refine RunL.ok (OpOk.move rfl) rfl ?_
          refine RunL.ok (OpOk.move rfl) rfl ?_
          refine RunL.ok (OpOk.as (c := false) (OpOk.neq rfl rfl) (by rw [decide_eq_true (by omega)]; rfl)) rfl ?_
          refine RunL.ok (OpOk.move rfl) rfl ?_
          refine RunL.on rfl rfl ?_
          refine RunL.ok (OpOk.loadS rfl rfl ti82 rfl Blk.pts.left.left.left.left.left.left rfl) rfl ?_
          refine RunL.on rfl rfl ?_
          refine RunL.ok (OpOk.loadS rfl rfl ti82 rfl Blk.pts rfl) rfl ?_
          refine RunL.on rfl rfl ?_
          refine RunL.know (fun w s => (s.conv (frl (frl (frl (frl (frl (frl (frl (frl (frl (frl rfl))))))))))).ownRd0) (fun rdy16 => ?_)
          refine RunL.know (fun w s => (s.conv (frl (frl (frl (frl rfl))))).ownRd0) (fun rdy17 => ?_)
          refine RunL.call cal48 rfl (s48 (Rd.right rdy16).left.left.left.left.left.left.left.left.left.left (Rd.right rdy17).left.left.left.left) rfl (fun vy18 Ay18 hy18 => ?_)
          obtain ⟨y19, ⟨rfl, rfl⟩⟩ := hy18
          refine RunL.on rfl rfl ?_
          refine RunL.ok (OpOk.not rfl) rfl ?_
          refine RunL.ok (OpOk.pickF rfl rfl) rfl ?_
          refine RunL.nil ?_
          refine Run.condNF rfl (by first | omega | with_reducible rfl | assumption) ?_
          refine Run.skip ?_
          refine Run.seq ?_
          refine Run.region ?_
          refine RunL.ok (OpOk.move rfl) rfl ?_
          refine RunL.ok (OpOk.move rfl) rfl ?_
          refine RunL.mem (frc (frl (frl (frl (frl (frl (frl (frl (frl rfl)))))))) (frc (frl (frl (frl (frl (frl (frl (frl (frl rfl)))))))) (frc (frl (frl (frl (frl (frl (frl (frl (frl rfl)))))))) rfl))) ?_
          rw [← y7] at hRa2 hBa2 hrw2
          rw [← y14] at hRb2 hBb2 hrw3
          have hwA := wait_row (C := cQ y4) (t := t) (by rw [cQ_len]; omega)
          have hwB := wait_row (C := cQ y11) (t := t) (by rw [cQ_len]; omega)
          rw [← (hrw2.trans ((congrArg List.tail hrow).trans hrw3.symm))] at hwB
          have hwb := hBa2 t (by rw [cQ_len]; omega)
          have hra := hRa2
          have hrb := hRb2
          refine RunL.call cal49 rfl (s49 (by assumption) (by assumption) (by assumption) (by assumption) (by assumption)) rfl (fun vv1 Av1 hv1 => ?_)
          obtain ⟨v2, ⟨v3, ⟨v4, rfl⟩⟩⟩ := hv1
          refine RunL.ok (OpOk.move rfl) rfl ?_
          refine RunL.ok (OpOk.move rfl) rfl ?_
          refine RunL.know (fun w s => (s.conv rfl).ownsM0) (fun alv5 => ?_)
          refine RunL.mem (frc (frl (frl (frl (frl (frl (frl (frl (frl rfl)))))))) (frc (frl (frl (frl (frl (frl (frl (frl (frl rfl)))))))) (frc (frl (frl (frl (frl (frl (frl (frl (frl rfl)))))))) rfl))) ?_
          refine RunL.call cal49 rfl (s49 (by assumption) (by assumption) (by assumption) (by assumption) (by assumption)) rfl (fun vv6 Av6 hv6 => ?_)
          obtain ⟨v7, ⟨v8, ⟨v9, rfl⟩⟩⟩ := hv6
          refine RunL.know (fun w s => (s.conv rfl).ownsM0) (fun alv10 => ?_)
          refine RunL.know (fun w s => (s.conv (frl (frl (frl (frl (frl (frl (frl rfl)))))))).ownRd0) (fun rdv11 => ?_)
          refine RunL.know (fun w s => (s.conv (frl rfl)).ownRd0) (fun rdv12 => ?_)
          refine RunL.call cal45 rfl (s45 (Rd.right rdv11).left.left.left.left.left.left.left (Alls.right alv5).left.left.left.left.left.left (Rd.right rdv12).left (Alls.right alv10)) rfl (fun vv13 Av13 hv13 => ?_)
          obtain ⟨v14, ⟨rfl, rfl⟩⟩ := hv13
          refine RunL.ok (OpOk.not rfl) rfl ?_
          refine RunL.nil ?_
          refine Run.condN rfl (fun v15 => ?_) (fun v15 => ?_)
          · refine Run.seq ?_
            refine Run.region ?_
            refine RunL.ok (OpOk.assign rfl) rfl ?_
            refine RunL.nil ?_
            refine Run.ret1 Try.func11 rfl rfl ?_
            exact absurd (v4.trans v9.symm) v15
          refine Run.skip ?_
          refine Run.inBlock ?_
          refine Run.region ?_
          refine RunL.ok (OpOk.move rfl) rfl ?_
          refine RunL.ok (OpOk.addN _ 1 rfl rfl rfl rfl (by omega)) rfl ?_
          refine RunL.ok (OpOk.assign rfl) rfl ?_
          refine RunL.nil ?_
          refine Run.jump ((ih (i + 1, _, (y4, ra), (y11, rb)) ⟨by dsimp only; omega, by dsimp only; omega, ⟨y6, hRa2, hBa2, (by constructor <;> (dsimp only; omega))⟩, ⟨y13, hRb2, hBb2, (by constructor <;> (dsimp only; omega))⟩, (hrw2.trans ((congrArg List.tail hrow).trans hrw3.symm))⟩ (by dsimp only; omega))) ⟨rfl, rfl, rfl, rfl, rfl, trivial⟩ (Grew.of (Eq.trans (frc (frl (frl (frl rfl))) (frc (frl (frl (frl rfl))) (frc (frl (frl (frl rfl))) (frc (frl (frl (frl (frl (frl (frl rfl)))))) (frc (frl (frl (frl (frl (frl (frl rfl)))))) (frc (frl (frl (frl (frl (frl (frl rfl)))))) rfl)))))) (congrArg (· * _) (congrArg (· * _) (congrArg (· * _) (congrArg (· * _) (congrArg (· * _) (congrArg (· * _) (asg (asg (asg (asg (asg (asg (asg (asg (asg (asg (asg (asg (asg (asg (asg as1)))))))))))))))))))))) (Grew.refl _))
        · rw [if_neg hot] at hrw2
          refine Run.seq ?_
          refine Run.seq ?_
          refine Run.region ?_
          refine RunL.ok (OpOk.move rfl) rfl ?_
          refine RunL.ok (OpOk.move rfl) rfl ?_
          refine RunL.ok (OpOk.lenR rfl rfl rd.left.left.left.left.left.left.left rfl) rfl ?_
          refine RunL.ok (OpOk.asT (OpOk.lss rfl rfl) (by omega)) rfl ?_
          refine RunL.ok (OpOk.move rfl) rfl ?_
          refine RunL.on rfl rfl ?_
          refine RunL.ok (OpOk.move rfl) rfl ?_
          refine RunL.on rfl rfl ?_
          refine RunL.ok (OpOk.asT (OpOk.lss rfl rfl) (by omega)) rfl ?_
          refine RunL.ok (OpOk.pickT rfl rfl) rfl ?_
          refine RunL.nil ?_
          refine Run.condT rfl ?_
          refine Run.skip ?_
          refine Run.seq ?_
          refine Run.block ?_
          refine Run.seq ?_
          refine Run.region ?_
          refine RunL.ok (OpOk.move rfl) rfl ?_
          refine RunL.ok (OpOk.move rfl) rfl ?_
          refine RunL.ok (OpOk.idxN rfl ti74 rfl rd.left.left.left.left.left.left.left rfl (by omega)) rfl ?_
          refine RunL.ok (OpOk.loadFlE (by assumption) rfl rfl ti74 rfl rd.left.left.left.left.left.left.left (fun _ => rfl) rfl (by omega)) rfl ?_
          refine RunL.alloc ti74 rfl (fun by1 => ?_)
          refine RunL.storeAll ti74 rfl rfl rfl (fun w hw => OneC.one (enc := encT74) ((ok, ot, osv, ol)) w hw) rfl rfl ?_
          refine RunL.nil ?_
          refine Run.seq ?_
          refine Run.seq ?_
          refine Run.region ?_
          refine RunL.ok (OpOk.fieldAddr fld74_0 rfl) rfl ?_
          refine RunL.ok (OpOk.load rfl rfl rfl (Blk.out Blk.pts _ _ (by first | rfl | assumption))) rfl ?_
          refine RunL.ok (OpOk.asF (OpOk.eql rfl rfl) (by omega)) rfl ?_
          refine RunL.nil ?_
          refine Run.condF rfl ?_
          refine Run.seq ?_
          refine Run.region ?_
          refine RunL.ok (OpOk.move rfl) rfl ?_
          refine RunL.ok (OpOk.fieldAddr fld74_1 rfl) rfl ?_
          refine RunL.ok (OpOk.load rfl rfl rfl (Blk.out Blk.pts _ _ (by first | rfl | assumption))) rfl ?_
          refine RunL.mem (frc (frl (frl (frl (frl rfl)))) (frc (frl (frl (frl (frl rfl)))) (frc (frl (frl (frl (frl rfl)))) rfl))) ?_
          refine RunL.call cal46 rfl (s46 (by assumption) (by assumption) (by assumption) (by assumption)) rfl (fun vy2 Ay2 hy2 => ?_)
          obtain ⟨y3, ⟨y4, ⟨y5, ⟨rfl, ⟨y6, ⟨y7, rfl⟩⟩⟩⟩⟩⟩ := hy2
          refine RunL.ok (OpOk.move rfl) rfl ?_
          refine RunL.ok (OpOk.ext20 rfl) rfl ?_
          refine RunL.ok (OpOk.ext21 rfl) rfl ?_
          refine RunL.alloc ti82 rfl (fun by8 => ?_)
          refine RunL.storeAll ti82 rfl rfl rfl (fun w hw => OneC.one (enc := encT82) ((xk, xf, xt, y3, xo, xb)) w hw) rfl rfl ?_
          refine RunL.ok (OpOk.assign rfl) rfl ?_
          refine RunL.nil ?_
          refine Run.seq ?_
          refine Run.region ?_
          refine RunL.ok (OpOk.fieldAddr fld74_1 rfl) rfl ?_
          refine RunL.ok (OpOk.load rfl rfl rfl (Blk.out Blk.pts.left.left.left.left.left.left _ _ (by first | rfl | assumption))) rfl ?_
          refine RunL.ok (OpOk.move rfl) rfl ?_
          refine RunL.ok (OpOk.asF (OpOk.eql rfl rfl) (by omega)) rfl ?_
          refine RunL.nil ?_
          refine Run.condF rfl ?_
          refine Run.skip ?_
          refine Run.seq ?_
          refine Run.region ?_
          refine RunL.ok (OpOk.move rfl) rfl ?_
          refine RunL.ok (OpOk.move rfl) rfl ?_
          refine RunL.mem (frc (frl rfl) (frc (frl rfl) (frc (frl rfl) rfl))) ?_
          rw [← y7] at hRa2 hBa2 hrw2
          have hwA := wait_row (C := cQ y4) (t := t) (by rw [cQ_len]; omega)
          have hwB := wait_row (C := cQ Qb) (t := t) (by rw [cQ_len]; omega)
          rw [← (hrw2.trans hrow)] at hwB
          have hwb := hBa2 t (by rw [cQ_len]; omega)
          have hra := hRa2
          have hrb := hRb
          refine RunL.call cal49 rfl (s49 (by assumption) (by assumption) (by assumption) (by assumption) (by assumption)) rfl (fun vv1 Av1 hv1 => ?_)
          obtain ⟨v2, ⟨v3, ⟨v4, rfl⟩⟩⟩ := hv1
          refine RunL.ok (OpOk.move rfl) rfl ?_
          refine RunL.ok (OpOk.move rfl) rfl ?_
          refine RunL.know (fun w s => (s.conv rfl).ownsM0) (fun alv5 => ?_)
          refine RunL.mem (frc (frl (frl (frl (frl (frl (frl (frl (frl (frl (frl rfl)))))))))) (frc (frl (frl (frl (frl (frl (frl (frl (frl (frl (frl rfl)))))))))) (frc (frl (frl (frl (frl (frl (frl (frl (frl (frl (frl rfl)))))))))) rfl))) ?_
          refine RunL.call cal49 rfl (s49 (by assumption) (by assumption) (by assumption) (by assumption) (by assumption)) rfl (fun vv6 Av6 hv6 => ?_)
          obtain ⟨v7, ⟨v8, ⟨v9, rfl⟩⟩⟩ := hv6
          refine RunL.know (fun w s => (s.conv rfl).ownsM0) (fun alv10 => ?_)
          refine RunL.know (fun w s => (s.conv (frl (frl (frl (frl (frl (frl (frl rfl)))))))).ownRd0) (fun rdv11 => ?_)
          refine RunL.know (fun w s => (s.conv (frl rfl)).ownRd0) (fun rdv12 => ?_)
          refine RunL.call cal45 rfl (s45 (Rd.right rdv11).left.left.left.left.left.left.left (Alls.right alv5).left.left.left.left.left.left (Rd.right rdv12).left (Alls.right alv10)) rfl (fun vv13 Av13 hv13 => ?_)
          obtain ⟨v14, ⟨rfl, rfl⟩⟩ := hv13
          refine RunL.ok (OpOk.not rfl) rfl ?_
          refine RunL.nil ?_
          refine Run.condN rfl (fun v15 => ?_) (fun v15 => ?_)
          · refine Run.seq ?_
            refine Run.region ?_
            refine RunL.ok (OpOk.assign rfl) rfl ?_
            refine RunL.nil ?_
            refine Run.ret1 Try.func11 rfl rfl ?_
            exact absurd (v4.trans v9.symm) v15
          refine Run.skip ?_
          refine Run.inBlock ?_
          refine Run.region ?_
          refine RunL.ok (OpOk.move rfl) rfl ?_
          refine RunL.ok (OpOk.addN _ 1 rfl rfl rfl rfl (by omega)) rfl ?_
          refine RunL.ok (OpOk.assign rfl) rfl ?_
          refine RunL.nil ?_
          refine Run.jump ((ih (i + 1, _, (y4, ra), (Qb, rb)) ⟨by dsimp only; omega, by dsimp only; omega, ⟨y6, hRa2, hBa2, (by constructor <;> (dsimp only; omega))⟩, ⟨hQb, hRb, hBb, (by constructor <;> (dsimp only; omega))⟩, (hrw2.trans hrow)⟩ (by dsimp only; omega))) ⟨rfl, rfl, rfl, rfl, rfl, trivial⟩ (Grew.of (Eq.trans (frc (frl (frl (frl rfl))) (frc (frl (frl (frl rfl))) (frc (frl (frl (frl rfl))) (frc (frl (frl (frl (frl (frl (frl rfl)))))) (frc (frl (frl (frl (frl (frl (frl rfl)))))) (frc (frl (frl (frl (frl (frl (frl rfl)))))) rfl)))))) (congrArg (· * _) (congrArg (· * _) (congrArg (· * _) (congrArg (· * _) (congrArg (· * _) (congrArg (· * _) (asg (asg (asg (asg (asg (asg (asg (asg (asg (asg (asg as1)))))))))))))))))) (Grew.refl _))
    · clear ih
      refine Run.seq ?_
      refine Run.seq ?_
      refine Run.region ?_
      refine RunL.ok (OpOk.move rfl) rfl ?_
      refine RunL.ok (OpOk.move rfl) rfl ?_
      refine RunL.ok (OpOk.lenR rfl rfl rd.left.left.left.left.left.left.left rfl) rfl ?_
      refine RunL.ok (OpOk.asT (OpOk.lss rfl rfl) (by omega)) rfl ?_
      refine RunL.ok (OpOk.move rfl) rfl ?_
      refine RunL.on rfl rfl ?_
      refine RunL.ok (OpOk.move rfl) rfl ?_
      refine RunL.on rfl rfl ?_
      refine RunL.ok (OpOk.asF (OpOk.lss rfl rfl) (by omega)) rfl ?_
      refine RunL.ok (OpOk.pickT rfl rfl) rfl ?_
      refine RunL.nil ?_
      refine Run.condF rfl ?_
      refine Run.exit rfl ?_
      refine Run.seq ?_
      refine Run.region ?_
      refine RunL.ok (OpOk.assign rfl) rfl ?_
      refine RunL.nil ?_
      refine Run.ret1 Try.func11 rfl rfl ?_
      exact ⟨rfl, ⟨_, (asg (asg (asg (asg (asg (asg as1))))))⟩⟩
  · clear ih
    refine Run.seq ?_
    refine Run.seq ?_
    refine Run.region ?_
    refine RunL.ok (OpOk.move rfl) rfl ?_
    refine RunL.ok (OpOk.move rfl) rfl ?_
    refine RunL.ok (OpOk.lenR rfl rfl rd.left.left.left.left.left.left.left rfl) rfl ?_
    refine RunL.ok (OpOk.asF (OpOk.lss rfl rfl) (by omega)) rfl ?_
    refine RunL.ok (OpOk.move rfl) rfl ?_
    refine RunL.off rfl rfl rfl rfl ?_
    refine RunL.off rfl rfl rfl rfl ?_
    refine RunL.ok (OpOk.pickF rfl rfl) rfl ?_
    refine RunL.nil ?_
    refine Run.condF rfl ?_
    refine Run.exit rfl ?_
    refine Run.seq ?_
    refine Run.region ?_
    refine RunL.ok (OpOk.assign rfl) rfl ?_
    refine RunL.nil ?_
    refine Run.ret1 Try.func11 rfl rfl ?_
    exact ⟨rfl, ⟨_, (asg (asg (asg (asg (asg (asg as1))))))⟩⟩
end
end Go.Proofs.Ytegbfnibjgpbpaa
