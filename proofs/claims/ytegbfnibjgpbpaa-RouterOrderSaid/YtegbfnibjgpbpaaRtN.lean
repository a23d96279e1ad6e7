/- The law RouterOrder, walked. -/
import Derived.Test.YtegbfnibjgpbpaaRtO
namespace Go.Proofs.Ytegbfnibjgpbpaa
open Go Go.Proofs
set_option maxRecDepth 100000
set_option maxHeartbeats 4000000
set_option linter.unusedSimpArgs false
section
variable {w0 : World} {A : Asn}
theorem routerOrder_spec {room : Int} {u : Value} {P : List ROp} (rd : Rd w0 (old w0) u 3 P.length (Fl encT74 P)) :
    Spec Try.prog w0 10 [.int .i64 room, u] (old w0) (fun v' A' => v' = .bool true ∧ Grew (old w0) A') := by
  have hmx := rd.max
  refine Spec.of_run [(0, .int .i64 room), (1, u)] Try.func10 rfl (Nat.le_of_ble_eq_true rfl) (by repeat (first | exact trivial | refine ⟨rfl, ?_⟩)) ?_
  obtain ⟨r, rw_r, hr1, hr2⟩ := mod_16 room
  have hQ0 : (List.replicate 4 q0).length = 4 := rfl
  have hO0 := OrdI.new r hr1
  refine Run.seq ?_
  refine Run.region ?_
  refine RunL.ok (OpOk.assign rfl) rfl ?_
  refine RunL.nil ?_
  refine Run.seq ?_
  refine Run.seq ?_
  refine Run.region ?_
  refine RunL.call cal40 rfl (s40) rfl (fun vx1 Ax1 hx1 => ?_)
  obtain ⟨x2, ⟨rfl, rfl⟩⟩ := hx1
  refine RunL.ok (OpOk.not rfl) rfl ?_
  refine RunL.nil ?_
  refine Run.condF rfl ?_
  refine Run.skip ?_
  refine Run.seq ?_
  refine Run.region ?_
  refine RunL.ok (OpOk.move rfl) rfl ?_
  refine RunL.ok (OpOk.rem rfl rfl (by decide) rfl) rfl ?_
  refine RunL.ok (OpOk.add rfl rfl rfl) rfl ?_
  refine RunL.ok (OpOk.rem rfl rfl (by decide) rfl) rfl ?_
  refine RunL.ok (OpOk.add rfl rfl rfl) rfl ?_
  refine RunL.ok (OpOk.assign rfl) rfl ?_
  refine RunL.nil ?_
  refine Run.seq ?_
  rw [rw_r]
  refine Run.region ?_
  refine RunL.ok (OpOk.move rfl) rfl ?_
  refine RunL.call cal41 rfl (s41b (by decide) (by decide) (by assumption) (by assumption)) rfl (fun vx4 Ax4 hx4 => ?_)
  obtain ⟨x5, ⟨x6, ⟨rfl, rfl⟩⟩⟩ := hx4
  refine RunL.ok (OpOk.move rfl) rfl ?_
  refine RunL.ok (OpOk.ext20 rfl) rfl ?_
  refine RunL.ok (OpOk.ext21 rfl) rfl ?_
  refine RunL.ok (OpOk.assign rfl) rfl ?_
  refine RunL.ok (OpOk.assign rfl) rfl ?_
  refine RunL.nil ?_
  refine Run.seq ?_
  refine Run.seq ?_
  refine Run.region ?_
  refine RunL.ok (OpOk.move rfl) rfl ?_
  refine RunL.ok (OpOk.eqlPN rfl rfl) rfl ?_
  refine RunL.ok (OpOk.move rfl) rfl ?_
  refine RunL.on rfl rfl ?_
  refine RunL.ok (OpOk.move rfl) rfl ?_
  refine RunL.on rfl rfl ?_
  refine RunL.ok (OpOk.as (c := false) (OpOk.neq rfl rfl) (by rw [decide_eq_true (by omega)]; rfl)) rfl ?_
  refine RunL.ok (OpOk.pickF rfl rfl) rfl ?_
  refine RunL.nil ?_
  refine Run.condF rfl ?_
  refine Run.skip ?_
  refine Run.seq ?_
  refine Run.know (fun w s => (s.conv (frl rfl)).ownRd0) (fun rdx7 => ?_)
  (apply Run.drawD [] (by rfl) (sep_emp _).symm; case hchk => kernel_rfl)
  apply Sd.make 1 (by rfl) (by rfl) (by rfl) (by rfl) (by rfl) (by rfl)
  case h =>
    intro Xx10 Kx10 hKx10
    refine RunL.mem (sep_emp _) ?_
    refine RunL.make (m := 4) rfl ti3 rfl rfl (by omega) (by simp only [maxLen]; omega) rfl (fun vx11 rdx11 => ?_)
    exact RunL.mem (Eq.trans rfl (gp2 rfl (sep_emp _).symm)) (hKx10 _)
  (refine Sd.exec 0 rfl rfl rfl rfl rfl ?hrest (by rfl) (fun Xx13 Kx13 hKx13 => ?_); case hrest => kernel_rfl)
  refine RunL.mem (fl2 (sep_emp _) (sep_emp _)) ?_
  refine RunL.make (m := 4) rfl ti3 rfl rfl (by omega) (by simp only [maxLen]; omega) rfl (fun vx14 rdx14 => ?_)
  refine RunL.know (fun w s => (s.conv rfl).ownRd0) (fun rdx15 => ?_)
  refine Sd.ret hKx13 (Eq.trans rfl (gp2 (sep_emp _).symm rfl)) ⟨_, (emp_sep _).symm⟩ ?_
  refine Sd.quiet 2 _ _ rfl rfl rfl rfl rfl (QOp.ok (fun X => OpOk.assign rfl)) ?_
  (refine Sd.take 1 _ ?hrest (fun vx16 hvx16 => ?_); case hrest => kernel_rfl)
  have rdx16 := rdOf hvx16
  refine Sd.quiet 3 _ _ rfl rfl rfl rfl rfl (QOp.ok (fun X => OpOk.assign rfl)) ?_
  (apply Sd.tail; case hall => kernel_rfl)
  refine RunL.mem (fl2 (flS rfl) (sep_emp _)) ?_
  refine RunL.nil ?_
  refine Run.seq ?_
  refine Run.seq ?_
  refine Run.region ?_
  refine RunL.ok (OpOk.assign rfl) rfl ?_
  refine RunL.nil ?_
  refine Run.block ?_
  rw [show (3 : Nat) + 1 = 4 from rfl, show (madeCells (Value.int .i64 0).cells (4 * 1)).toList = I [0, 0, 0, 0] from (made_one (.int .i64 0) rfl 4).trans rfl]
  refine Run.jump ((Run.loopJ (X := Nat × Asn × List Qu × Int × List Int × List Int) (fun x => [(10, .int .i64 (x.1 : Int)), (9, vx16), (8, vx14), (6, .pointer (some ⟨x5, 0, none⟩)), (5, .int .i64 r), (1, u)]) (fun x => old w0 * x.2.1 * pts x5 (.cells #[x6, .int .i64 r, .int .i64 x.2.2.2.1] 119 (0, 0)) * own 123 1 x6 4 (Fl encT123 (x.2.2.1)) * ownsQ (x.2.2.1) * own 3 1 vx14 4 (I x.2.2.2.2.1) * own 3 1 vx16 4 (I x.2.2.2.2.2)) (fun x => x.1 ≤ P.length ∧ x.1 ≤ 200 ∧ x.2.2.1.length = 4 ∧ OrdI r (cQ x.2.2.1) x.2.2.2.2.1 x.2.2.2.2.2 x.1 ∧ 0 ≤ x.2.2.2.1 ∧ x.2.2.2.1 ≤ (x.1 : Int)) (fun x => P.length - x.1) (0, _, List.replicate 4 q0, 0, [0, 0, 0, 0], [0, 0, 0, 0]) ⟨Nat.zero_le _, Nat.zero_le _, hQ0, hO0, Int.le_refl _, Int.le_refl _⟩ (fun x hx ih => ?_))) ⟨rfl, rfl, rfl, rfl, rfl, rfl, trivial⟩ (Grew.of (congrArg (· * _) (congrArg (· * _) (congrArg (· * _) (congrArg (· * _) (congrArg (· * _) as1))))) (Grew.refl _))
  obtain ⟨i, J, Q, ref, tk, nx⟩ := x
  simp only at hx ih ⊢
  obtain ⟨hi, hi1, hQ, hO, hf0, hf1⟩ := hx
  have htl := hO.l1
  have hnl := hO.l2
  rcases Nat.lt_or_ge i P.length with hlt | hge
  · rcases Nat.lt_or_ge i 200 with h200 | h200
    · obtain ⟨o, hoe⟩ : ∃ o, P.getD i default = o := ⟨_, rfl⟩
      obtain ⟨ok, ot, osv, ol⟩ := o
      obtain ⟨t, rw_t, ht4⟩ := mod_4 ot
      have hle := hO.le t ht4
      have hrw := hO.rb t (by rw [hO.l0]; exact ht4)
      rw [hO.len ht4] at hrw
      have hW := hO.wait ht4
      have hWb := rowO_bd t (nx.getD t 0) (tk.getD t 0)
      have hWl := rowO_len t (nx.getD t 0) (tk.getD t 0)
      have hrb := hO.rb
      rcases Decidable.em (ok = 0) with hk0 | hk0
      · subst hk0
        rcases Decidable.em (tk.getD t 0 - nx.getD t 0 < r) with hfit | hfull
        · have hO2 := hO.put ht4 (by rw [hO.len ht4]; exact hfit)
          have hff : fits r (cQ Q) (t : Int) := ⟨by omega, by rw [hO.l0]; omega, by rw [Int.toNat_natCast, hO.len ht4]; exact hfit⟩
          have rw_c : ((countC r (cQ Q) ([mz (t : Int) (tk.getD t 0 + 1)].map cm) : Nat) : Int) = 1 := by rw [show countC r (cQ Q) ([mz (t : Int) (tk.getD t 0 + 1)].map cm) = 1 from (countC_one _ _ _).trans (if_pos hff)]; rfl
          have al1 : Alls (GM w0) (old w0) [mz (t : Int) (tk.getD t 0 + 1)] := alls_z w0 (old w0) [((t : Int), tk.getD t 0 + 1)]
          have hm1 : ∀ m ∈ [mz (t : Int) (tk.getD t 0 + 1)], m.2.2.2.2.2.length ≤ 140737488351232 := by simp [mz]
          refine Run.seq ?_
          refine Run.seq ?_
          refine Run.region ?_
          refine RunL.ok (OpOk.move rfl) rfl ?_
          refine RunL.ok (OpOk.move rfl) rfl ?_
          refine RunL.ok (OpOk.lenR rfl rfl rd.left.left.left.left.left.left rfl) rfl ?_
          refine RunL.ok (OpOk.asT (OpOk.lss rfl rfl) (by omega)) rfl ?_
          refine RunL.ok (OpOk.move rfl) rfl ?_
          refine RunL.on rfl rfl ?_
          refine RunL.ok (OpOk.move rfl) rfl ?_
          refine RunL.on rfl rfl ?_
          refine RunL.ok (OpOk.asT (OpOk.lss rfl rfl) (by omega)) rfl ?_
          refine RunL.ok (OpOk.pickT rfl rfl) rfl ?_
          refine RunL.nil ?_
          refine Run.condT rfl ?_
          refine Run.skip ?_
          refine Run.seq ?_
          refine Run.block ?_
          refine Run.seq ?_
          refine Run.region ?_
          refine RunL.ok (OpOk.move rfl) rfl ?_
          refine RunL.ok (OpOk.move rfl) rfl ?_
          refine RunL.ok (OpOk.idxN rfl ti74 rfl rd.left.left.left.left.left.left rfl (by omega)) rfl ?_
          refine RunL.ok (OpOk.fieldAddrA fld74_1 rfl) rfl ?_
          refine RunL.ok (OpOk.loadFl1E hoe rfl rfl rfl rd.left.left.left.left.left.left (fun _ => rfl) rfl (by omega) rfl) rfl ?_
          refine RunL.ok (OpOk.rem rfl rfl (by decide) rfl) rfl ?_
          refine RunL.ok (OpOk.add rfl rfl rfl) rfl ?_
          refine RunL.ok (OpOk.rem rfl rfl (by decide) rfl) rfl ?_
          refine RunL.ok (OpOk.assign rfl) rfl ?_
          refine RunL.nil ?_
          refine Run.seq ?_
          refine Run.seq ?_
          rw [rw_t]
          refine Run.region ?_
          refine RunL.ok (OpOk.move rfl) rfl ?_
          refine RunL.ok (OpOk.move rfl) rfl ?_
          refine RunL.ok (OpOk.idxN rfl ti74 rfl rd.left.left.left.left.left.left rfl (by omega)) rfl ?_
          refine RunL.ok (OpOk.fieldAddrA fld74_0 rfl) rfl ?_
          refine RunL.ok (OpOk.loadFl1E hoe rfl rfl rfl rd.left.left.left.left.left.left (fun _ => rfl) rfl (by omega) rfl) rfl ?_
          refine RunL.ok (OpOk.asT (OpOk.eql rfl rfl) (by omega)) rfl ?_
          refine RunL.nil ?_
          refine Run.condT rfl ?_
          refine Run.seq ?_
          refine Run.region ?_
          refine RunL.ok (OpOk.move rfl) rfl ?_
          refine RunL.ok (OpOk.move rfl) rfl ?_
          refine RunL.mem (frc (frl (frl rfl)) (frc (frl (frl rfl)) (frc (frl (frl rfl)) rfl))) ?_
          refine RunL.call cal49 rfl (s49 (by assumption) (by assumption) (by assumption) (by assumption) (by assumption)) rfl (fun vy1 Ay1 hy1 => ?_)
          obtain ⟨y2, ⟨y3, ⟨y4, rfl⟩⟩⟩ := hy1
          refine RunL.know (fun w s => (s.conv (frl rfl)).ownRd0) (fun rdy5 => ?_)
          refine RunL.ok (OpOk.lenR rfl rfl (Rd.right rdy5).left rfl) rfl ?_
          refine RunL.ok (OpOk.move rfl) rfl ?_
          refine RunL.ok (OpOk.geq rfl rfl) rfl ?_
          refine RunL.ok (OpOk.assign rfl) rfl ?_
          refine RunL.nil ?_
          refine Run.seq ?_
          refine Run.region ?_
          refine RunL.ok (OpOk.move rfl) rfl ?_
          refine RunL.ok (OpOk.move rfl) rfl ?_
          refine RunL.ok (OpOk.move rfl) rfl ?_
          refine RunL.ok (OpOk.move rfl) rfl ?_
          refine RunL.know (fun w s => (s.conv (frl (frl (frl (frl (frl (frl (frl rfl)))))))).ownRd0) (fun rdy6 => ?_)
          refine RunL.ok (OpOk.idx1N rfl ti3 rfl (Rd.right rdy6).left.left.left.left.left.left.left rfl (by omega)) rfl ?_
          refine RunL.ok (OpOk.load rfl rfl rfl (Rd.getI (Rd.right rdy6).left.left.left.left.left.left.left (by omega))) rfl ?_
          refine RunL.ok (OpOk.add rfl rfl (wrapI (by omega) (by omega))) rfl ?_
          refine RunL.ok (OpOk.build (cells := #[.int (IntKind.i64) (0), .int (IntKind.i64) (0), .int (IntKind.i64) (↑t), .slice (none) (0) (0), .int (IntKind.i64) (tk.getD t 0 + 1)]) rfl (fun w => run_build w 82 _ _ (by rfl))) rfl ?_
          have hyl : (y2.length : Int) = tk.getD t 0 - nx.getD t 0 := by
            have h1 := congrArg List.length y4
            rw [List.length_map, hWl] at h1
            omega
          refine RunL.litFl (enc := encT82) [mz (t : Int) (tk.getD t 0 + 1)] rfl ti82 rfl (fun _ => rfl) rfl rfl (by decide) (by decide) rfl (fun v9 rd9 => ?_)
          refine RunL.know (fun w s => (s.conv (frl rfl)).ownsM0) (fun alz1 => ?_)
          refine RunL.know (fun w s => (s.conv rfl).ownRd0) (fun rdz2 => ?_)
          refine RunL.mem (frc (frl (frl (frl rfl))) (frc (frl (frl (frl rfl))) (frc (frl (frl (frl rfl))) rfl))) ?_
          refine RunL.call cal43 rfl (s43 (Rd.right rdz2) al1.left.left.left.left.left.left.left (by assumption) (by assumption) (by assumption) (by assumption) (by omega) (by simp)) rfl (fun vz3 Az3 hz3 => ?_)
          obtain ⟨z4, ⟨z5, ⟨rfl, ⟨z6, ⟨z7, rfl⟩⟩⟩⟩⟩ := hz3
          refine RunL.ok (OpOk.assign rfl) rfl ?_
          refine RunL.nil ?_
          refine Run.seq ?_
          refine Run.seq ?_
          rw [rw_c]
          refine Run.region ?_
          refine RunL.ok (OpOk.move rfl) rfl ?_
          refine RunL.ok (OpOk.move rfl) rfl ?_
          refine RunL.splitDF (t := 77) rfl (by first | omega | with_reducible rfl | assumption) ?_
          refine RunL.off rfl rfl rfl rfl ?_
          refine RunL.off rfl rfl rfl rfl ?_
          refine RunL.ok (OpOk.pickF rfl rfl) rfl ?_
          refine RunL.ok (OpOk.move rfl) rfl ?_
          refine RunL.on rfl rfl ?_
          refine RunL.ok (OpOk.move rfl) rfl ?_
          refine RunL.on rfl rfl ?_
          refine RunL.ok (OpOk.not rfl) rfl ?_
          refine RunL.on rfl rfl ?_
          refine RunL.ok (OpOk.move rfl) rfl ?_
          refine RunL.splitNT (t := 84) rfl (by first | omega | with_reducible rfl | assumption) ?_
          refine RunL.on rfl rfl ?_
          refine RunL.ok (OpOk.move rfl) rfl ?_
          refine RunL.on rfl rfl ?_
          refine RunL.ok (OpOk.as (c := false) (OpOk.neq rfl rfl) (by rw [decide_eq_true (by omega)]; rfl)) rfl ?_
          refine RunL.on rfl rfl ?_
          refine RunL.ok (OpOk.pickT rfl rfl) rfl ?_
          refine RunL.ok (OpOk.pickF rfl rfl) rfl ?_
          refine RunL.nil ?_
          refine Run.condF rfl ?_
          refine Run.skip ?_
          refine Run.region ?_
          refine RunL.ok (OpOk.move rfl) rfl ?_
          refine RunL.ok (OpOk.move rfl) rfl ?_
          refine RunL.ok (OpOk.idx1N rfl ti3 rfl (Rd.right rdy6).left.left.left.left.left.left.left.left.left rfl (by omega)) rfl ?_
          refine RunL.ok (OpOk.load rfl rfl rfl (Rd.getI (Rd.right rdy6).left.left.left.left.left.left.left.left.left (by omega))) rfl ?_
          refine RunL.ok (OpOk.move rfl) rfl ?_
          refine RunL.ok (OpOk.add rfl rfl (wrapI (by omega) (by omega))) rfl ?_
          refine RunL.ok (OpOk.idx1N rfl ti3 rfl (Rd.right rdy6).left.left.left.left.left.left.left.left.left rfl (by omega)) rfl ?_
          refine RunL.storeI ti3 rfl rfl (frl (frl (frl (frl (frl (frl (frl (frl (frl rfl))))))))) (by omega) ?_
          refine RunL.nil ?_
          refine Run.seq ?_
          refine Run.know (fun w s => (s.conv (frl (frl (frl (frl (frl (frl (frl (frl (frl rfl)))))))))).ownRd0) (fun rdz10 => ?_)
          refine Run.know (fun w s => (s.conv (frl (frl rfl))).ownRd0) (fun rdz11 => ?_)
          refine Run.know (fun w s => (s.conv rfl).ownRd0) (fun rdz12 => ?_)
          (apply Run.drawD [] (by rfl) (Eq.trans (frc (frl rfl) (frc (frl rfl) (frc (frl rfl) rfl))) (asg (asg rfl))); case hchk => kernel_rfl)
          refine Sd.quiet 0 _ _ rfl rfl rfl rfl rfl (QOp.ok (fun X => OpOk.move rfl)) ?_
          refine Sd.quiet 1 _ _ rfl rfl rfl rfl rfl (QOp.ok (fun X => OpOk.move rfl)) ?_
          refine Sd.quiet 4 _ _ rfl rfl rfl rfl rfl (QOp.ok (fun X => OpOk.move rfl)) ?_
          refine Sd.quiet 5 _ _ rfl rfl rfl rfl rfl (QOp.ok (fun X => OpOk.move rfl)) ?_
          refine Sd.quiet 6 _ _ rfl rfl rfl rfl rfl (QOp.ok (fun X => OpOk.idx1N rfl ti3 rfl (Rd.right rdz12).left.left rfl (by omega))) ?_
          refine Sd.quiet 7 _ _ rfl rfl rfl rfl rfl (QOp.ok (fun X => OpOk.load rfl rfl rfl (Rd.getI (Rd.right rdz12).left.left (by omega)))) ?_
          refine Sd.quiet 8 _ _ rfl rfl rfl rfl rfl (QOp.ok (fun X => OpOk.move rfl)) ?_
          refine Sd.quiet 9 _ _ rfl rfl rfl rfl rfl (QOp.ok (fun X => OpOk.move rfl)) ?_
          refine Sd.quiet 10 _ _ rfl rfl rfl rfl rfl (QOp.ok (fun X => OpOk.idx1N rfl ti3 rfl (Rd.right rdz10).left.left.left.left.left.left.left.left rfl (by omega))) ?_
          refine Sd.quiet 11 _ _ rfl rfl rfl rfl rfl (QOp.ok (fun X => OpOk.load rfl rfl rfl (Rd.getI (Rd.right rdz10).left.left.left.left.left.left.left.left (by omega)))) ?_
          refine Sd.quiet 12 _ _ rfl rfl rfl rfl rfl (QOp.ok (fun X => OpOk.sub rfl rfl rfl)) ?_
          (refine Sd.exec 2 rfl rfl rfl rfl rfl ?hrest (by rfl) (fun Xz13 Kz13 hKz13 => ?_); case hrest => kernel_rfl)
          refine RunL.mem (fl2 (sep_emp _) (flS (flS rfl))) ?_
          have hO3 : OrdI r (cQ z4) (tk.set t (tk.getD t 0 + 1)) nx (i + 1) := by rw [z7]; exact hO2
          have hW3 := hO3.wait ht4
          have hWb3 := rowO_bd t (nx.getD t 0) ((tk.set t (tk.getD t 0 + 1)).getD t 0)
          have hrb3 := hO3.rb
          have hle3 := hO3.le t ht4
          have hln3 := hO3.len ht4
          have hrw3 := hO3.rb t (by rw [hO3.l0]; exact ht4)
          have hWl3 := rowO_len t (nx.getD t 0) ((tk.set t (tk.getD t 0 + 1)).getD t 0)
          refine RunL.call cal49 rfl (s49 (by assumption) (by assumption) (by assumption) (by assumption) (by assumption)) rfl (fun vv1 Av1 hv1 => ?_)
          obtain ⟨v2, ⟨v3, ⟨v4, rfl⟩⟩⟩ := hv1
          refine RunL.know (fun w s => (s.conv (frl rfl)).ownRd0) (fun rdv5 => ?_)
          refine Sd.ret hKz13 (Eq.trans (frc (frl (frl rfl)) (frc (frl (frl rfl)) (frc (frl (frl rfl)) rfl))) (gp2 (asg (asg rfl)) (asg (asg rfl)))) ⟨_, (emp_sep _).symm⟩ ?_
          refine Sd.quiet 3 _ _ rfl rfl rfl rfl rfl (QOp.ok (fun X => OpOk.lenR rfl rfl (Rd.right (Rd.right rdv5).left).left rfl)) ?_
          refine Sd.quiet 13 _ _ rfl rfl rfl rfl rfl (QOp.ok (fun X => OpOk.neq rfl rfl)) ?_
          refine Sd.quiet 14 _ _ rfl rfl rfl rfl rfl (QOp.ok (fun X => OpOk.move rfl)) ?_
          refine Sd.splitN (fun v6 => ?_) (fun v6 => ?_)
          · refine Sd.skip 15 _ rfl rfl rfl rfl rfl ?_
            refine Sd.skip 16 _ rfl rfl rfl rfl rfl ?_
            refine Sd.skip 17 _ rfl rfl rfl rfl rfl ?_
            refine Sd.skip 18 _ rfl rfl rfl rfl rfl ?_
            refine Sd.skip 19 _ rfl rfl rfl rfl rfl ?_
            refine Sd.skip 20 _ rfl rfl rfl rfl rfl ?_
            refine Sd.quiet 21 _ _ rfl rfl rfl rfl rfl (QOp.ok (fun X => OpOk.pickT rfl rfl)) ?_
            (apply Sd.tail; case hall => kernel_rfl)
            refine RunL.mem (fl2 (flS (flS rfl)) (flS (flS rfl))) ?_
            refine RunL.nil ?_
            refine Run.condT rfl ?_
            refine Run.seq ?_
            refine Run.region ?_
            refine RunL.ok (OpOk.assign rfl) rfl ?_
            refine RunL.nil ?_
            refine Run.ret1 Try.func10 rfl rfl ?_
            exact absurd (row_eq v4 ⟨hle3.1, hle3.2.1, by omega⟩) v6
          refine Sd.quiet 15 _ _ rfl rfl rfl rfl rfl (QOp.ok (fun X => OpOk.move rfl)) ?_
          refine Sd.quiet 16 _ _ rfl rfl rfl rfl rfl (QOp.ok (fun X => OpOk.move rfl)) ?_
          refine Sd.quiet 19 _ _ rfl rfl rfl rfl rfl (QOp.ok (fun X => OpOk.move rfl)) ?_
          (refine Sd.exec 17 rfl rfl rfl rfl rfl ?hrest (by rfl) (fun Xv7 Kv7 hKv7 => ?_); case hrest => kernel_rfl)
          refine RunL.mem (fl2 (flS (flS rfl)) (flS (flS rfl))) ?_
          refine RunL.know (fun w s => (s.conv (frl (frl (frl rfl)))).ownsM0) (fun alv8 => ?_)
          refine RunL.call cal49 rfl (s49 (by assumption) (by assumption) (by assumption) (by assumption) (by assumption)) rfl (fun vv9 Av9 hv9 => ?_)
          obtain ⟨v10, ⟨v11, ⟨v12, rfl⟩⟩⟩ := hv9
          refine RunL.know (fun w s => (s.conv (frl rfl)).ownRd0) (fun rdv13 => ?_)
          refine Sd.ret hKv7 (Eq.trans rfl (gp2 (sep_emp _).symm (asg (asg (asg (asg (asg (asg (asg (asg rfl)))))))))) ⟨_, (asg (asg (asg (asg (asg rfl)))))⟩ ?_
          refine Sd.quiet 18 _ _ rfl rfl rfl rfl rfl (QOp.ok (fun X => OpOk.lenR rfl rfl (Rd.right (Rd.right rdv13).left).left rfl)) ?_
          refine Sd.quiet 20 _ _ rfl rfl rfl rfl rfl (QOp.ok (fun X => OpOk.gtr rfl rfl)) ?_
          refine Sd.quiet 21 _ _ rfl rfl rfl rfl rfl (QOp.ok (fun X => OpOk.pickF rfl rfl)) ?_
          (apply Sd.tail; case hall => kernel_rfl)
          refine RunL.mem (fl2 (flS (flS (flS (flS (flS (flS (flS (flS rfl)))))))) (sep_emp _)) ?_
          refine RunL.nil ?_
          refine Run.condD rfl (fun v14 => ?_) (fun v14 => ?_)
          · refine Run.seq ?_
            refine Run.region ?_
            refine RunL.ok (OpOk.assign rfl) rfl ?_
            refine RunL.nil ?_
            refine Run.ret1 Try.func10 rfl rfl ?_
            have h5 := row_len3 v12 ⟨hle3.1, hle3.2.1, by omega⟩
            rw [hln3] at hrw3
            exact absurd v14 (by omega)
          refine Run.skip ?_
          refine Run.inBlock ?_
          refine Run.region ?_
          refine RunL.ok (OpOk.move rfl) rfl ?_
          refine RunL.ok (OpOk.addN _ 1 rfl rfl rfl rfl (by omega)) rfl ?_
          refine RunL.ok (OpOk.assign rfl) rfl ?_
          refine RunL.nil ?_
          refine Run.jump ((ih (i + 1, _, z4, ref + (([mz (t : Int) (tk.getD t 0 + 1)] : List Ms).length : Int) - 1, (tk.set t (tk.getD t 0 + 1)), nx) ⟨by dsimp only; omega, by dsimp only; omega, z6, hO3, by show 0 ≤ ref + 1 - 1; omega, by show ref + 1 - 1 ≤ ((i + 1 : Nat) : Int); omega⟩ (by dsimp only; omega))) ⟨rfl, rfl, rfl, rfl, rfl, rfl, trivial⟩ (Grew.of (Eq.trans (frc (frl (frl (frl (frl (frl (frl (frl (frl (frl (frl (frl (frl (frl (frl (frl rfl))))))))))))))) (frc (frl (frl (frl (frl (frl (frl (frl (frl (frl rfl))))))))) (frc (frl (frl rfl)) (frc (frl (frl rfl)) (frc (frl (frl rfl)) rfl))))) (congrArg (· * _) (congrArg (· * _) (congrArg (· * _) (congrArg (· * _) (congrArg (· * _) (asg (asg (asg (asg (asg (asg (asg (asg (asg (asg (asg as1))))))))))))))))) (Grew.refl _))
        · have hff : ¬ fits r (cQ Q) (t : Int) := fun h => by
            have h3 := h.2.2
            rw [Int.toNat_natCast, hO.len ht4] at h3
            omega
          have hO2 : OrdI r (offersC r (cQ Q) ([mz (t : Int) (tk.getD t 0 + 1)].map cm)) (tk.set t (tk.getD t 0 + 0)) nx (i + 1) := by
            rw [show offersC r (cQ Q) ([mz (t : Int) (tk.getD t 0 + 1)].map cm) = cQ Q from if_neg hff, Int.add_zero, List.getD_eq_getElem?_getD, List.getElem?_eq_getElem (by omega), Option.getD_some, List.set_getElem_self]
            exact hO.up
          have rw_c : ((countC r (cQ Q) ([mz (t : Int) (tk.getD t 0 + 1)].map cm) : Nat) : Int) = 0 := by rw [show countC r (cQ Q) ([mz (t : Int) (tk.getD t 0 + 1)].map cm) = 0 from (countC_one _ _ _).trans (if_neg hff)]; rfl
          have al1 : Alls (GM w0) (old w0) [mz (t : Int) (tk.getD t 0 + 1)] := alls_z w0 (old w0) [((t : Int), tk.getD t 0 + 1)]
          have hm1 : ∀ m ∈ [mz (t : Int) (tk.getD t 0 + 1)], m.2.2.2.2.2.length ≤ 140737488351232 := by simp [mz]
          refine Run.seq ?_
          refine Run.seq ?_
          refine Run.region ?_
          refine RunL.ok (OpOk.move rfl) rfl ?_
          refine RunL.ok (OpOk.move rfl) rfl ?_
          refine RunL.ok (OpOk.lenR rfl rfl rd.left.left.left.left.left.left rfl) rfl ?_
          refine RunL.ok (OpOk.asT (OpOk.lss rfl rfl) (by omega)) rfl ?_
          refine RunL.ok (OpOk.move rfl) rfl ?_
          refine RunL.on rfl rfl ?_
          refine RunL.ok (OpOk.move rfl) rfl ?_
          refine RunL.on rfl rfl ?_
          refine RunL.ok (OpOk.asT (OpOk.lss rfl rfl) (by omega)) rfl ?_
          refine RunL.ok (OpOk.pickT rfl rfl) rfl ?_
          refine RunL.nil ?_
          refine Run.condT rfl ?_
          refine Run.skip ?_
          refine Run.seq ?_
          refine Run.block ?_
          refine Run.seq ?_
          refine Run.region ?_
          refine RunL.ok (OpOk.move rfl) rfl ?_
          refine RunL.ok (OpOk.move rfl) rfl ?_
          refine RunL.ok (OpOk.idxN rfl ti74 rfl rd.left.left.left.left.left.left rfl (by omega)) rfl ?_
          refine RunL.ok (OpOk.fieldAddrA fld74_1 rfl) rfl ?_
          refine RunL.ok (OpOk.loadFl1E hoe rfl rfl rfl rd.left.left.left.left.left.left (fun _ => rfl) rfl (by omega) rfl) rfl ?_
          refine RunL.ok (OpOk.rem rfl rfl (by decide) rfl) rfl ?_
          refine RunL.ok (OpOk.add rfl rfl rfl) rfl ?_
          refine RunL.ok (OpOk.rem rfl rfl (by decide) rfl) rfl ?_
          refine RunL.ok (OpOk.assign rfl) rfl ?_
          refine RunL.nil ?_
          refine Run.seq ?_
          refine Run.seq ?_
          rw [rw_t]
          refine Run.region ?_
          refine RunL.ok (OpOk.move rfl) rfl ?_
          refine RunL.ok (OpOk.move rfl) rfl ?_
          refine RunL.ok (OpOk.idxN rfl ti74 rfl rd.left.left.left.left.left.left rfl (by omega)) rfl ?_
          refine RunL.ok (OpOk.fieldAddrA fld74_0 rfl) rfl ?_
          refine RunL.ok (OpOk.loadFl1E hoe rfl rfl rfl rd.left.left.left.left.left.left (fun _ => rfl) rfl (by omega) rfl) rfl ?_
          refine RunL.ok (OpOk.asT (OpOk.eql rfl rfl) (by omega)) rfl ?_
          refine RunL.nil ?_
          refine Run.condT rfl ?_
          refine Run.seq ?_
          refine Run.region ?_
          refine RunL.ok (OpOk.move rfl) rfl ?_
          refine RunL.ok (OpOk.move rfl) rfl ?_
          refine RunL.mem (frc (frl (frl rfl)) (frc (frl (frl rfl)) (frc (frl (frl rfl)) rfl))) ?_
          refine RunL.call cal49 rfl (s49 (by assumption) (by assumption) (by assumption) (by assumption) (by assumption)) rfl (fun vy1 Ay1 hy1 => ?_)
          obtain ⟨y2, ⟨y3, ⟨y4, rfl⟩⟩⟩ := hy1
          refine RunL.know (fun w s => (s.conv (frl rfl)).ownRd0) (fun rdy5 => ?_)
          refine RunL.ok (OpOk.lenR rfl rfl (Rd.right rdy5).left rfl) rfl ?_
          refine RunL.ok (OpOk.move rfl) rfl ?_
          refine RunL.ok (OpOk.geq rfl rfl) rfl ?_
          refine RunL.ok (OpOk.assign rfl) rfl ?_
          refine RunL.nil ?_
          refine Run.seq ?_
          refine Run.region ?_
          refine RunL.ok (OpOk.move rfl) rfl ?_
          refine RunL.ok (OpOk.move rfl) rfl ?_
          refine RunL.ok (OpOk.move rfl) rfl ?_
          refine RunL.ok (OpOk.move rfl) rfl ?_
          refine RunL.know (fun w s => (s.conv (frl (frl (frl (frl (frl (frl (frl rfl)))))))).ownRd0) (fun rdy6 => ?_)
          refine RunL.ok (OpOk.idx1N rfl ti3 rfl (Rd.right rdy6).left.left.left.left.left.left.left rfl (by omega)) rfl ?_
          refine RunL.ok (OpOk.load rfl rfl rfl (Rd.getI (Rd.right rdy6).left.left.left.left.left.left.left (by omega))) rfl ?_
          refine RunL.ok (OpOk.add rfl rfl (wrapI (by omega) (by omega))) rfl ?_
          refine RunL.ok (OpOk.build (cells := #[.int (IntKind.i64) (0), .int (IntKind.i64) (0), .int (IntKind.i64) (↑t), .slice (none) (0) (0), .int (IntKind.i64) (tk.getD t 0 + 1)]) rfl (fun w => run_build w 82 _ _ (by rfl))) rfl ?_
          have hyl : (y2.length : Int) = tk.getD t 0 - nx.getD t 0 := by
            have h1 := congrArg List.length y4
            rw [List.length_map, hWl] at h1
            omega
          refine RunL.litFl (enc := encT82) [mz (t : Int) (tk.getD t 0 + 1)] rfl ti82 rfl (fun _ => rfl) rfl rfl (by decide) (by decide) rfl (fun v9 rd9 => ?_)
          refine RunL.know (fun w s => (s.conv (frl rfl)).ownsM0) (fun alz1 => ?_)
          refine RunL.know (fun w s => (s.conv rfl).ownRd0) (fun rdz2 => ?_)
          refine RunL.mem (frc (frl (frl (frl rfl))) (frc (frl (frl (frl rfl))) (frc (frl (frl (frl rfl))) rfl))) ?_
          refine RunL.call cal43 rfl (s43 (Rd.right rdz2) al1.left.left.left.left.left.left.left (by assumption) (by assumption) (by assumption) (by assumption) (by omega) (by simp)) rfl (fun vz3 Az3 hz3 => ?_)
          obtain ⟨z4, ⟨z5, ⟨rfl, ⟨z6, ⟨z7, rfl⟩⟩⟩⟩⟩ := hz3
          refine RunL.ok (OpOk.assign rfl) rfl ?_
          refine RunL.nil ?_
          refine Run.seq ?_
          refine Run.seq ?_
          rw [rw_c]
          refine Run.region ?_
          refine RunL.ok (OpOk.move rfl) rfl ?_
          refine RunL.ok (OpOk.move rfl) rfl ?_
          refine RunL.splitDT (t := 77) rfl (by first | omega | with_reducible rfl | assumption) ?_
          refine RunL.on rfl rfl ?_
          refine RunL.ok (OpOk.move rfl) rfl ?_
          refine RunL.on rfl rfl ?_
          refine RunL.ok (OpOk.as (c := false) (OpOk.neq rfl rfl) (by rw [decide_eq_true (by omega)]; rfl)) rfl ?_
          refine RunL.ok (OpOk.pickT rfl rfl) rfl ?_
          refine RunL.ok (OpOk.move rfl) rfl ?_
          refine RunL.on rfl rfl ?_
          refine RunL.ok (OpOk.move rfl) rfl ?_
          refine RunL.on rfl rfl ?_
          refine RunL.ok (OpOk.not rfl) rfl ?_
          refine RunL.on rfl rfl ?_
          refine RunL.ok (OpOk.move rfl) rfl ?_
          refine RunL.splitNF (t := 84) rfl (by first | omega | with_reducible rfl | assumption) ?_
          refine RunL.off rfl rfl rfl rfl ?_
          refine RunL.off rfl rfl rfl rfl ?_
          refine RunL.on rfl rfl ?_
          refine RunL.ok (OpOk.pickF rfl rfl) rfl ?_
          refine RunL.ok (OpOk.pickF rfl rfl) rfl ?_
          refine RunL.nil ?_
          refine Run.condF rfl ?_
          refine Run.skip ?_
          refine Run.region ?_
          refine RunL.ok (OpOk.move rfl) rfl ?_
          refine RunL.ok (OpOk.move rfl) rfl ?_
          refine RunL.ok (OpOk.idx1N rfl ti3 rfl (Rd.right rdy6).left.left.left.left.left.left.left.left.left rfl (by omega)) rfl ?_
          refine RunL.ok (OpOk.load rfl rfl rfl (Rd.getI (Rd.right rdy6).left.left.left.left.left.left.left.left.left (by omega))) rfl ?_
          refine RunL.ok (OpOk.move rfl) rfl ?_
          refine RunL.ok (OpOk.add rfl rfl (wrapI (by omega) (by omega))) rfl ?_
          refine RunL.ok (OpOk.idx1N rfl ti3 rfl (Rd.right rdy6).left.left.left.left.left.left.left.left.left rfl (by omega)) rfl ?_
          refine RunL.storeI ti3 rfl rfl (frl (frl (frl (frl (frl (frl (frl (frl (frl rfl))))))))) (by omega) ?_
          refine RunL.nil ?_
          refine Run.seq ?_
          refine Run.know (fun w s => (s.conv (frl (frl (frl (frl (frl (frl (frl (frl (frl rfl)))))))))).ownRd0) (fun rdz10 => ?_)
          refine Run.know (fun w s => (s.conv (frl (frl rfl))).ownRd0) (fun rdz11 => ?_)
          refine Run.know (fun w s => (s.conv rfl).ownRd0) (fun rdz12 => ?_)
          (apply Run.drawD [] (by rfl) (Eq.trans (frc (frl rfl) (frc (frl rfl) (frc (frl rfl) rfl))) (asg (asg rfl))); case hchk => kernel_rfl)
          refine Sd.quiet 0 _ _ rfl rfl rfl rfl rfl (QOp.ok (fun X => OpOk.move rfl)) ?_
          refine Sd.quiet 1 _ _ rfl rfl rfl rfl rfl (QOp.ok (fun X => OpOk.move rfl)) ?_
          refine Sd.quiet 4 _ _ rfl rfl rfl rfl rfl (QOp.ok (fun X => OpOk.move rfl)) ?_
          refine Sd.quiet 5 _ _ rfl rfl rfl rfl rfl (QOp.ok (fun X => OpOk.move rfl)) ?_
          refine Sd.quiet 6 _ _ rfl rfl rfl rfl rfl (QOp.ok (fun X => OpOk.idx1N rfl ti3 rfl (Rd.right rdz12).left.left rfl (by omega))) ?_
          refine Sd.quiet 7 _ _ rfl rfl rfl rfl rfl (QOp.ok (fun X => OpOk.load rfl rfl rfl (Rd.getI (Rd.right rdz12).left.left (by omega)))) ?_
          refine Sd.quiet 8 _ _ rfl rfl rfl rfl rfl (QOp.ok (fun X => OpOk.move rfl)) ?_
          refine Sd.quiet 9 _ _ rfl rfl rfl rfl rfl (QOp.ok (fun X => OpOk.move rfl)) ?_
          refine Sd.quiet 10 _ _ rfl rfl rfl rfl rfl (QOp.ok (fun X => OpOk.idx1N rfl ti3 rfl (Rd.right rdz10).left.left.left.left.left.left.left.left rfl (by omega))) ?_
          refine Sd.quiet 11 _ _ rfl rfl rfl rfl rfl (QOp.ok (fun X => OpOk.load rfl rfl rfl (Rd.getI (Rd.right rdz10).left.left.left.left.left.left.left.left (by omega)))) ?_
          refine Sd.quiet 12 _ _ rfl rfl rfl rfl rfl (QOp.ok (fun X => OpOk.sub rfl rfl rfl)) ?_
          (refine Sd.exec 2 rfl rfl rfl rfl rfl ?hrest (by rfl) (fun Xz13 Kz13 hKz13 => ?_); case hrest => kernel_rfl)
          refine RunL.mem (fl2 (sep_emp _) (flS (flS rfl))) ?_
          have hO3 : OrdI r (cQ z4) (tk.set t (tk.getD t 0 + 0)) nx (i + 1) := by rw [z7]; exact hO2
          have hW3 := hO3.wait ht4
          have hWb3 := rowO_bd t (nx.getD t 0) ((tk.set t (tk.getD t 0 + 0)).getD t 0)
          have hrb3 := hO3.rb
          have hle3 := hO3.le t ht4
          have hln3 := hO3.len ht4
          have hrw3 := hO3.rb t (by rw [hO3.l0]; exact ht4)
          have hWl3 := rowO_len t (nx.getD t 0) ((tk.set t (tk.getD t 0 + 0)).getD t 0)
          refine RunL.call cal49 rfl (s49 (by assumption) (by assumption) (by assumption) (by assumption) (by assumption)) rfl (fun vv1 Av1 hv1 => ?_)
          obtain ⟨v2, ⟨v3, ⟨v4, rfl⟩⟩⟩ := hv1
          refine RunL.know (fun w s => (s.conv (frl rfl)).ownRd0) (fun rdv5 => ?_)
          refine Sd.ret hKz13 (Eq.trans (frc (frl (frl rfl)) (frc (frl (frl rfl)) (frc (frl (frl rfl)) rfl))) (gp2 (asg (asg rfl)) (asg (asg rfl)))) ⟨_, (emp_sep _).symm⟩ ?_
          refine Sd.quiet 3 _ _ rfl rfl rfl rfl rfl (QOp.ok (fun X => OpOk.lenR rfl rfl (Rd.right (Rd.right rdv5).left).left rfl)) ?_
          refine Sd.quiet 13 _ _ rfl rfl rfl rfl rfl (QOp.ok (fun X => OpOk.neq rfl rfl)) ?_
          refine Sd.quiet 14 _ _ rfl rfl rfl rfl rfl (QOp.ok (fun X => OpOk.move rfl)) ?_
          refine Sd.splitN (fun v6 => ?_) (fun v6 => ?_)
          · refine Sd.skip 15 _ rfl rfl rfl rfl rfl ?_
            refine Sd.skip 16 _ rfl rfl rfl rfl rfl ?_
            refine Sd.skip 17 _ rfl rfl rfl rfl rfl ?_
            refine Sd.skip 18 _ rfl rfl rfl rfl rfl ?_
            refine Sd.skip 19 _ rfl rfl rfl rfl rfl ?_
            refine Sd.skip 20 _ rfl rfl rfl rfl rfl ?_
            refine Sd.quiet 21 _ _ rfl rfl rfl rfl rfl (QOp.ok (fun X => OpOk.pickT rfl rfl)) ?_
            (apply Sd.tail; case hall => kernel_rfl)
            refine RunL.mem (fl2 (flS (flS rfl)) (flS (flS rfl))) ?_
            refine RunL.nil ?_
            refine Run.condT rfl ?_
            refine Run.seq ?_
            refine Run.region ?_
            refine RunL.ok (OpOk.assign rfl) rfl ?_
            refine RunL.nil ?_
            refine Run.ret1 Try.func10 rfl rfl ?_
            exact absurd (row_eq v4 ⟨hle3.1, hle3.2.1, by omega⟩) v6
          refine Sd.quiet 15 _ _ rfl rfl rfl rfl rfl (QOp.ok (fun X => OpOk.move rfl)) ?_
          refine Sd.quiet 16 _ _ rfl rfl rfl rfl rfl (QOp.ok (fun X => OpOk.move rfl)) ?_
          refine Sd.quiet 19 _ _ rfl rfl rfl rfl rfl (QOp.ok (fun X => OpOk.move rfl)) ?_
          (refine Sd.exec 17 rfl rfl rfl rfl rfl ?hrest (by rfl) (fun Xv7 Kv7 hKv7 => ?_); case hrest => kernel_rfl)
          refine RunL.mem (fl2 (flS (flS rfl)) (flS (flS rfl))) ?_
          refine RunL.know (fun w s => (s.conv (frl (frl (frl rfl)))).ownsM0) (fun alv8 => ?_)
          refine RunL.call cal49 rfl (s49 (by assumption) (by assumption) (by assumption) (by assumption) (by assumption)) rfl (fun vv9 Av9 hv9 => ?_)
          obtain ⟨v10, ⟨v11, ⟨v12, rfl⟩⟩⟩ := hv9
          refine RunL.know (fun w s => (s.conv (frl rfl)).ownRd0) (fun rdv13 => ?_)
          refine Sd.ret hKv7 (Eq.trans rfl (gp2 (sep_emp _).symm (asg (asg (asg (asg (asg (asg (asg (asg rfl)))))))))) ⟨_, (asg (asg (asg (asg (asg rfl)))))⟩ ?_
          refine Sd.quiet 18 _ _ rfl rfl rfl rfl rfl (QOp.ok (fun X => OpOk.lenR rfl rfl (Rd.right (Rd.right rdv13).left).left rfl)) ?_
          refine Sd.quiet 20 _ _ rfl rfl rfl rfl rfl (QOp.ok (fun X => OpOk.gtr rfl rfl)) ?_
          refine Sd.quiet 21 _ _ rfl rfl rfl rfl rfl (QOp.ok (fun X => OpOk.pickF rfl rfl)) ?_
          (apply Sd.tail; case hall => kernel_rfl)
          refine RunL.mem (fl2 (flS (flS (flS (flS (flS (flS (flS (flS rfl)))))))) (sep_emp _)) ?_
          refine RunL.nil ?_
          refine Run.condD rfl (fun v14 => ?_) (fun v14 => ?_)
          · refine Run.seq ?_
            refine Run.region ?_
            refine RunL.ok (OpOk.assign rfl) rfl ?_
            refine RunL.nil ?_
            refine Run.ret1 Try.func10 rfl rfl ?_
            have h5 := row_len3 v12 ⟨hle3.1, hle3.2.1, by omega⟩
            rw [hln3] at hrw3
            exact absurd v14 (by omega)
          refine Run.skip ?_
          refine Run.inBlock ?_
          refine Run.region ?_
          refine RunL.ok (OpOk.move rfl) rfl ?_
          refine RunL.ok (OpOk.addN _ 1 rfl rfl rfl rfl (by omega)) rfl ?_
          refine RunL.ok (OpOk.assign rfl) rfl ?_
          refine RunL.nil ?_
          refine Run.jump ((ih (i + 1, _, z4, ref + (([mz (t : Int) (tk.getD t 0 + 1)] : List Ms).length : Int) - 0, (tk.set t (tk.getD t 0 + 0)), nx) ⟨by dsimp only; omega, by dsimp only; omega, z6, hO3, by show 0 ≤ ref + 1 - 0; omega, by show ref + 1 - 0 ≤ ((i + 1 : Nat) : Int); omega⟩ (by dsimp only; omega))) ⟨rfl, rfl, rfl, rfl, rfl, rfl, trivial⟩ (Grew.of (Eq.trans (frc (frl (frl (frl (frl (frl (frl (frl (frl (frl (frl (frl (frl (frl (frl (frl rfl))))))))))))))) (frc (frl (frl (frl (frl (frl (frl (frl (frl (frl rfl))))))))) (frc (frl (frl rfl)) (frc (frl (frl rfl)) (frc (frl (frl rfl)) rfl))))) (congrArg (· * _) (congrArg (· * _) (congrArg (· * _) (congrArg (· * _) (congrArg (· * _) (asg (asg (asg (asg (asg (asg (asg (asg (asg (asg (asg as1))))))))))))))))) (Grew.refl _))
      · rcases Decidable.em (nx.getD t 0 < tk.getD t 0) with hn | hn
        · obtain ⟨C2, hnx, hO2⟩ := hO.take ht4 hn
          have rw_n : (nx.set t (nx.getD t 0 + 1)).getD t 0 = nx.getD t 0 + 1 := getD_set_eq (by rw [hnl]; exact ht4)
          refine Run.seq ?_
          refine Run.seq ?_
          refine Run.region ?_
          refine RunL.ok (OpOk.move rfl) rfl ?_
          refine RunL.ok (OpOk.move rfl) rfl ?_
          refine RunL.ok (OpOk.lenR rfl rfl rd.left.left.left.left.left.left rfl) rfl ?_
          refine RunL.ok (OpOk.asT (OpOk.lss rfl rfl) (by omega)) rfl ?_
          refine RunL.ok (OpOk.move rfl) rfl ?_
          refine RunL.on rfl rfl ?_
          refine RunL.ok (OpOk.move rfl) rfl ?_
          refine RunL.on rfl rfl ?_
          refine RunL.ok (OpOk.asT (OpOk.lss rfl rfl) (by omega)) rfl ?_
          refine RunL.ok (OpOk.pickT rfl rfl) rfl ?_
          refine RunL.nil ?_
          refine Run.condT rfl ?_
          refine Run.skip ?_
          refine Run.seq ?_
          refine Run.block ?_
          refine Run.seq ?_
          refine Run.region ?_
          refine RunL.ok (OpOk.move rfl) rfl ?_
          refine RunL.ok (OpOk.move rfl) rfl ?_
          refine RunL.ok (OpOk.idxN rfl ti74 rfl rd.left.left.left.left.left.left rfl (by omega)) rfl ?_
          refine RunL.ok (OpOk.fieldAddrA fld74_1 rfl) rfl ?_
          refine RunL.ok (OpOk.loadFl1E hoe rfl rfl rfl rd.left.left.left.left.left.left (fun _ => rfl) rfl (by omega) rfl) rfl ?_
          refine RunL.ok (OpOk.rem rfl rfl (by decide) rfl) rfl ?_
          refine RunL.ok (OpOk.add rfl rfl rfl) rfl ?_
          refine RunL.ok (OpOk.rem rfl rfl (by decide) rfl) rfl ?_
          refine RunL.ok (OpOk.assign rfl) rfl ?_
          refine RunL.nil ?_
          refine Run.seq ?_
          refine Run.seq ?_
          rw [rw_t]
          refine Run.region ?_
          refine RunL.ok (OpOk.move rfl) rfl ?_
          refine RunL.ok (OpOk.move rfl) rfl ?_
          refine RunL.ok (OpOk.idxN rfl ti74 rfl rd.left.left.left.left.left.left rfl (by omega)) rfl ?_
          refine RunL.ok (OpOk.fieldAddrA fld74_0 rfl) rfl ?_
          refine RunL.ok (OpOk.loadFl1E hoe rfl rfl rfl rd.left.left.left.left.left.left (fun _ => rfl) rfl (by omega) rfl) rfl ?_
          refine RunL.ok (OpOk.asF (OpOk.eql rfl rfl) (by omega)) rfl ?_
          refine RunL.nil ?_
          refine Run.condF rfl ?_
          refine Run.seq ?_
          refine Run.region ?_
          refine RunL.ok (OpOk.move rfl) rfl ?_
          refine RunL.ok (OpOk.move rfl) rfl ?_
          refine RunL.mem (frc (frl (frl rfl)) (frc (frl (frl rfl)) (frc (frl (frl rfl)) rfl))) ?_
          refine RunL.call cal46 rfl (s46 (by assumption) (by assumption) (by assumption) (by assumption)) rfl (fun vy1 Ay1 hy1 => ?_)
          obtain ⟨y2, ⟨y3, ⟨y4, ⟨rfl, ⟨y5, ⟨y6, rfl⟩⟩⟩⟩⟩⟩ := hy1
          refine RunL.ok (OpOk.move rfl) rfl ?_
          refine RunL.ok (OpOk.ext20 rfl) rfl ?_
          refine RunL.ok (OpOk.ext21 rfl) rfl ?_
          refine RunL.alloc ti82 rfl (fun by7 => ?_)
          refine RunL.storeAll ti82 rfl rfl rfl (fun w hw => OneC.one (enc := encT82) ((0, 0, ↑t, y2, nx.getD t 0 + 1, [])) w hw) rfl rfl ?_
          refine RunL.ok (OpOk.assign rfl) rfl ?_
          refine RunL.nil ?_
          refine Run.seq ?_
          refine Run.seq ?_
          refine Run.know (fun w s => (s.conv (frl (frl (frl (frl (frl (frl (frl rfl)))))))).ownRd0) (fun rdy8 => ?_)
          refine Run.know (fun w s => (s.conv (frl (frl (frl (frl (frl (frl rfl))))))).ownRd0) (fun rdy9 => ?_)
          refine Run.know (fun w s => (s.conv (frl (frl (frl (frl rfl))))).ownRd0) (fun rdy10 => ?_)
          refine Run.know (fun w s => (s.conv (frl (frl rfl))).ownRd0) (fun rdy11 => ?_)
          (apply Run.drawD [] (by rfl) (sep_emp _).symm; case hchk => kernel_rfl)
          refine Sd.quiet 0 _ _ rfl rfl rfl rfl rfl (QOp.ok (fun X => OpOk.move rfl)) ?_
          refine Sd.quiet 1 _ _ rfl rfl rfl rfl rfl (QOp.ok (fun X => OpOk.asT (OpOk.eql rfl rfl) (by omega))) ?_
          refine Sd.quiet 2 _ _ rfl rfl rfl rfl rfl (QOp.ok (fun X => OpOk.move rfl)) ?_
          refine Sd.quiet 3 _ _ rfl rfl rfl rfl rfl (QOp.ok (fun X => OpOk.move rfl)) ?_
          refine Sd.quiet 4 _ _ rfl rfl rfl rfl rfl (QOp.ok (fun X => OpOk.idx1N rfl ti3 rfl (Rd.right rdy9).left.left.left.left.left.left.left.left rfl (by omega))) ?_
          refine Sd.quiet 5 _ _ rfl rfl rfl rfl rfl (QOp.ok (fun X => OpOk.load rfl rfl rfl (Rd.getI (Rd.right rdy9).left.left.left.left.left.left.left.left (by omega)))) ?_
          refine Sd.quiet 6 _ _ rfl rfl rfl rfl rfl (QOp.ok (fun X => OpOk.move rfl)) ?_
          refine Sd.quiet 7 _ _ rfl rfl rfl rfl rfl (QOp.ok (fun X => OpOk.move rfl)) ?_
          refine Sd.quiet 8 _ _ rfl rfl rfl rfl rfl (QOp.ok (fun X => OpOk.idx1N rfl ti3 rfl (Rd.right rdy8).left.left.left.left.left.left.left.left.left rfl (by omega))) ?_
          refine Sd.quiet 9 _ _ rfl rfl rfl rfl rfl (QOp.ok (fun X => OpOk.load rfl rfl rfl (Rd.getI (Rd.right rdy8).left.left.left.left.left.left.left.left.left (by omega)))) ?_
          refine Sd.quiet 10 _ _ rfl rfl rfl rfl rfl (QOp.ok (fun X => OpOk.asT (OpOk.lss rfl rfl) (by omega))) ?_
          refine Sd.quiet 11 _ _ rfl rfl rfl rfl rfl (QOp.ok (fun X => OpOk.neqB rfl rfl rfl)) ?_
          (apply Sd.tail; case hall => kernel_rfl)
          refine RunL.mem (fl2 (sep_emp _) (sep_emp _)) ?_
          refine RunL.nil ?_
          refine Run.condF rfl ?_
          refine Run.skip ?_
          refine Run.seq ?_
          refine Run.region ?_
          refine RunL.ok (OpOk.move rfl) rfl ?_
          refine RunL.ok (OpOk.asT (OpOk.eql rfl rfl) (by omega)) rfl ?_
          refine RunL.nil ?_
          refine Run.condT rfl ?_
          refine Run.seq ?_
          refine Run.region ?_
          refine RunL.ok (OpOk.move rfl) rfl ?_
          refine RunL.ok (OpOk.move rfl) rfl ?_
          refine RunL.ok (OpOk.idx1N rfl ti3 rfl (Rd.right rdy9).left.left.left.left.left.left rfl (by omega)) rfl ?_
          refine RunL.ok (OpOk.load rfl rfl rfl (Rd.getI (Rd.right rdy9).left.left.left.left.left.left (by omega))) rfl ?_
          refine RunL.ok (OpOk.add rfl rfl (wrapI (by omega) (by omega))) rfl ?_
          refine RunL.ok (OpOk.idx1N rfl ti3 rfl (Rd.right rdy9).left.left.left.left.left.left rfl (by omega)) rfl ?_
          refine RunL.storeI ti3 rfl rfl (frl (frl (frl (frl (frl (frl rfl)))))) (by omega) ?_
          refine RunL.nil ?_
          refine Run.seq ?_
          refine Run.know (fun w s => (s.conv rfl).ownRd0) (fun rdy12 => ?_)
          (apply Run.drawD [] (by rfl) (sep_emp _).symm; case hchk => kernel_rfl)
          refine Sd.quiet 0 _ _ rfl rfl rfl rfl rfl (QOp.ok (fun X => OpOk.fieldAddr fld82_4 rfl)) ?_
          refine Sd.quiet 1 _ _ rfl rfl rfl rfl rfl (QOp.ok (fun X => OpOk.load rfl rfl rfl (Blk.out Blk.pts.left.left.left _ _ (by first | rfl | assumption)))) ?_
          refine Sd.quiet 2 _ _ rfl rfl rfl rfl rfl (QOp.ok (fun X => OpOk.move rfl)) ?_
          refine Sd.quiet 3 _ _ rfl rfl rfl rfl rfl (QOp.ok (fun X => OpOk.move rfl)) ?_
          refine Sd.quiet 4 _ _ rfl rfl rfl rfl rfl (QOp.ok (fun X => OpOk.idx1N rfl ti3 rfl (Rd.right rdy12).left.left rfl (by omega))) ?_
          refine Sd.quiet 5 _ _ rfl rfl rfl rfl rfl (QOp.ok (fun X => OpOk.load rfl rfl rfl (Rd.getIE (by assumption) (Rd.right rdy12).left.left (by omega)))) ?_
          refine Sd.quiet 6 _ _ rfl rfl rfl rfl rfl (QOp.ok (fun X => OpOk.as (c := false) (OpOk.neq rfl rfl) (by rw [decide_eq_true (by omega)]; rfl))) ?_
          refine Sd.quiet 7 _ _ rfl rfl rfl rfl rfl (QOp.ok (fun X => OpOk.move rfl)) ?_
          refine Sd.quiet 8 _ _ rfl rfl rfl rfl rfl (QOp.ok (fun X => OpOk.fieldAddr fld82_2 rfl)) ?_
          refine Sd.quiet 9 _ _ rfl rfl rfl rfl rfl (QOp.ok (fun X => OpOk.load rfl rfl rfl (Blk.out Blk.pts.left.left.left _ _ (by first | rfl | assumption)))) ?_
          refine Sd.quiet 10 _ _ rfl rfl rfl rfl rfl (QOp.ok (fun X => OpOk.move rfl)) ?_
          refine Sd.quiet 11 _ _ rfl rfl rfl rfl rfl (QOp.ok (fun X => OpOk.as (c := false) (OpOk.neq rfl rfl) (by rw [decide_eq_true (by omega)]; rfl))) ?_
          refine Sd.quiet 12 _ _ rfl rfl rfl rfl rfl (QOp.ok (fun X => OpOk.pickF rfl rfl)) ?_
          (apply Sd.tail; case hall => kernel_rfl)
          refine RunL.mem (fl2 (sep_emp _) (sep_emp _)) ?_
          refine RunL.nil ?_
          refine Run.condF rfl ?_
          refine Run.skip ?_
          refine Run.seq ?_
          (apply Run.drawD [] (by rfl) (Eq.trans (frc (frl (frl rfl)) (frc (frl (frl rfl)) (frc (frl (frl rfl)) rfl))) (asg (asg rfl))); case hchk => kernel_rfl)
          refine Sd.quiet 0 _ _ rfl rfl rfl rfl rfl (QOp.ok (fun X => OpOk.move rfl)) ?_
          refine Sd.quiet 1 _ _ rfl rfl rfl rfl rfl (QOp.ok (fun X => OpOk.move rfl)) ?_
          refine Sd.quiet 4 _ _ rfl rfl rfl rfl rfl (QOp.ok (fun X => OpOk.move rfl)) ?_
          refine Sd.quiet 5 _ _ rfl rfl rfl rfl rfl (QOp.ok (fun X => OpOk.move rfl)) ?_
          refine Sd.quiet 6 _ _ rfl rfl rfl rfl rfl (QOp.ok (fun X => OpOk.idx1N rfl ti3 rfl (Rd.right rdy8).left.left.left.left.left.left rfl (by omega))) ?_
          refine Sd.quiet 7 _ _ rfl rfl rfl rfl rfl (QOp.ok (fun X => OpOk.load rfl rfl rfl (Rd.getI (Rd.right rdy8).left.left.left.left.left.left (by omega)))) ?_
          refine Sd.quiet 8 _ _ rfl rfl rfl rfl rfl (QOp.ok (fun X => OpOk.move rfl)) ?_
          refine Sd.quiet 9 _ _ rfl rfl rfl rfl rfl (QOp.ok (fun X => OpOk.move rfl)) ?_
          refine Sd.quiet 10 _ _ rfl rfl rfl rfl rfl (QOp.ok (fun X => OpOk.idx1N rfl ti3 rfl (Rd.right rdy12).left.left rfl (by omega))) ?_
          refine Sd.quiet 11 _ _ rfl rfl rfl rfl rfl (QOp.ok (fun X => OpOk.load rfl rfl rfl (Rd.getIE (by assumption) (Rd.right rdy12).left.left (by omega)))) ?_
          refine Sd.quiet 12 _ _ rfl rfl rfl rfl rfl (QOp.ok (fun X => OpOk.sub rfl rfl (wrapI (by omega) (by omega)))) ?_
          (refine Sd.exec 2 rfl rfl rfl rfl rfl ?hrest (by rfl) (fun Xy13 Ky13 hKy13 => ?_); case hrest => kernel_rfl)
          refine RunL.mem (fl2 (sep_emp _) (flS (flS rfl))) ?_
          have hO3 : OrdI r (cQ y3) tk (nx.set t (nx.getD t 0 + 1)) (i + 1) := by rw [y6]; exact hO2
          have hW3 := hO3.wait ht4
          have hWb3 := rowO_bd t ((nx.set t (nx.getD t 0 + 1)).getD t 0) (tk.getD t 0)
          have hrb3 := hO3.rb
          have hle3 := hO3.le t ht4
          have hln3 := hO3.len ht4
          have hrw3 := hO3.rb t (by rw [hO3.l0]; exact ht4)
          refine RunL.call cal49 rfl (s49 (by assumption) (by assumption) (by assumption) (by assumption) (by assumption)) rfl (fun vv1 Av1 hv1 => ?_)
          obtain ⟨v2, ⟨v3, ⟨v4, rfl⟩⟩⟩ := hv1
          refine RunL.know (fun w s => (s.conv (frl rfl)).ownRd0) (fun rdv5 => ?_)
          refine Sd.ret hKy13 (Eq.trans (frc (frl (frl rfl)) (frc (frl (frl rfl)) (frc (frl (frl rfl)) rfl))) (gp2 (asg (asg rfl)) (asg (asg rfl)))) ⟨_, (emp_sep _).symm⟩ ?_
          refine Sd.quiet 3 _ _ rfl rfl rfl rfl rfl (QOp.ok (fun X => OpOk.lenR rfl rfl (Rd.right (Rd.right rdv5).left).left rfl)) ?_
          refine Sd.quiet 13 _ _ rfl rfl rfl rfl rfl (QOp.ok (fun X => OpOk.neq rfl rfl)) ?_
          refine Sd.quiet 14 _ _ rfl rfl rfl rfl rfl (QOp.ok (fun X => OpOk.move rfl)) ?_
          refine Sd.splitN (fun v6 => ?_) (fun v6 => ?_)
          · refine Sd.skip 15 _ rfl rfl rfl rfl rfl ?_
            refine Sd.skip 16 _ rfl rfl rfl rfl rfl ?_
            refine Sd.skip 17 _ rfl rfl rfl rfl rfl ?_
            refine Sd.skip 18 _ rfl rfl rfl rfl rfl ?_
            refine Sd.skip 19 _ rfl rfl rfl rfl rfl ?_
            refine Sd.skip 20 _ rfl rfl rfl rfl rfl ?_
            refine Sd.quiet 21 _ _ rfl rfl rfl rfl rfl (QOp.ok (fun X => OpOk.pickT rfl rfl)) ?_
            (apply Sd.tail; case hall => kernel_rfl)
            refine RunL.mem (fl2 (flS (flS rfl)) (flS (flS rfl))) ?_
            refine RunL.nil ?_
            refine Run.condT rfl ?_
            refine Run.seq ?_
            refine Run.region ?_
            refine RunL.ok (OpOk.assign rfl) rfl ?_
            refine RunL.nil ?_
            refine Run.ret1 Try.func10 rfl rfl ?_
            exact absurd (by have h5 := row_len3 v4 ⟨hle3.1, hle3.2.1, by omega⟩; omega) v6
          refine Sd.quiet 15 _ _ rfl rfl rfl rfl rfl (QOp.ok (fun X => OpOk.move rfl)) ?_
          refine Sd.quiet 16 _ _ rfl rfl rfl rfl rfl (QOp.ok (fun X => OpOk.move rfl)) ?_
          refine Sd.quiet 19 _ _ rfl rfl rfl rfl rfl (QOp.ok (fun X => OpOk.move rfl)) ?_
          (refine Sd.exec 17 rfl rfl rfl rfl rfl ?hrest (by rfl) (fun Xv7 Kv7 hKv7 => ?_); case hrest => kernel_rfl)
          refine RunL.mem (fl2 (flS (flS rfl)) (flS (flS rfl))) ?_
          refine RunL.know (fun w s => (s.conv (frl (frl (frl rfl)))).ownsM0) (fun alv8 => ?_)
          refine RunL.call cal49 rfl (s49 (by assumption) (by assumption) (by assumption) (by assumption) (by assumption)) rfl (fun vv9 Av9 hv9 => ?_)
          obtain ⟨v10, ⟨v11, ⟨v12, rfl⟩⟩⟩ := hv9
          refine RunL.know (fun w s => (s.conv (frl rfl)).ownRd0) (fun rdv13 => ?_)
          refine Sd.ret hKv7 (Eq.trans rfl (gp2 (sep_emp _).symm (asg (asg (asg (asg (asg (asg (asg (asg rfl)))))))))) ⟨_, (asg (asg (asg (asg (asg rfl)))))⟩ ?_
          refine Sd.quiet 18 _ _ rfl rfl rfl rfl rfl (QOp.ok (fun X => OpOk.lenR rfl rfl (Rd.right (Rd.right rdv13).left).left rfl)) ?_
          refine Sd.quiet 20 _ _ rfl rfl rfl rfl rfl (QOp.ok (fun X => OpOk.gtr rfl rfl)) ?_
          refine Sd.quiet 21 _ _ rfl rfl rfl rfl rfl (QOp.ok (fun X => OpOk.pickF rfl rfl)) ?_
          (apply Sd.tail; case hall => kernel_rfl)
          refine RunL.mem (fl2 (flS (flS (flS (flS (flS (flS (flS (flS rfl)))))))) (sep_emp _)) ?_
          refine RunL.nil ?_
          refine Run.condD rfl (fun v14 => ?_) (fun v14 => ?_)
          · refine Run.seq ?_
            refine Run.region ?_
            refine RunL.ok (OpOk.assign rfl) rfl ?_
            refine RunL.nil ?_
            refine Run.ret1 Try.func10 rfl rfl ?_
            have h5 := row_len3 v12 ⟨hle3.1, hle3.2.1, by omega⟩
            rw [hln3] at hrw3
            exact absurd v14 (by omega)
          refine Run.skip ?_
          refine Run.inBlock ?_
          refine Run.region ?_
          refine RunL.ok (OpOk.move rfl) rfl ?_
          refine RunL.ok (OpOk.addN _ 1 rfl rfl rfl rfl (by omega)) rfl ?_
          refine RunL.ok (OpOk.assign rfl) rfl ?_
          refine RunL.nil ?_
          refine Run.jump ((ih (i + 1, _, y3, ref, tk, (nx.set t (nx.getD t 0 + 1))) ⟨by dsimp only; omega, by dsimp only; omega, y5, hO3, by dsimp only; omega, by dsimp only; omega⟩ (by dsimp only; omega))) ⟨rfl, rfl, rfl, rfl, rfl, rfl, trivial⟩ (Grew.of (Eq.trans (frc (frl (frl (frl (frl (frl (frl (frl (frl (frl rfl))))))))) (frc (frl (frl (frl (frl (frl (frl (frl (frl (frl (frl (frl (frl rfl)))))))))))) (frc (frl (frl rfl)) (frc (frl (frl rfl)) (frc (frl (frl rfl)) rfl))))) (congrArg (· * _) (congrArg (· * _) (congrArg (· * _) (congrArg (· * _) (congrArg (· * _) (asg (asg (asg (asg (asg (asg (asg (asg (asg as1))))))))))))))) (Grew.refl _))
        · have hnx := hO.none ht4 (by omega)
          refine Run.seq ?_
          refine Run.seq ?_
          refine Run.region ?_
          refine RunL.ok (OpOk.move rfl) rfl ?_
          refine RunL.ok (OpOk.move rfl) rfl ?_
          refine RunL.ok (OpOk.lenR rfl rfl rd.left.left.left.left.left.left rfl) rfl ?_
          refine RunL.ok (OpOk.asT (OpOk.lss rfl rfl) (by omega)) rfl ?_
          refine RunL.ok (OpOk.move rfl) rfl ?_
          refine RunL.on rfl rfl ?_
          refine RunL.ok (OpOk.move rfl) rfl ?_
          refine RunL.on rfl rfl ?_
          refine RunL.ok (OpOk.asT (OpOk.lss rfl rfl) (by omega)) rfl ?_
          refine RunL.ok (OpOk.pickT rfl rfl) rfl ?_
          refine RunL.nil ?_
          refine Run.condT rfl ?_
          refine Run.skip ?_
          refine Run.seq ?_
          refine Run.block ?_
          refine Run.seq ?_
          refine Run.region ?_
          refine RunL.ok (OpOk.move rfl) rfl ?_
          refine RunL.ok (OpOk.move rfl) rfl ?_
          refine RunL.ok (OpOk.idxN rfl ti74 rfl rd.left.left.left.left.left.left rfl (by omega)) rfl ?_
          refine RunL.ok (OpOk.fieldAddrA fld74_1 rfl) rfl ?_
          refine RunL.ok (OpOk.loadFl1E hoe rfl rfl rfl rd.left.left.left.left.left.left (fun _ => rfl) rfl (by omega) rfl) rfl ?_
          refine RunL.ok (OpOk.rem rfl rfl (by decide) rfl) rfl ?_
          refine RunL.ok (OpOk.add rfl rfl rfl) rfl ?_
          refine RunL.ok (OpOk.rem rfl rfl (by decide) rfl) rfl ?_
          refine RunL.ok (OpOk.assign rfl) rfl ?_
          refine RunL.nil ?_
          refine Run.seq ?_
          refine Run.seq ?_
          rw [rw_t]
          refine Run.region ?_
          refine RunL.ok (OpOk.move rfl) rfl ?_
          refine RunL.ok (OpOk.move rfl) rfl ?_
          refine RunL.ok (OpOk.idxN rfl ti74 rfl rd.left.left.left.left.left.left rfl (by omega)) rfl ?_
          refine RunL.ok (OpOk.fieldAddrA fld74_0 rfl) rfl ?_
          refine RunL.ok (OpOk.loadFl1E hoe rfl rfl rfl rd.left.left.left.left.left.left (fun _ => rfl) rfl (by omega) rfl) rfl ?_
          refine RunL.ok (OpOk.asF (OpOk.eql rfl rfl) (by omega)) rfl ?_
          refine RunL.nil ?_
          refine Run.condF rfl ?_
          refine Run.seq ?_
          refine Run.region ?_
          refine RunL.ok (OpOk.move rfl) rfl ?_
          refine RunL.ok (OpOk.move rfl) rfl ?_
          refine RunL.mem (frc (frl (frl rfl)) (frc (frl (frl rfl)) (frc (frl (frl rfl)) rfl))) ?_
          refine RunL.call cal46 rfl (s46 (by assumption) (by assumption) (by assumption) (by assumption)) rfl (fun vy1 Ay1 hy1 => ?_)
          obtain ⟨y2, ⟨y3, ⟨y4, ⟨rfl, ⟨y5, ⟨y6, rfl⟩⟩⟩⟩⟩⟩ := hy1
          refine RunL.ok (OpOk.move rfl) rfl ?_
          refine RunL.ok (OpOk.ext20 rfl) rfl ?_
          refine RunL.ok (OpOk.ext21 rfl) rfl ?_
          refine RunL.alloc ti82 rfl (fun by7 => ?_)
          refine RunL.storeAll ti82 rfl rfl rfl (fun w hw => OneC.one (enc := encT82) ((0, 0, 0, y2, 0, [])) w hw) rfl rfl ?_
          refine RunL.ok (OpOk.assign rfl) rfl ?_
          refine RunL.nil ?_
          refine Run.seq ?_
          refine Run.seq ?_
          refine Run.know (fun w s => (s.conv (frl (frl (frl (frl (frl (frl (frl rfl)))))))).ownRd0) (fun rdy8 => ?_)
          refine Run.know (fun w s => (s.conv (frl (frl (frl (frl (frl (frl rfl))))))).ownRd0) (fun rdy9 => ?_)
          refine Run.know (fun w s => (s.conv (frl (frl (frl (frl rfl))))).ownRd0) (fun rdy10 => ?_)
          refine Run.know (fun w s => (s.conv (frl (frl rfl))).ownRd0) (fun rdy11 => ?_)
          (apply Run.drawD [] (by rfl) (sep_emp _).symm; case hchk => kernel_rfl)
          refine Sd.quiet 0 _ _ rfl rfl rfl rfl rfl (QOp.ok (fun X => OpOk.move rfl)) ?_
          refine Sd.quiet 1 _ _ rfl rfl rfl rfl rfl (QOp.ok (fun X => OpOk.asF (OpOk.eql rfl rfl) (by omega))) ?_
          refine Sd.quiet 2 _ _ rfl rfl rfl rfl rfl (QOp.ok (fun X => OpOk.move rfl)) ?_
          refine Sd.quiet 3 _ _ rfl rfl rfl rfl rfl (QOp.ok (fun X => OpOk.move rfl)) ?_
          refine Sd.quiet 4 _ _ rfl rfl rfl rfl rfl (QOp.ok (fun X => OpOk.idx1N rfl ti3 rfl (Rd.right rdy9).left.left.left.left.left.left.left.left rfl (by omega))) ?_
          refine Sd.quiet 5 _ _ rfl rfl rfl rfl rfl (QOp.ok (fun X => OpOk.load rfl rfl rfl (Rd.getI (Rd.right rdy9).left.left.left.left.left.left.left.left (by omega)))) ?_
          refine Sd.quiet 6 _ _ rfl rfl rfl rfl rfl (QOp.ok (fun X => OpOk.move rfl)) ?_
          refine Sd.quiet 7 _ _ rfl rfl rfl rfl rfl (QOp.ok (fun X => OpOk.move rfl)) ?_
          refine Sd.quiet 8 _ _ rfl rfl rfl rfl rfl (QOp.ok (fun X => OpOk.idx1N rfl ti3 rfl (Rd.right rdy8).left.left.left.left.left.left.left.left.left rfl (by omega))) ?_
          refine Sd.quiet 9 _ _ rfl rfl rfl rfl rfl (QOp.ok (fun X => OpOk.load rfl rfl rfl (Rd.getI (Rd.right rdy8).left.left.left.left.left.left.left.left.left (by omega)))) ?_
          refine Sd.quiet 10 _ _ rfl rfl rfl rfl rfl (QOp.ok (fun X => OpOk.asF (OpOk.lss rfl rfl) (by omega))) ?_
          refine Sd.quiet 11 _ _ rfl rfl rfl rfl rfl (QOp.ok (fun X => OpOk.neqB rfl rfl rfl)) ?_
          (apply Sd.tail; case hall => kernel_rfl)
          refine RunL.mem (fl2 (sep_emp _) (sep_emp _)) ?_
          refine RunL.nil ?_
          refine Run.condF rfl ?_
          refine Run.skip ?_
          refine Run.seq ?_
          refine Run.region ?_
          refine RunL.ok (OpOk.move rfl) rfl ?_
          refine RunL.ok (OpOk.asF (OpOk.eql rfl rfl) (by omega)) rfl ?_
          refine RunL.nil ?_
          refine Run.condF rfl ?_
          refine Run.skip ?_
          refine Run.seq ?_
          (apply Run.drawD [] (by rfl) (Eq.trans (frc (frl rfl) (frc (frl rfl) (frc (frl rfl) rfl))) (asg (asg rfl))); case hchk => kernel_rfl)
          refine Sd.quiet 0 _ _ rfl rfl rfl rfl rfl (QOp.ok (fun X => OpOk.move rfl)) ?_
          refine Sd.quiet 1 _ _ rfl rfl rfl rfl rfl (QOp.ok (fun X => OpOk.move rfl)) ?_
          refine Sd.quiet 4 _ _ rfl rfl rfl rfl rfl (QOp.ok (fun X => OpOk.move rfl)) ?_
          refine Sd.quiet 5 _ _ rfl rfl rfl rfl rfl (QOp.ok (fun X => OpOk.move rfl)) ?_
          refine Sd.quiet 6 _ _ rfl rfl rfl rfl rfl (QOp.ok (fun X => OpOk.idx1N rfl ti3 rfl (Rd.right rdy8).left.left.left.left.left.left rfl (by omega))) ?_
          refine Sd.quiet 7 _ _ rfl rfl rfl rfl rfl (QOp.ok (fun X => OpOk.load rfl rfl rfl (Rd.getI (Rd.right rdy8).left.left.left.left.left.left (by omega)))) ?_
          refine Sd.quiet 8 _ _ rfl rfl rfl rfl rfl (QOp.ok (fun X => OpOk.move rfl)) ?_
          refine Sd.quiet 9 _ _ rfl rfl rfl rfl rfl (QOp.ok (fun X => OpOk.move rfl)) ?_
          refine Sd.quiet 10 _ _ rfl rfl rfl rfl rfl (QOp.ok (fun X => OpOk.idx1N rfl ti3 rfl (Rd.right rdy9).left.left.left.left.left rfl (by omega))) ?_
          refine Sd.quiet 11 _ _ rfl rfl rfl rfl rfl (QOp.ok (fun X => OpOk.load rfl rfl rfl (Rd.getI (Rd.right rdy9).left.left.left.left.left (by omega)))) ?_
          refine Sd.quiet 12 _ _ rfl rfl rfl rfl rfl (QOp.ok (fun X => OpOk.sub rfl rfl (wrapI (by omega) (by omega)))) ?_
          (refine Sd.exec 2 rfl rfl rfl rfl rfl ?hrest (by rfl) (fun Xy12 Ky12 hKy12 => ?_); case hrest => kernel_rfl)
          refine RunL.mem (fl2 (sep_emp _) (flS (flS rfl))) ?_
          have hO3 : OrdI r (cQ y3) tk nx (i + 1) := by rw [y6]; exact hO.up
          have hW3 := hO3.wait ht4
          have hWb3 := rowO_bd t (nx.getD t 0) (tk.getD t 0)
          have hrb3 := hO3.rb
          have hle3 := hO3.le t ht4
          have hln3 := hO3.len ht4
          have hrw3 := hO3.rb t (by rw [hO3.l0]; exact ht4)
          refine RunL.call cal49 rfl (s49 (by assumption) (by assumption) (by assumption) (by assumption) (by assumption)) rfl (fun vv1 Av1 hv1 => ?_)
          obtain ⟨v2, ⟨v3, ⟨v4, rfl⟩⟩⟩ := hv1
          refine RunL.know (fun w s => (s.conv (frl rfl)).ownRd0) (fun rdv5 => ?_)
          refine Sd.ret hKy12 (Eq.trans (frc (frl (frl rfl)) (frc (frl (frl rfl)) (frc (frl (frl rfl)) rfl))) (gp2 (asg (asg rfl)) (asg (asg rfl)))) ⟨_, (emp_sep _).symm⟩ ?_
          refine Sd.quiet 3 _ _ rfl rfl rfl rfl rfl (QOp.ok (fun X => OpOk.lenR rfl rfl (Rd.right (Rd.right rdv5).left).left rfl)) ?_
          refine Sd.quiet 13 _ _ rfl rfl rfl rfl rfl (QOp.ok (fun X => OpOk.neq rfl rfl)) ?_
          refine Sd.quiet 14 _ _ rfl rfl rfl rfl rfl (QOp.ok (fun X => OpOk.move rfl)) ?_
          refine Sd.splitN (fun v6 => ?_) (fun v6 => ?_)
          · refine Sd.skip 15 _ rfl rfl rfl rfl rfl ?_
            refine Sd.skip 16 _ rfl rfl rfl rfl rfl ?_
            refine Sd.skip 17 _ rfl rfl rfl rfl rfl ?_
            refine Sd.skip 18 _ rfl rfl rfl rfl rfl ?_
            refine Sd.skip 19 _ rfl rfl rfl rfl rfl ?_
            refine Sd.skip 20 _ rfl rfl rfl rfl rfl ?_
            refine Sd.quiet 21 _ _ rfl rfl rfl rfl rfl (QOp.ok (fun X => OpOk.pickT rfl rfl)) ?_
            (apply Sd.tail; case hall => kernel_rfl)
            refine RunL.mem (fl2 (flS (flS rfl)) (flS (flS rfl))) ?_
            refine RunL.nil ?_
            refine Run.condT rfl ?_
            refine Run.seq ?_
            refine Run.region ?_
            refine RunL.ok (OpOk.assign rfl) rfl ?_
            refine RunL.nil ?_
            refine Run.ret1 Try.func10 rfl rfl ?_
            exact absurd (by have h5 := row_len3 v4 ⟨hle3.1, hle3.2.1, by omega⟩; omega) v6
          refine Sd.quiet 15 _ _ rfl rfl rfl rfl rfl (QOp.ok (fun X => OpOk.move rfl)) ?_
          refine Sd.quiet 16 _ _ rfl rfl rfl rfl rfl (QOp.ok (fun X => OpOk.move rfl)) ?_
          refine Sd.quiet 19 _ _ rfl rfl rfl rfl rfl (QOp.ok (fun X => OpOk.move rfl)) ?_
          (refine Sd.exec 17 rfl rfl rfl rfl rfl ?hrest (by rfl) (fun Xv7 Kv7 hKv7 => ?_); case hrest => kernel_rfl)
          refine RunL.mem (fl2 (flS (flS rfl)) (flS (flS rfl))) ?_
          refine RunL.know (fun w s => (s.conv (frl (frl (frl rfl)))).ownsM0) (fun alv8 => ?_)
          refine RunL.call cal49 rfl (s49 (by assumption) (by assumption) (by assumption) (by assumption) (by assumption)) rfl (fun vv9 Av9 hv9 => ?_)
          obtain ⟨v10, ⟨v11, ⟨v12, rfl⟩⟩⟩ := hv9
          refine RunL.know (fun w s => (s.conv (frl rfl)).ownRd0) (fun rdv13 => ?_)
          refine Sd.ret hKv7 (Eq.trans rfl (gp2 (sep_emp _).symm (asg (asg (asg (asg (asg (asg (asg (asg rfl)))))))))) ⟨_, (asg (asg (asg (asg (asg rfl)))))⟩ ?_
          refine Sd.quiet 18 _ _ rfl rfl rfl rfl rfl (QOp.ok (fun X => OpOk.lenR rfl rfl (Rd.right (Rd.right rdv13).left).left rfl)) ?_
          refine Sd.quiet 20 _ _ rfl rfl rfl rfl rfl (QOp.ok (fun X => OpOk.gtr rfl rfl)) ?_
          refine Sd.quiet 21 _ _ rfl rfl rfl rfl rfl (QOp.ok (fun X => OpOk.pickF rfl rfl)) ?_
          (apply Sd.tail; case hall => kernel_rfl)
          refine RunL.mem (fl2 (flS (flS (flS (flS (flS (flS (flS (flS rfl)))))))) (sep_emp _)) ?_
          refine RunL.nil ?_
          refine Run.condD rfl (fun v14 => ?_) (fun v14 => ?_)
          · refine Run.seq ?_
            refine Run.region ?_
            refine RunL.ok (OpOk.assign rfl) rfl ?_
            refine RunL.nil ?_
            refine Run.ret1 Try.func10 rfl rfl ?_
            have h5 := row_len3 v12 ⟨hle3.1, hle3.2.1, by omega⟩
            rw [hln3] at hrw3
            exact absurd v14 (by omega)
          refine Run.skip ?_
          refine Run.inBlock ?_
          refine Run.region ?_
          refine RunL.ok (OpOk.move rfl) rfl ?_
          refine RunL.ok (OpOk.addN _ 1 rfl rfl rfl rfl (by omega)) rfl ?_
          refine RunL.ok (OpOk.assign rfl) rfl ?_
          refine RunL.nil ?_
          refine Run.jump ((ih (i + 1, _, y3, ref, tk, nx) ⟨by dsimp only; omega, by dsimp only; omega, y5, hO3, by dsimp only; omega, by dsimp only; omega⟩ (by dsimp only; omega))) ⟨rfl, rfl, rfl, rfl, rfl, rfl, trivial⟩ (Grew.of (Eq.trans (frc (frl (frl (frl (frl (frl (frl (frl (frl (frl (frl (frl (frl rfl)))))))))))) (frc (frl (frl (frl (frl (frl (frl (frl (frl (frl (frl (frl (frl rfl)))))))))))) (frc (frl (frl rfl)) (frc (frl (frl rfl)) (frc (frl (frl rfl)) rfl))))) (congrArg (· * _) (congrArg (· * _) (congrArg (· * _) (congrArg (· * _) (congrArg (· * _) (asg (asg (asg (asg (asg (asg (asg (asg (asg as1))))))))))))))) (Grew.refl _))
    · clear ih
      refine Run.seq ?_
      refine Run.seq ?_
      refine Run.region ?_
      refine RunL.ok (OpOk.move rfl) rfl ?_
      refine RunL.ok (OpOk.move rfl) rfl ?_
      refine RunL.ok (OpOk.lenR rfl rfl rd.left.left.left.left.left.left rfl) rfl ?_
      refine RunL.ok (OpOk.asT (OpOk.lss rfl rfl) (by omega)) rfl ?_
      refine RunL.ok (OpOk.move rfl) rfl ?_
      refine RunL.on rfl rfl ?_
      refine RunL.ok (OpOk.move rfl) rfl ?_
      refine RunL.on rfl rfl ?_
      refine RunL.ok (OpOk.asF (OpOk.lss rfl rfl) (by omega)) rfl ?_
      refine RunL.ok (OpOk.pickT rfl rfl) rfl ?_
      refine RunL.nil ?_
      refine Run.condF rfl ?_
      refine Run.exit rfl ?_
      refine Run.seq ?_
      refine Run.region ?_
      refine RunL.ok (OpOk.assign rfl) rfl ?_
      refine RunL.nil ?_
      refine Run.ret1 Try.func10 rfl rfl ?_
      exact ⟨rfl, ⟨_, (asg (asg (asg (asg (asg as1)))))⟩⟩
  · clear ih
    refine Run.seq ?_
    refine Run.seq ?_
    refine Run.region ?_
    refine RunL.ok (OpOk.move rfl) rfl ?_
    refine RunL.ok (OpOk.move rfl) rfl ?_
    refine RunL.ok (OpOk.lenR rfl rfl rd.left.left.left.left.left.left rfl) rfl ?_
    refine RunL.ok (OpOk.asF (OpOk.lss rfl rfl) (by omega)) rfl ?_
    refine RunL.ok (OpOk.move rfl) rfl ?_
    refine RunL.off rfl rfl rfl rfl ?_
    refine RunL.off rfl rfl rfl rfl ?_
    refine RunL.ok (OpOk.pickF rfl rfl) rfl ?_
    refine RunL.nil ?_
    refine Run.condF rfl ?_
    refine Run.exit rfl ?_
    refine Run.seq ?_
    refine Run.region ?_
    refine RunL.ok (OpOk.assign rfl) rfl ?_
    refine RunL.nil ?_
    refine Run.ret1 Try.func10 rfl rfl ?_
    exact ⟨rfl, ⟨_, (asg (asg (asg (asg (asg as1)))))⟩⟩
end
end Go.Proofs.Ytegbfnibjgpbpaa
