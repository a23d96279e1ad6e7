/- The reference's router. -/
import Derived.Test.YtegbfnibjgpbpaaRtF
namespace Go.Proofs.Ytegbfnibjgpbpaa
open Go Go.Proofs
set_option maxRecDepth 100000
set_option maxHeartbeats 4000000
set_option linter.unusedSimpArgs false
/-- The messages for one receiver. -/
def wt (to : Int) (L : List Ms) : List Ms := L.filter (fun m => decide (m.2.2.1 = to))
theorem wt_next {to : Int} {L : List Ms} {i : Nat} (h : i < L.length) : wt to (L.take (i + 1)) = wt to (L.take i) ++ (if (L.getD i default).2.2.1 = to then [L.getD i default] else []) := by
  rw [take_next h, wt, List.filter_append, wt]
  congr 1
  rw [List.filter_cons, List.filter_nil]
  simp only [decide_eq_true_eq]
theorem wt_le (to : Int) (L : List Ms) : (wt to L).length ≤ L.length := List.length_filter_le _ _
theorem wt_le2 (to : Int) (L : List Ms) (i : Nat) : (wt to (L.take i)).length ≤ i := Nat.le_trans (wt_le _ _) (by rw [List.length_take]; omega)
def delM (i : Nat) (L : List Ms) : List Ms := L.take i ++ L.drop (i + 1)
theorem delM_next {k i : Nat} {L : List Ms} (h : k < L.length) : delM i (L.take (k + 1)) = delM i (L.take k) ++ (if k = i then [] else [L.getD k default]) := by
  have hl : (L.take k).length = k := by rw [List.length_take]; omega
  rw [take_next h, delM, delM]
  rcases Nat.lt_trichotomy k i with hk | hk | hk
  · have hl2 : (L.take k ++ [L.getD k default]).length = k + 1 := by rw [List.length_append, hl, List.length_singleton]
    rw [if_neg (by omega), List.take_of_length_le (show (L.take k ++ [L.getD k default]).length ≤ i by omega), List.drop_eq_nil_of_le (show (L.take k ++ [L.getD k default]).length ≤ i + 1 by omega), List.take_of_length_le (show (L.take k).length ≤ i by omega), List.drop_eq_nil_of_le (show (L.take k).length ≤ i + 1 by omega)]
    simp
  · subst hk
    rw [if_pos rfl, List.take_append_of_le_length (by omega), List.drop_eq_nil_of_le (by rw [List.length_append, hl]; simp), List.drop_eq_nil_of_le (by omega)]
    simp
  · rw [if_neg (by omega), List.take_append_of_le_length (by omega), List.drop_append_of_le_length (by omega), List.append_assoc]
theorem delM_le (i : Nat) (L : List Ms) : (delM i L).length ≤ L.length := by
  rw [delM, List.length_append, List.length_take, List.length_drop]; omega
section
variable {w0 : World} {A : Asn} {p : Nat} {lv : Value} {ops room ref : Int} {L : List Ms}
theorem s50 {to : Int} (hl : L.length ≤ 1048576) : Spec Try.prog w0 50 [.pointer (some ⟨p, 0, none⟩), .int .i64 to] (A * pts p (.cells #[.int .i64 (ops), .int .i64 (room), .int .i64 (ref), lv] 72 (0, 0)) * own 82 5 lv (L).length (Fl encT82 (L))) (fun v' A' => ∃ J, A' = A * J * pts p (.cells #[.int .i64 (ops), .int .i64 (room), .int .i64 (ref), lv] 72 (0, 0)) * own 82 5 lv (L).length (Fl encT82 (L)) * own 82 5 v' (wt to L).length (Fl encT82 (wt to L))) := by
  refine Spec.of_run [(0, .pointer (some ⟨p, 0, none⟩)), (1, .int .i64 to)] Try.func50 rfl (Nat.le_of_ble_eq_true rfl) (by repeat (first | exact trivial | refine ⟨rfl, ?_⟩)) ?_
  refine Run.seq ?_
  refine Run.region ?_
  refine RunL.ok (OpOk.assign rfl) rfl ?_
  refine RunL.nil ?_
  refine Run.seq ?_
  refine Run.region ?_
  refine RunL.ok (OpOk.assign rfl) rfl ?_
  refine RunL.nil ?_
  refine Run.seq ?_
  refine Run.seq ?_
  refine Run.region ?_
  refine RunL.ok (OpOk.assign rfl) rfl ?_
  refine RunL.nil ?_
  refine Run.block ?_
  refine Run.ent (Ent.ownNil' _ 82 5 (Fl encT82 ([] : List Ms)) rfl) ?_
  refine Run.jump ((Run.loopJ (X := Nat × Asn × Value × List Ms) (fun x => [(6, .int .i64 (x.1 : Int)), (5, x.2.2.1), (0, .pointer (some ⟨p, 0, none⟩)), (1, .int .i64 to)]) (fun x => A * x.2.1 * pts p (.cells #[.int .i64 (ops), .int .i64 (room), .int .i64 (ref), lv] 72 (0, 0)) * own 82 5 lv (L).length (Fl encT82 (L)) * own 82 5 x.2.2.1 x.2.2.2.length (Fl encT82 x.2.2.2)) (fun x => x.1 ≤ L.length ∧ x.2.2.2 = wt to (L.take x.1)) (fun x => L.length - x.1) (0, _, .slice none 0 0, []) ⟨Nat.zero_le _, rfl⟩ (fun x hx ih => ?_))) ⟨rfl, rfl, rfl, rfl, trivial⟩ (Grew.of (Eq.trans (frc rfl rfl) (congrArg (· * _) (congrArg (· * _) (congrArg (· * _) as0)))) (Grew.refl _))
  obtain ⟨i, J, v, W⟩ := x
  simp only at hx ih ⊢
  obtain ⟨hi, hW⟩ := hx
  have hwl := wt_le2 to L i
  rw [← hW] at hwl
  rcases Nat.lt_or_ge i L.length with hlt | hge
  · have hnx := wt_next (to := to) hlt
    rw [← hW] at hnx
    obtain ⟨o, hoe⟩ : ∃ o, L.getD i default = o := ⟨_, rfl⟩
    rw [hoe] at hnx
    obtain ⟨mk, mf, mt, msv, mo, mb⟩ := o
    dsimp only at hnx
    have hone : ∀ w ∈ (Value.agg (encT82 (mk, mf, mt, msv, mo, mb)).toArray).cells.toList, w.oneCell' = true := fun w hw => OneC.one (enc := encT82) (mk, mf, mt, msv, mo, mb) w hw
    rcases Decidable.em (mt = to) with hk | hk
    · rw [if_pos hk] at hnx
      refine Run.seq ?_
      refine Run.seq ?_
      refine Run.region ?_
      refine RunL.ok (OpOk.move rfl) rfl ?_
      refine RunL.ok (OpOk.move rfl) rfl ?_
      refine RunL.ok (OpOk.nilOk rfl) rfl ?_
      refine RunL.ok (OpOk.fieldAddr fld72_3 rfl) rfl ?_
      refine RunL.ok (OpOk.load rfl rfl rfl (Blk.out Blk.pts.left.left _ _ (by first | rfl | assumption))) rfl ?_
      refine RunL.know (fun w s => (s.conv (frl rfl)).ownRd0) (fun rdy1 => ?_)
      refine RunL.ok (OpOk.lenR rfl rfl (Rd.right rdy1).left rfl) rfl ?_
      refine RunL.ok (OpOk.asT (OpOk.lss rfl rfl) (by omega)) rfl ?_
      refine RunL.nil ?_
      refine Run.condT rfl ?_
      refine Run.skip ?_
      refine Run.seq ?_
      refine Run.block ?_
      refine Run.seq ?_
      refine Run.region ?_
      refine RunL.ok (OpOk.move rfl) rfl ?_
      refine RunL.ok (OpOk.nilOk rfl) rfl ?_
      refine RunL.ok (OpOk.fieldAddr fld72_3 rfl) rfl ?_
      refine RunL.ok (OpOk.load rfl rfl rfl (Blk.out Blk.pts.left.left _ _ (by first | rfl | assumption))) rfl ?_
      refine RunL.ok (OpOk.move rfl) rfl ?_
      refine RunL.ok (OpOk.idxN rfl ti82 rfl (Rd.right rdy1).left rfl (by omega)) rfl ?_
      refine RunL.ok (OpOk.fieldAddrA fld82_2 rfl) rfl ?_
      refine RunL.ok (OpOk.loadFl1E hoe rfl rfl rfl (Rd.right rdy1).left (fun _ => rfl) rfl (by omega) rfl) rfl ?_
      refine RunL.ok (OpOk.move rfl) rfl ?_
      refine RunL.ok (OpOk.asT (OpOk.eql rfl rfl) (by omega)) rfl ?_
      refine RunL.nil ?_
      refine Run.condT rfl ?_
      refine Run.region ?_
      refine RunL.ok (OpOk.move rfl) rfl ?_
      refine RunL.ok (OpOk.move rfl) rfl ?_
      refine RunL.ok (OpOk.nilOk rfl) rfl ?_
      refine RunL.ok (OpOk.fieldAddr fld72_3 rfl) rfl ?_
      refine RunL.ok (OpOk.load rfl rfl rfl (Blk.out Blk.pts.left.left _ _ (by first | rfl | assumption))) rfl ?_
      refine RunL.ok (OpOk.move rfl) rfl ?_
      refine RunL.ok (OpOk.idxN rfl ti82 rfl (Rd.right rdy1).left rfl (by omega)) rfl ?_
      refine RunL.ok (OpOk.loadFlE (by assumption) rfl rfl ti82 rfl (Rd.right rdy1).left (fun _ => rfl) rfl (by omega)) rfl ?_
      refine RunL.litFl (enc := encT82) [(mk, mf, mt, msv, mo, mb)] rfl ti82 rfl (fun _ => rfl) rfl rfl (by decide) (by decide) rfl (fun vy2 rdy2 => ?_)
      refine RunL.know (fun w s => (s.conv rfl).ownRd0) (fun rdy4 => ?_)
      refine RunL.appendF rfl ti82 rfl rfl rfl (frl rfl) (Rd.right rdy4) rfl (by decide) (by omega) (by simp only [maxLen]; omega) rfl (fun vy3 rdy3 => ?_)
      refine RunL.ok (OpOk.assign rfl) rfl ?_
      refine RunL.nil ?_
      refine Run.inBlock ?_
      refine Run.region ?_
      refine RunL.ok (OpOk.move rfl) rfl ?_
      refine RunL.ok (OpOk.addN _ 1 rfl rfl rfl rfl (by omega)) rfl ?_
      refine RunL.ok (OpOk.assign rfl) rfl ?_
      refine RunL.nil ?_
      rw [show W.length + 1 = (W ++ [(mk, mf, mt, msv, mo, mb)]).length by simp]
      refine Run.jump ((ih (i + 1, _, _, _) ⟨by dsimp only; omega, hnx.symm⟩ (by dsimp only; omega))) ⟨rfl, rfl, rfl, rfl, trivial⟩ (Grew.of (Eq.trans (frc rfl (frc (frl rfl) (frc (frl rfl) rfl))) (congrArg (· * _) (congrArg (· * _) (congrArg (· * _) (asg as1))))) (Grew.refl _))
    · rw [if_neg hk, List.append_nil] at hnx
      refine Run.seq ?_
      refine Run.seq ?_
      refine Run.region ?_
      refine RunL.ok (OpOk.move rfl) rfl ?_
      refine RunL.ok (OpOk.move rfl) rfl ?_
      refine RunL.ok (OpOk.nilOk rfl) rfl ?_
      refine RunL.ok (OpOk.fieldAddr fld72_3 rfl) rfl ?_
      refine RunL.ok (OpOk.load rfl rfl rfl (Blk.out Blk.pts.left.left _ _ (by first | rfl | assumption))) rfl ?_
      refine RunL.know (fun w s => (s.conv (frl rfl)).ownRd0) (fun rdy1 => ?_)
      refine RunL.ok (OpOk.lenR rfl rfl (Rd.right rdy1).left rfl) rfl ?_
      refine RunL.ok (OpOk.asT (OpOk.lss rfl rfl) (by omega)) rfl ?_
      refine RunL.nil ?_
      refine Run.condT rfl ?_
      refine Run.skip ?_
      refine Run.seq ?_
      refine Run.block ?_
      refine Run.seq ?_
      refine Run.region ?_
      refine RunL.ok (OpOk.move rfl) rfl ?_
      refine RunL.ok (OpOk.nilOk rfl) rfl ?_
      refine RunL.ok (OpOk.fieldAddr fld72_3 rfl) rfl ?_
      refine RunL.ok (OpOk.load rfl rfl rfl (Blk.out Blk.pts.left.left _ _ (by first | rfl | assumption))) rfl ?_
      refine RunL.ok (OpOk.move rfl) rfl ?_
      refine RunL.ok (OpOk.idxN rfl ti82 rfl (Rd.right rdy1).left rfl (by omega)) rfl ?_
      refine RunL.ok (OpOk.fieldAddrA fld82_2 rfl) rfl ?_
      refine RunL.ok (OpOk.loadFl1E hoe rfl rfl rfl (Rd.right rdy1).left (fun _ => rfl) rfl (by omega) rfl) rfl ?_
      refine RunL.ok (OpOk.move rfl) rfl ?_
      refine RunL.ok (OpOk.asF (OpOk.eql rfl rfl) (by omega)) rfl ?_
      refine RunL.nil ?_
      refine Run.condF rfl ?_
      refine Run.skip ?_
      refine Run.inBlock ?_
      refine Run.region ?_
      refine RunL.ok (OpOk.move rfl) rfl ?_
      refine RunL.ok (OpOk.addN _ 1 rfl rfl rfl rfl (by omega)) rfl ?_
      refine RunL.ok (OpOk.assign rfl) rfl ?_
      refine RunL.nil ?_
      refine Run.jump ((ih (i + 1, _, _, _) ⟨by dsimp only; omega, hnx.symm⟩ (by dsimp only; omega))) ⟨rfl, rfl, rfl, rfl, trivial⟩ (Grew.of (congrArg (· * _) (congrArg (· * _) (congrArg (· * _) as1))) (Grew.refl _))
  · obtain rfl : i = L.length := by omega
    clear ih
    rw [List.take_length] at hW
    subst hW
    refine Run.seq ?_
    refine Run.seq ?_
    refine Run.region ?_
    refine RunL.ok (OpOk.move rfl) rfl ?_
    refine RunL.ok (OpOk.move rfl) rfl ?_
    refine RunL.ok (OpOk.nilOk rfl) rfl ?_
    refine RunL.ok (OpOk.fieldAddr fld72_3 rfl) rfl ?_
    refine RunL.ok (OpOk.load rfl rfl rfl (Blk.out Blk.pts.left.left _ _ (by first | rfl | assumption))) rfl ?_
    refine RunL.know (fun w s => (s.conv (frl rfl)).ownRd0) (fun rdy1 => ?_)
    refine RunL.ok (OpOk.lenR rfl rfl (Rd.right rdy1).left rfl) rfl ?_
    refine RunL.ok (OpOk.asF (OpOk.lss rfl rfl) (by omega)) rfl ?_
    refine RunL.nil ?_
    refine Run.condF rfl ?_
    refine Run.exit rfl ?_
    refine Run.seq ?_
    refine Run.region ?_
    refine RunL.ok (OpOk.move rfl) rfl ?_
    refine RunL.ok (OpOk.assign rfl) rfl ?_
    refine RunL.nil ?_
    refine Run.ret1 Try.func50 rfl rfl ?_
    exact ⟨_, (congrArg (· * _) (congrArg (· * _) (congrArg (· * _) as1)))⟩
theorem s44a {k f t o : Int} {sv : SV} {b : List UInt8} (hl : L.length ≤ 1048575) (h0 : 0 ≤ t) (h1 : t ≤ ops) (h2 : ((wt t L).length : Int) < room) : Spec Try.prog w0 44 [.pointer (some ⟨p, 0, none⟩), .agg (encT82 (k, f, t, sv, o, b)).toArray] (A * pts p (.cells #[.int .i64 (ops), .int .i64 (room), .int .i64 (ref), lv] 72 (0, 0)) * own 82 5 lv (L).length (Fl encT82 (L))) (fun v' A' => ∃ lv2 J, v' = .bool true ∧ A' = A * J * pts p (.cells #[.int .i64 (ops), .int .i64 (room), .int .i64 (ref), lv2] 72 (0, 0)) * own 82 5 lv2 ((L ++ [(k, f, t, sv, o, b)])).length (Fl encT82 ((L ++ [(k, f, t, sv, o, b)])))) := by
  have hone : ∀ w ∈ (Value.agg (encT82 (k, f, t, sv, o, b)).toArray).cells.toList, w.oneCell' = true := fun w hw => OneC.one (enc := encT82) (k, f, t, sv, o, b) w hw
  have hwl := wt_le t L
  have hap : (L ++ [(k, f, t, sv, o, b)]).length = L.length + 1 := by simp
  refine Spec.of_run [(0, .pointer (some ⟨p, 0, none⟩)), (1, .agg (encT82 (k, f, t, sv, o, b)).toArray)] Try.func44 rfl (Nat.le_of_ble_eq_true rfl) (by repeat (first | exact trivial | refine ⟨rfl, ?_⟩)) ?_
  refine Run.seq ?_
  refine Run.region ?_
  refine RunL.box rfl rfl (fun bx1 => ?_)
  refine RunL.ok (OpOk.assign rfl) rfl ?_
  refine RunL.nil ?_
  refine Run.seq ?_
  refine Run.region ?_
  refine RunL.ok (OpOk.move rfl) rfl ?_
  refine RunL.ok (OpOk.fieldAddr fld82_2 rfl) rfl ?_
  refine RunL.ok (OpOk.load rfl rfl rfl (Blk.out Blk.pts _ _ (by first | rfl | assumption))) rfl ?_
  refine RunL.mem (frc (frl rfl) (frc (frl rfl) rfl)) ?_
  refine RunL.call cal50 rfl (s50 (by omega)) rfl (fun vx2 Ax2 hx2 => ?_)
  obtain ⟨x3, rfl⟩ := hx2
  refine RunL.ok (OpOk.assign rfl) rfl ?_
  refine RunL.nil ?_
  refine Run.seq ?_
  refine Run.seq ?_
  refine Run.know (fun w s => (s.conv (frl rfl)).ownRd0) (fun rdx4 => ?_)
  refine Run.know (fun w s => (s.conv rfl).ownRd0) (fun rdx5 => ?_)
  (apply Run.drawD [] (by rfl) (sep_emp _).symm; case hchk => kernel_rfl)
  refine Sd.quiet 0 _ _ rfl rfl rfl rfl rfl (QOp.ok (fun X => OpOk.fieldAddr fld82_2 rfl)) ?_
  refine Sd.quiet 1 _ _ rfl rfl rfl rfl rfl (QOp.ok (fun X => OpOk.load rfl rfl rfl (Blk.out Blk.pts.left.left.left.left.left.left _ _ (by first | rfl | assumption)))) ?_
  refine Sd.quiet 2 _ _ rfl rfl rfl rfl rfl (QOp.ok (fun X => OpOk.asF (OpOk.lss rfl rfl) (by omega))) ?_
  refine Sd.quiet 3 _ _ rfl rfl rfl rfl rfl (QOp.ok (fun X => OpOk.move rfl)) ?_
  refine Sd.quiet 4 _ _ rfl rfl rfl rfl rfl (QOp.ok (fun X => OpOk.fieldAddr fld82_2 rfl)) ?_
  refine Sd.quiet 5 _ _ rfl rfl rfl rfl rfl (QOp.ok (fun X => OpOk.load rfl rfl rfl (Blk.out Blk.pts.left.left.left.left.left.left _ _ (by first | rfl | assumption)))) ?_
  refine Sd.quiet 6 _ _ rfl rfl rfl rfl rfl (QOp.ok (fun X => OpOk.move rfl)) ?_
  refine Sd.quiet 7 _ _ rfl rfl rfl rfl rfl (QOp.ok (fun X => OpOk.nilOk rfl)) ?_
  refine Sd.quiet 8 _ _ rfl rfl rfl rfl rfl (QOp.ok (fun X => OpOk.fieldAddr fld72_0 rfl)) ?_
  refine Sd.quiet 9 _ _ rfl rfl rfl rfl rfl (QOp.ok (fun X => OpOk.load rfl rfl rfl (Blk.out Blk.pts.left.left.left.left _ _ (by first | rfl | assumption)))) ?_
  refine Sd.quiet 10 _ _ rfl rfl rfl rfl rfl (QOp.ok (fun X => OpOk.asF (OpOk.gtr rfl rfl) (by omega))) ?_
  refine Sd.quiet 11 _ _ rfl rfl rfl rfl rfl (QOp.ok (fun X => OpOk.pickF rfl rfl)) ?_
  refine Sd.quiet 12 _ _ rfl rfl rfl rfl rfl (QOp.ok (fun X => OpOk.move rfl)) ?_
  refine Sd.quiet 13 _ _ rfl rfl rfl rfl rfl (QOp.ok (fun X => OpOk.move rfl)) ?_
  refine Sd.quiet 14 _ _ rfl rfl rfl rfl rfl (QOp.ok (fun X => OpOk.lenR rfl rfl (Rd.right rdx5).left.left rfl)) ?_
  refine Sd.quiet 15 _ _ rfl rfl rfl rfl rfl (QOp.ok (fun X => OpOk.move rfl)) ?_
  refine Sd.quiet 16 _ _ rfl rfl rfl rfl rfl (QOp.ok (fun X => OpOk.nilOk rfl)) ?_
  refine Sd.quiet 17 _ _ rfl rfl rfl rfl rfl (QOp.ok (fun X => OpOk.fieldAddr fld72_1 rfl)) ?_
  refine Sd.quiet 18 _ _ rfl rfl rfl rfl rfl (QOp.ok (fun X => OpOk.load rfl rfl rfl (Blk.out Blk.pts.left.left.left.left _ _ (by first | rfl | assumption)))) ?_
  refine Sd.quiet 19 _ _ rfl rfl rfl rfl rfl (QOp.ok (fun X => OpOk.asF (OpOk.geq rfl rfl) (by omega))) ?_
  refine Sd.quiet 20 _ _ rfl rfl rfl rfl rfl (QOp.ok (fun X => OpOk.pickF rfl rfl)) ?_
  (apply Sd.tail; case hall => kernel_rfl)
  refine RunL.mem (fl2 (sep_emp _) (sep_emp _)) ?_
  refine RunL.nil ?_
  refine Run.condF rfl ?_
  refine Run.skip ?_
  refine Run.seq ?_
  (apply Run.drawD [10] (by rfl) (Eq.trans (frc (frl rfl) rfl) rfl); case hchk => kernel_rfl)
  refine Sd.quiet 0 _ _ rfl rfl rfl rfl rfl (QOp.ok (fun X => OpOk.move rfl)) ?_
  refine Sd.quiet 1 _ _ rfl rfl rfl rfl rfl (QOp.ok (fun X => OpOk.move rfl)) ?_
  refine Sd.quiet 2 _ _ rfl rfl rfl rfl rfl (QOp.ok (fun X => OpOk.nilOk rfl)) ?_
  refine Sd.quiet 3 _ _ rfl rfl rfl rfl rfl (QOp.ok (fun X => OpOk.fieldAddr fld72_3 rfl)) ?_
  refine Sd.quiet 4 _ _ rfl rfl rfl rfl rfl (QOp.ok (fun X => OpOk.load rfl rfl rfl (Blk.out Blk.pts.left.left.left _ _ (by first | rfl | assumption)))) ?_
  refine Sd.quiet 5 _ _ rfl rfl rfl rfl rfl (QOp.ok (fun X => OpOk.loadS rfl rfl ti82 rfl Blk.pts.left.left.left.left.left rfl)) ?_
  refine Sd.quiet 8 _ _ rfl rfl rfl rfl rfl (QOp.ok (fun X => OpOk.nilOk rfl)) ?_
  refine Sd.quiet 9 _ _ rfl rfl rfl rfl rfl (QOp.ok (fun X => OpOk.fieldAddr fld72_3 rfl)) ?_
  (refine Sd.exec 6 rfl rfl rfl rfl rfl ?hrest (by rfl) (fun Xx6 Kx6 hKx6 => ?_); case hrest => kernel_rfl)
  refine RunL.mem (fl2 (sep_emp _) rfl) ?_
  refine RunL.litFl (enc := encT82) [(k, f, t, sv, o, b)] rfl ti82 rfl (fun _ => rfl) rfl rfl (by decide) (by decide) rfl (fun vx7 rdx7 => ?_)
  refine RunL.know (fun w s => (s.conv rfl).ownRd0) (fun rdx8 => ?_)
  refine Sd.ret hKx6 (Eq.trans (frc (frl rfl) rfl) (gp2 rfl rfl)) ⟨_, (emp_sep _).symm⟩ ?_
  (refine Sd.exec 7 rfl rfl rfl rfl rfl ?hrest (by rfl) (fun Xx9 Kx9 hKx9 => ?_); case hrest => kernel_rfl)
  refine RunL.mem (fl2 rfl rfl) ?_
  refine RunL.appendF rfl ti82 rfl rfl rfl rfl (Rd.right rdx8).left rfl (by decide) (by omega) (by simp only [maxLen]; omega) rfl (fun vx10 rdx10 => ?_)
  refine RunL.know (fun w s => (s.conv rfl).ownRd0) (fun rdx11 => ?_)
  refine Sd.ret hKx9 (Eq.trans rfl (gp2 (sep_emp _).symm (asg rfl))) ⟨_, rfl⟩ ?_
  (apply Sd.tail; case hall => kernel_rfl)
  refine RunL.mem (fl2 (flS rfl) (sep_emp _)) ?_
  refine RunL.store ti70 rfl rfl (Rd.one rdx11) (frl (frl (frl rfl))) (by exact Nat.le_of_ble_eq_true rfl) (.inl rfl) ?_
  refine RunL.nil ?_
  refine Run.seq ?_
  refine Run.region ?_
  refine RunL.ok (OpOk.assign rfl) rfl ?_
  refine RunL.nil ?_
  refine Run.ret1 Try.func44 rfl rfl ?_
  rw [← hap]
  exact ⟨_, _, rfl, (Eq.trans (frc (frl rfl) (frc rfl rfl)) (congrArg (· * _) (congrArg (· * _) (asg (asg (asg as1))))))⟩
theorem s44b {k f t o : Int} {sv : SV} {b : List UInt8} (hl : L.length ≤ 1048575) (hr1 : 0 ≤ ref) (hr2 : ref ≤ 1152921504606846976) (h : t < 0 ∨ ops < t ∨ room ≤ ((wt t L).length : Int)) : Spec Try.prog w0 44 [.pointer (some ⟨p, 0, none⟩), .agg (encT82 (k, f, t, sv, o, b)).toArray] (A * pts p (.cells #[.int .i64 (ops), .int .i64 (room), .int .i64 (ref), lv] 72 (0, 0)) * own 82 5 lv (L).length (Fl encT82 (L))) (fun v' A' => ∃ J, v' = .bool false ∧ A' = A * J * pts p (.cells #[.int .i64 (ops), .int .i64 (room), .int .i64 ((ref + 1)), lv] 72 (0, 0)) * own 82 5 lv (L).length (Fl encT82 (L))) := by
  have hone : ∀ w ∈ (Value.agg (encT82 (k, f, t, sv, o, b)).toArray).cells.toList, w.oneCell' = true := fun w hw => OneC.one (enc := encT82) (k, f, t, sv, o, b) w hw
  have hwl := wt_le t L
  refine Spec.of_run [(0, .pointer (some ⟨p, 0, none⟩)), (1, .agg (encT82 (k, f, t, sv, o, b)).toArray)] Try.func44 rfl (Nat.le_of_ble_eq_true rfl) (by repeat (first | exact trivial | refine ⟨rfl, ?_⟩)) ?_
  refine Run.seq ?_
  refine Run.region ?_
  refine RunL.box rfl rfl (fun bx1 => ?_)
  refine RunL.ok (OpOk.assign rfl) rfl ?_
  refine RunL.nil ?_
  refine Run.seq ?_
  refine Run.region ?_
  refine RunL.ok (OpOk.move rfl) rfl ?_
  refine RunL.ok (OpOk.fieldAddr fld82_2 rfl) rfl ?_
  refine RunL.ok (OpOk.load rfl rfl rfl (Blk.out Blk.pts _ _ (by first | rfl | assumption))) rfl ?_
  refine RunL.mem (frc (frl rfl) (frc (frl rfl) rfl)) ?_
  refine RunL.call cal50 rfl (s50 (by omega)) rfl (fun vx2 Ax2 hx2 => ?_)
  obtain ⟨x3, rfl⟩ := hx2
  refine RunL.ok (OpOk.assign rfl) rfl ?_
  refine RunL.nil ?_
  refine Run.seq ?_
  refine Run.seq ?_
  refine Run.know (fun w s => (s.conv (frl rfl)).ownRd0) (fun rdx4 => ?_)
  refine Run.know (fun w s => (s.conv rfl).ownRd0) (fun rdx5 => ?_)
  (apply Run.drawD [] (by rfl) (sep_emp _).symm; case hchk => kernel_rfl)
  refine Sd.quiet 0 _ _ rfl rfl rfl rfl rfl (QOp.ok (fun X => OpOk.fieldAddr fld82_2 rfl)) ?_
  refine Sd.quiet 1 _ _ rfl rfl rfl rfl rfl (QOp.ok (fun X => OpOk.load rfl rfl rfl (Blk.out Blk.pts.left.left.left.left.left.left _ _ (by first | rfl | assumption)))) ?_
  refine Sd.quiet 2 _ _ rfl rfl rfl rfl rfl (QOp.ok (fun X => OpOk.lss rfl rfl)) ?_
  refine Sd.quiet 3 _ _ rfl rfl rfl rfl rfl (QOp.ok (fun X => OpOk.move rfl)) ?_
  refine Sd.splitD (fun x6 => ?_) (fun x6 => ?_)
  · refine Sd.skip 4 _ rfl rfl rfl rfl rfl ?_
    refine Sd.skip 5 _ rfl rfl rfl rfl rfl ?_
    refine Sd.skip 6 _ rfl rfl rfl rfl rfl ?_
    refine Sd.skip 7 _ rfl rfl rfl rfl rfl ?_
    refine Sd.skip 8 _ rfl rfl rfl rfl rfl ?_
    refine Sd.skip 9 _ rfl rfl rfl rfl rfl ?_
    refine Sd.skip 10 _ rfl rfl rfl rfl rfl ?_
    refine Sd.quiet 11 _ _ rfl rfl rfl rfl rfl (QOp.ok (fun X => OpOk.pickT rfl rfl)) ?_
    refine Sd.quiet 12 _ _ rfl rfl rfl rfl rfl (QOp.ok (fun X => OpOk.move rfl)) ?_
    refine Sd.skip 13 _ rfl rfl rfl rfl rfl ?_
    refine Sd.skip 14 _ rfl rfl rfl rfl rfl ?_
    refine Sd.skip 15 _ rfl rfl rfl rfl rfl ?_
    refine Sd.skip 16 _ rfl rfl rfl rfl rfl ?_
    refine Sd.skip 17 _ rfl rfl rfl rfl rfl ?_
    refine Sd.skip 18 _ rfl rfl rfl rfl rfl ?_
    refine Sd.skip 19 _ rfl rfl rfl rfl rfl ?_
    refine Sd.quiet 20 _ _ rfl rfl rfl rfl rfl (QOp.ok (fun X => OpOk.pickT rfl rfl)) ?_
    (apply Sd.tail; case hall => kernel_rfl)
    refine RunL.mem (fl2 (sep_emp _) (sep_emp _)) ?_
    refine RunL.nil ?_
    refine Run.condT rfl ?_
    refine Run.seq ?_
    refine Run.region ?_
    refine RunL.ok (OpOk.move rfl) rfl ?_
    refine RunL.ok (OpOk.move rfl) rfl ?_
    refine RunL.ok (OpOk.nilOk rfl) rfl ?_
    refine RunL.ok (OpOk.fieldAddr fld72_2 rfl) rfl ?_
    refine RunL.ok (OpOk.load rfl rfl rfl (Blk.out Blk.pts.left.left _ _ (by first | rfl | assumption))) rfl ?_
    refine RunL.ok (OpOk.add rfl rfl (wrapI (by omega) (by omega))) rfl ?_
    refine RunL.ok (OpOk.nilOk rfl) rfl ?_
    refine RunL.ok (OpOk.fieldAddr fld72_2 rfl) rfl ?_
    refine RunL.store ti3 rfl rfl rfl (frl (frl rfl)) (by exact Nat.le_of_ble_eq_true rfl) (.inl rfl) ?_
    refine RunL.nil ?_
    refine Run.seq ?_
    refine Run.region ?_
    refine RunL.ok (OpOk.assign rfl) rfl ?_
    refine RunL.nil ?_
    refine Run.ret1 Try.func44 rfl rfl ?_
    exact ⟨_, rfl, (Eq.trans (frc (frl (frl rfl)) (frc rfl rfl)) (congrArg (· * _) (congrArg (· * _) (asg (asg as1)))))⟩
  refine Sd.quiet 4 _ _ rfl rfl rfl rfl rfl (QOp.ok (fun X => OpOk.fieldAddr fld82_2 rfl)) ?_
  refine Sd.quiet 5 _ _ rfl rfl rfl rfl rfl (QOp.ok (fun X => OpOk.load rfl rfl rfl (Blk.out Blk.pts.left.left.left.left.left.left _ _ (by first | rfl | assumption)))) ?_
  refine Sd.quiet 6 _ _ rfl rfl rfl rfl rfl (QOp.ok (fun X => OpOk.move rfl)) ?_
  refine Sd.quiet 7 _ _ rfl rfl rfl rfl rfl (QOp.ok (fun X => OpOk.nilOk rfl)) ?_
  refine Sd.quiet 8 _ _ rfl rfl rfl rfl rfl (QOp.ok (fun X => OpOk.fieldAddr fld72_0 rfl)) ?_
  refine Sd.quiet 9 _ _ rfl rfl rfl rfl rfl (QOp.ok (fun X => OpOk.load rfl rfl rfl (Blk.out Blk.pts.left.left.left.left _ _ (by first | rfl | assumption)))) ?_
  refine Sd.quiet 10 _ _ rfl rfl rfl rfl rfl (QOp.ok (fun X => OpOk.gtr rfl rfl)) ?_
  refine Sd.quiet 11 _ _ rfl rfl rfl rfl rfl (QOp.ok (fun X => OpOk.pickF rfl rfl)) ?_
  refine Sd.quiet 12 _ _ rfl rfl rfl rfl rfl (QOp.ok (fun X => OpOk.move rfl)) ?_
  refine Sd.splitD (fun x7 => ?_) (fun x7 => ?_)
  · refine Sd.skip 13 _ rfl rfl rfl rfl rfl ?_
    refine Sd.skip 14 _ rfl rfl rfl rfl rfl ?_
    refine Sd.skip 15 _ rfl rfl rfl rfl rfl ?_
    refine Sd.skip 16 _ rfl rfl rfl rfl rfl ?_
    refine Sd.skip 17 _ rfl rfl rfl rfl rfl ?_
    refine Sd.skip 18 _ rfl rfl rfl rfl rfl ?_
    refine Sd.skip 19 _ rfl rfl rfl rfl rfl ?_
    refine Sd.quiet 20 _ _ rfl rfl rfl rfl rfl (QOp.ok (fun X => OpOk.pickT rfl rfl)) ?_
    (apply Sd.tail; case hall => kernel_rfl)
    refine RunL.mem (fl2 (sep_emp _) (sep_emp _)) ?_
    refine RunL.nil ?_
    refine Run.condT rfl ?_
    refine Run.seq ?_
    refine Run.region ?_
    refine RunL.ok (OpOk.move rfl) rfl ?_
    refine RunL.ok (OpOk.move rfl) rfl ?_
    refine RunL.ok (OpOk.nilOk rfl) rfl ?_
    refine RunL.ok (OpOk.fieldAddr fld72_2 rfl) rfl ?_
    refine RunL.ok (OpOk.load rfl rfl rfl (Blk.out Blk.pts.left.left _ _ (by first | rfl | assumption))) rfl ?_
    refine RunL.ok (OpOk.add rfl rfl (wrapI (by omega) (by omega))) rfl ?_
    refine RunL.ok (OpOk.nilOk rfl) rfl ?_
    refine RunL.ok (OpOk.fieldAddr fld72_2 rfl) rfl ?_
    refine RunL.store ti3 rfl rfl rfl (frl (frl rfl)) (by exact Nat.le_of_ble_eq_true rfl) (.inl rfl) ?_
    refine RunL.nil ?_
    refine Run.seq ?_
    refine Run.region ?_
    refine RunL.ok (OpOk.assign rfl) rfl ?_
    refine RunL.nil ?_
    refine Run.ret1 Try.func44 rfl rfl ?_
    exact ⟨_, rfl, (Eq.trans (frc (frl (frl rfl)) (frc rfl rfl)) (congrArg (· * _) (congrArg (· * _) (asg (asg as1)))))⟩
  refine Sd.quiet 13 _ _ rfl rfl rfl rfl rfl (QOp.ok (fun X => OpOk.move rfl)) ?_
  refine Sd.quiet 14 _ _ rfl rfl rfl rfl rfl (QOp.ok (fun X => OpOk.lenR rfl rfl (Rd.right rdx5).left.left rfl)) ?_
  refine Sd.quiet 15 _ _ rfl rfl rfl rfl rfl (QOp.ok (fun X => OpOk.move rfl)) ?_
  refine Sd.quiet 16 _ _ rfl rfl rfl rfl rfl (QOp.ok (fun X => OpOk.nilOk rfl)) ?_
  refine Sd.quiet 17 _ _ rfl rfl rfl rfl rfl (QOp.ok (fun X => OpOk.fieldAddr fld72_1 rfl)) ?_
  refine Sd.quiet 18 _ _ rfl rfl rfl rfl rfl (QOp.ok (fun X => OpOk.load rfl rfl rfl (Blk.out Blk.pts.left.left.left.left _ _ (by first | rfl | assumption)))) ?_
  refine Sd.quiet 19 _ _ rfl rfl rfl rfl rfl (QOp.ok (fun X => OpOk.asT (OpOk.geq rfl rfl) (by omega))) ?_
  refine Sd.quiet 20 _ _ rfl rfl rfl rfl rfl (QOp.ok (fun X => OpOk.pickF rfl rfl)) ?_
  (apply Sd.tail; case hall => kernel_rfl)
  refine RunL.mem (fl2 (sep_emp _) (sep_emp _)) ?_
  refine RunL.nil ?_
  refine Run.condT rfl ?_
  refine Run.seq ?_
  refine Run.region ?_
  refine RunL.ok (OpOk.move rfl) rfl ?_
  refine RunL.ok (OpOk.move rfl) rfl ?_
  refine RunL.ok (OpOk.nilOk rfl) rfl ?_
  refine RunL.ok (OpOk.fieldAddr fld72_2 rfl) rfl ?_
  refine RunL.ok (OpOk.load rfl rfl rfl (Blk.out Blk.pts.left.left _ _ (by first | rfl | assumption))) rfl ?_
  refine RunL.ok (OpOk.add rfl rfl (wrapI (by omega) (by omega))) rfl ?_
  refine RunL.ok (OpOk.nilOk rfl) rfl ?_
  refine RunL.ok (OpOk.fieldAddr fld72_2 rfl) rfl ?_
  refine RunL.store ti3 rfl rfl rfl (frl (frl rfl)) (by exact Nat.le_of_ble_eq_true rfl) (.inl rfl) ?_
  refine RunL.nil ?_
  refine Run.seq ?_
  refine Run.region ?_
  refine RunL.ok (OpOk.assign rfl) rfl ?_
  refine RunL.nil ?_
  refine Run.ret1 Try.func44 rfl rfl ?_
  exact ⟨_, rfl, (Eq.trans (frc (frl (frl rfl)) (frc rfl rfl)) (congrArg (· * _) (congrArg (· * _) (asg (asg as1)))))⟩
theorem rnextA {to : Int} (h : to < 0 ∨ ops < to) : Spec Try.prog w0 47 [.pointer (some ⟨p, 0, none⟩), .int .i64 to] (A * pts p (.cells #[.int .i64 (ops), .int .i64 (room), .int .i64 (ref), lv] 72 (0, 0)) * own 82 5 lv (L).length (Fl encT82 (L))) (fun v' A' => ∃ J, v' = .tuple #[.agg #[.int .i64 0, .int .i64 0, .int .i64 0, .slice none 0 0, .int .i64 0], .int .i64 2] ∧ A' = A * J * pts p (.cells #[.int .i64 (ops), .int .i64 (room), .int .i64 (ref), lv] 72 (0, 0)) * own 82 5 lv (L).length (Fl encT82 (L))) := by
  refine Spec.of_run [(0, .pointer (some ⟨p, 0, none⟩)), (1, .int .i64 to)] Try.func47 rfl (Nat.le_of_ble_eq_true rfl) (by repeat (first | exact trivial | refine ⟨rfl, ?_⟩)) ?_
  refine Run.seq ?_
  refine Run.region ?_
  refine RunL.alloc ti82 rfl (fun bx1 => ?_)
  refine RunL.ok (OpOk.assign rfl) rfl ?_
  refine RunL.nil ?_
  refine Run.seq ?_
  refine Run.seq ?_
  refine Run.region ?_
  refine RunL.ok (OpOk.move rfl) rfl ?_
  refine RunL.ok (OpOk.lss rfl rfl) rfl ?_
  refine RunL.ok (OpOk.move rfl) rfl ?_
  refine RunL.splitD (t := 12) rfl (fun x2 => ?_) (fun x2 => ?_)
  · refine RunL.off rfl rfl rfl rfl ?_
    refine RunL.off rfl rfl rfl rfl ?_
    refine RunL.off rfl rfl rfl rfl ?_
    refine RunL.off rfl rfl rfl rfl ?_
    refine RunL.off rfl rfl rfl rfl ?_
    refine RunL.off rfl rfl rfl rfl ?_
    refine RunL.ok (OpOk.pickT rfl rfl) rfl ?_
    refine RunL.nil ?_
    refine Run.condT rfl ?_
    refine Run.seq ?_
    refine Run.region ?_
    refine RunL.ok (OpOk.build rfl (fun w => run_build w 82 _ _ (by rfl))) rfl ?_
    refine RunL.storeAll ti82 rfl rfl rfl (ones rfl) rfl rfl ?_
    refine RunL.ok (OpOk.assign rfl) rfl ?_
    refine RunL.nil ?_
    refine Run.retC2 (A' := _) Try.func47 rfl rfl rfl ti82 rfl rfl Blk.pts rfl (Grew.refl _) ?_
    exact ⟨_, rfl, (Eq.trans (frc (frl rfl) (frc (frl rfl) rfl)) (congrArg (· * _) (congrArg (· * _) as1)))⟩
  refine RunL.on rfl rfl ?_
  refine RunL.ok (OpOk.move rfl) rfl ?_
  refine RunL.on rfl rfl ?_
  refine RunL.ok (OpOk.move rfl) rfl ?_
  refine RunL.on rfl rfl ?_
  refine RunL.ok (OpOk.nilOk rfl) rfl ?_
  refine RunL.on rfl rfl ?_
  refine RunL.ok (OpOk.fieldAddr fld72_0 rfl) rfl ?_
  refine RunL.on rfl rfl ?_
  refine RunL.ok (OpOk.load rfl rfl rfl (Blk.out Blk.pts.left.left _ _ (by first | rfl | assumption))) rfl ?_
  refine RunL.on rfl rfl ?_
  refine RunL.ok (OpOk.asT (OpOk.gtr rfl rfl) (by omega)) rfl ?_
  refine RunL.ok (OpOk.pickF rfl rfl) rfl ?_
  refine RunL.nil ?_
  refine Run.condT rfl ?_
  refine Run.seq ?_
  refine Run.region ?_
  refine RunL.ok (OpOk.build rfl (fun w => run_build w 82 _ _ (by rfl))) rfl ?_
  refine RunL.storeAll ti82 rfl rfl rfl (ones rfl) rfl rfl ?_
  refine RunL.ok (OpOk.assign rfl) rfl ?_
  refine RunL.nil ?_
  refine Run.retC2 (A' := _) Try.func47 rfl rfl rfl ti82 rfl rfl Blk.pts rfl (Grew.refl _) ?_
  exact ⟨_, rfl, (Eq.trans (frc (frl rfl) (frc (frl rfl) rfl)) (congrArg (· * _) (congrArg (· * _) as1)))⟩
theorem rnextB {to : Int} (h0 : 0 ≤ to) (h1 : to ≤ ops) (hl : L.length ≤ 1048576) (hno : ∀ j, j < L.length → (L.getD j default).2.2.1 ≠ to) : Spec Try.prog w0 47 [.pointer (some ⟨p, 0, none⟩), .int .i64 to] (A * pts p (.cells #[.int .i64 (ops), .int .i64 (room), .int .i64 (ref), lv] 72 (0, 0)) * own 82 5 lv (L).length (Fl encT82 (L))) (fun v' A' => ∃ J, v' = .tuple #[.agg #[.int .i64 0, .int .i64 0, .int .i64 0, .slice none 0 0, .int .i64 0], .int .i64 21] ∧ A' = A * J * pts p (.cells #[.int .i64 (ops), .int .i64 (room), .int .i64 (ref), lv] 72 (0, 0)) * own 82 5 lv (L).length (Fl encT82 (L))) := by
  refine Spec.of_run [(0, .pointer (some ⟨p, 0, none⟩)), (1, .int .i64 to)] Try.func47 rfl (Nat.le_of_ble_eq_true rfl) (by repeat (first | exact trivial | refine ⟨rfl, ?_⟩)) ?_
  refine Run.seq ?_
  refine Run.region ?_
  refine RunL.alloc ti82 rfl (fun bx1 => ?_)
  refine RunL.ok (OpOk.assign rfl) rfl ?_
  refine RunL.nil ?_
  refine Run.seq ?_
  refine Run.seq ?_
  refine Run.region ?_
  refine RunL.ok (OpOk.move rfl) rfl ?_
  refine RunL.ok (OpOk.asF (OpOk.lss rfl rfl) (by omega)) rfl ?_
  refine RunL.ok (OpOk.move rfl) rfl ?_
  refine RunL.on rfl rfl ?_
  refine RunL.ok (OpOk.move rfl) rfl ?_
  refine RunL.on rfl rfl ?_
  refine RunL.ok (OpOk.move rfl) rfl ?_
  refine RunL.on rfl rfl ?_
  refine RunL.ok (OpOk.nilOk rfl) rfl ?_
  refine RunL.on rfl rfl ?_
  refine RunL.ok (OpOk.fieldAddr fld72_0 rfl) rfl ?_
  refine RunL.on rfl rfl ?_
  refine RunL.ok (OpOk.load rfl rfl rfl (Blk.out Blk.pts.left.left _ _ (by first | rfl | assumption))) rfl ?_
  refine RunL.on rfl rfl ?_
  refine RunL.ok (OpOk.asF (OpOk.gtr rfl rfl) (by omega)) rfl ?_
  refine RunL.ok (OpOk.pickF rfl rfl) rfl ?_
  refine RunL.nil ?_
  refine Run.condF rfl ?_
  refine Run.skip ?_
  refine Run.seq ?_
  refine Run.seq ?_
  refine Run.region ?_
  refine RunL.ok (OpOk.assign rfl) rfl ?_
  refine RunL.nil ?_
  refine Run.block ?_
  refine Run.jump ((Run.loopJ (X := Nat) (fun i => [(6, .int .i64 (i : Int)), (4, .pointer (some ⟨bx1, 0, none⟩)), (0, .pointer (some ⟨p, 0, none⟩)), (1, .int .i64 to)]) (fun _ => A * pts bx1 (.cells #[.int .i64 0, .int .i64 0, .int .i64 0, .slice none 0 0, .int .i64 0] 82 (0, 0)) * pts p (.cells #[.int .i64 (ops), .int .i64 (room), .int .i64 (ref), lv] 72 (0, 0)) * own 82 5 lv (L).length (Fl encT82 (L))) (fun i => i ≤ L.length) (fun i => L.length - i) 0 (Nat.zero_le _) (fun i hi ih => ?_))) ⟨rfl, rfl, rfl, rfl, trivial⟩ (Grew.of (frc (frl rfl) (frc (frl rfl) (frc rfl rfl))) (Grew.refl _))
  rcases Nat.lt_or_ge i L.length with hlt | hge
  · have hnx := hno i hlt
    obtain ⟨o, hoe⟩ : ∃ o, L.getD i default = o := ⟨_, rfl⟩
    rw [hoe] at hnx
    obtain ⟨mk, mf, mt, msv, mo, mb⟩ := o
    dsimp only at hnx
    refine Run.seq ?_
    refine Run.seq ?_
    refine Run.region ?_
    refine RunL.ok (OpOk.move rfl) rfl ?_
    refine RunL.ok (OpOk.move rfl) rfl ?_
    refine RunL.ok (OpOk.nilOk rfl) rfl ?_
    refine RunL.ok (OpOk.fieldAddr fld72_3 rfl) rfl ?_
    refine RunL.ok (OpOk.load rfl rfl rfl (Blk.out Blk.pts.left _ _ (by first | rfl | assumption))) rfl ?_
    refine RunL.know (fun w s => (s.conv rfl).ownRd0) (fun rdy1 => ?_)
    refine RunL.ok (OpOk.lenR rfl rfl (Rd.right rdy1) rfl) rfl ?_
    refine RunL.ok (OpOk.asT (OpOk.lss rfl rfl) (by omega)) rfl ?_
    refine RunL.nil ?_
    refine Run.condT rfl ?_
    refine Run.skip ?_
    refine Run.seq ?_
    refine Run.block ?_
    refine Run.seq ?_
    refine Run.region ?_
    refine RunL.ok (OpOk.move rfl) rfl ?_
    refine RunL.ok (OpOk.nilOk rfl) rfl ?_
    refine RunL.ok (OpOk.fieldAddr fld72_3 rfl) rfl ?_
    refine RunL.ok (OpOk.load rfl rfl rfl (Blk.out Blk.pts.left _ _ (by first | rfl | assumption))) rfl ?_
    refine RunL.ok (OpOk.move rfl) rfl ?_
    refine RunL.ok (OpOk.idxN rfl ti82 rfl (Rd.right rdy1) rfl (by omega)) rfl ?_
    refine RunL.ok (OpOk.fieldAddrA fld82_2 rfl) rfl ?_
    refine RunL.ok (OpOk.loadFl1E hoe rfl rfl rfl (Rd.right rdy1) (fun _ => rfl) rfl (by omega) rfl) rfl ?_
    refine RunL.ok (OpOk.move rfl) rfl ?_
    refine RunL.ok (OpOk.asF (OpOk.eql rfl rfl) (by omega)) rfl ?_
    refine RunL.nil ?_
    refine Run.condF rfl ?_
    refine Run.skip ?_
    refine Run.inBlock ?_
    refine Run.region ?_
    refine RunL.ok (OpOk.move rfl) rfl ?_
    refine RunL.ok (OpOk.addN _ 1 rfl rfl rfl rfl (by omega)) rfl ?_
    refine RunL.ok (OpOk.assign rfl) rfl ?_
    refine RunL.nil ?_
    refine Run.jump ((ih (i + 1) (by omega) (by omega))) ⟨rfl, rfl, rfl, rfl, trivial⟩ ((Grew.refl _))
  · obtain rfl : i = L.length := by omega
    clear ih
    refine Run.seq ?_
    refine Run.seq ?_
    refine Run.region ?_
    refine RunL.ok (OpOk.move rfl) rfl ?_
    refine RunL.ok (OpOk.move rfl) rfl ?_
    refine RunL.ok (OpOk.nilOk rfl) rfl ?_
    refine RunL.ok (OpOk.fieldAddr fld72_3 rfl) rfl ?_
    refine RunL.ok (OpOk.load rfl rfl rfl (Blk.out Blk.pts.left _ _ (by first | rfl | assumption))) rfl ?_
    refine RunL.know (fun w s => (s.conv rfl).ownRd0) (fun rdy1 => ?_)
    refine RunL.ok (OpOk.lenR rfl rfl (Rd.right rdy1) rfl) rfl ?_
    refine RunL.ok (OpOk.asF (OpOk.lss rfl rfl) (by omega)) rfl ?_
    refine RunL.nil ?_
    refine Run.condF rfl ?_
    refine Run.exit rfl ?_
    refine Run.seq ?_
    refine Run.region ?_
    refine RunL.ok (OpOk.build rfl (fun w => run_build w 82 _ _ (by rfl))) rfl ?_
    refine RunL.storeAll ti82 rfl rfl rfl (ones rfl) (frl (frl rfl)) rfl ?_
    refine RunL.ok (OpOk.assign rfl) rfl ?_
    refine RunL.nil ?_
    refine Run.retC2 (A' := _) Try.func47 rfl rfl rfl ti82 rfl rfl Blk.pts rfl (Grew.refl _) ?_
    exact ⟨_, rfl, (Eq.trans (frc (frl rfl) (frc (frl rfl) rfl)) (congrArg (· * _) (congrArg (· * _) as1)))⟩
theorem rnextC {to : Int} {q : Nat} {m : Ms} (h0 : 0 ≤ to) (h1 : to ≤ ops) (hl : L.length ≤ 1048576) (hq : q < L.length) (hm : L.getD q default = m) (hto : m.2.2.1 = to) (hno : ∀ j, j < q → (L.getD j default).2.2.1 ≠ to) : Spec Try.prog w0 47 [.pointer (some ⟨p, 0, none⟩), .int .i64 to] (A * pts p (.cells #[.int .i64 (ops), .int .i64 (room), .int .i64 (ref), lv] 72 (0, 0)) * own 82 5 lv (L).length (Fl encT82 (L))) (fun v' A' => ∃ lv2 J, v' = .tuple #[.agg (encT82 m).toArray, .int .i64 0] ∧ A' = A * J * pts p (.cells #[.int .i64 (ops), .int .i64 (room), .int .i64 (ref), lv2] 72 (0, 0)) * own 82 5 lv2 ((delM q L)).length (Fl encT82 ((delM q L)))) := by
  refine Spec.of_run [(0, .pointer (some ⟨p, 0, none⟩)), (1, .int .i64 to)] Try.func47 rfl (Nat.le_of_ble_eq_true rfl) (by repeat (first | exact trivial | refine ⟨rfl, ?_⟩)) ?_
  refine Run.seq ?_
  refine Run.region ?_
  refine RunL.alloc ti82 rfl (fun bx1 => ?_)
  refine RunL.ok (OpOk.assign rfl) rfl ?_
  refine RunL.nil ?_
  refine Run.seq ?_
  refine Run.seq ?_
  refine Run.region ?_
  refine RunL.ok (OpOk.move rfl) rfl ?_
  refine RunL.ok (OpOk.asF (OpOk.lss rfl rfl) (by omega)) rfl ?_
  refine RunL.ok (OpOk.move rfl) rfl ?_
  refine RunL.on rfl rfl ?_
  refine RunL.ok (OpOk.move rfl) rfl ?_
  refine RunL.on rfl rfl ?_
  refine RunL.ok (OpOk.move rfl) rfl ?_
  refine RunL.on rfl rfl ?_
  refine RunL.ok (OpOk.nilOk rfl) rfl ?_
  refine RunL.on rfl rfl ?_
  refine RunL.ok (OpOk.fieldAddr fld72_0 rfl) rfl ?_
  refine RunL.on rfl rfl ?_
  refine RunL.ok (OpOk.load rfl rfl rfl (Blk.out Blk.pts.left.left _ _ (by first | rfl | assumption))) rfl ?_
  refine RunL.on rfl rfl ?_
  refine RunL.ok (OpOk.asF (OpOk.gtr rfl rfl) (by omega)) rfl ?_
  refine RunL.ok (OpOk.pickF rfl rfl) rfl ?_
  refine RunL.nil ?_
  refine Run.condF rfl ?_
  refine Run.skip ?_
  refine Run.seq ?_
  refine Run.seq ?_
  refine Run.region ?_
  refine RunL.ok (OpOk.assign rfl) rfl ?_
  refine RunL.nil ?_
  refine Run.block ?_
  refine Run.jump ((Run.loopJ (X := Nat) (fun i => [(6, .int .i64 (i : Int)), (4, .pointer (some ⟨bx1, 0, none⟩)), (0, .pointer (some ⟨p, 0, none⟩)), (1, .int .i64 to)]) (fun _ => A * pts bx1 (.cells #[.int .i64 0, .int .i64 0, .int .i64 0, .slice none 0 0, .int .i64 0] 82 (0, 0)) * pts p (.cells #[.int .i64 (ops), .int .i64 (room), .int .i64 (ref), lv] 72 (0, 0)) * own 82 5 lv (L).length (Fl encT82 (L))) (fun i => i ≤ q) (fun i => q - i) 0 (Nat.zero_le _) (fun i hi ih => ?_))) ⟨rfl, rfl, rfl, rfl, trivial⟩ (Grew.of (frc (frl rfl) (frc (frl rfl) (frc rfl rfl))) (Grew.refl _))
  rcases Nat.lt_or_ge i q with hlt | hge
  · have hnx := hno i hlt
    obtain ⟨o, hoe⟩ : ∃ o, L.getD i default = o := ⟨_, rfl⟩
    rw [hoe] at hnx
    obtain ⟨mk, mf, mt, msv, mo, mb⟩ := o
    dsimp only at hnx
    refine Run.seq ?_
    refine Run.seq ?_
    refine Run.region ?_
    refine RunL.ok (OpOk.move rfl) rfl ?_
    refine RunL.ok (OpOk.move rfl) rfl ?_
    refine RunL.ok (OpOk.nilOk rfl) rfl ?_
    refine RunL.ok (OpOk.fieldAddr fld72_3 rfl) rfl ?_
    refine RunL.ok (OpOk.load rfl rfl rfl (Blk.out Blk.pts.left _ _ (by first | rfl | assumption))) rfl ?_
    refine RunL.know (fun w s => (s.conv rfl).ownRd0) (fun rdy1 => ?_)
    refine RunL.ok (OpOk.lenR rfl rfl (Rd.right rdy1) rfl) rfl ?_
    refine RunL.ok (OpOk.asT (OpOk.lss rfl rfl) (by omega)) rfl ?_
    refine RunL.nil ?_
    refine Run.condT rfl ?_
    refine Run.skip ?_
    refine Run.seq ?_
    refine Run.block ?_
    refine Run.seq ?_
    refine Run.region ?_
    refine RunL.ok (OpOk.move rfl) rfl ?_
    refine RunL.ok (OpOk.nilOk rfl) rfl ?_
    refine RunL.ok (OpOk.fieldAddr fld72_3 rfl) rfl ?_
    refine RunL.ok (OpOk.load rfl rfl rfl (Blk.out Blk.pts.left _ _ (by first | rfl | assumption))) rfl ?_
    refine RunL.ok (OpOk.move rfl) rfl ?_
    refine RunL.ok (OpOk.idxN rfl ti82 rfl (Rd.right rdy1) rfl (by omega)) rfl ?_
    refine RunL.ok (OpOk.fieldAddrA fld82_2 rfl) rfl ?_
    refine RunL.ok (OpOk.loadFl1E hoe rfl rfl rfl (Rd.right rdy1) (fun _ => rfl) rfl (by omega) rfl) rfl ?_
    refine RunL.ok (OpOk.move rfl) rfl ?_
    refine RunL.ok (OpOk.asF (OpOk.eql rfl rfl) (by omega)) rfl ?_
    refine RunL.nil ?_
    refine Run.condF rfl ?_
    refine Run.skip ?_
    refine Run.inBlock ?_
    refine Run.region ?_
    refine RunL.ok (OpOk.move rfl) rfl ?_
    refine RunL.ok (OpOk.addN _ 1 rfl rfl rfl rfl (by omega)) rfl ?_
    refine RunL.ok (OpOk.assign rfl) rfl ?_
    refine RunL.nil ?_
    refine Run.jump ((ih (i + 1) (by omega) (by omega))) ⟨rfl, rfl, rfl, rfl, trivial⟩ ((Grew.refl _))
  · obtain rfl : i = q := by omega
    clear ih
    obtain ⟨mk, mf, mt, msv, mo, mb⟩ := m
    dsimp only at hto
    have hone : ∀ w ∈ (Value.agg (encT82 (mk, mf, mt, msv, mo, mb)).toArray).cells.toList, w.oneCell' = true := fun w hw => OneC.one (enc := encT82) (mk, mf, mt, msv, mo, mb) w hw
    refine Run.seq ?_
    refine Run.seq ?_
    refine Run.region ?_
    refine RunL.ok (OpOk.move rfl) rfl ?_
    refine RunL.ok (OpOk.move rfl) rfl ?_
    refine RunL.ok (OpOk.nilOk rfl) rfl ?_
    refine RunL.ok (OpOk.fieldAddr fld72_3 rfl) rfl ?_
    refine RunL.ok (OpOk.load rfl rfl rfl (Blk.out Blk.pts.left _ _ (by first | rfl | assumption))) rfl ?_
    refine RunL.know (fun w s => (s.conv rfl).ownRd0) (fun rdy1 => ?_)
    refine RunL.ok (OpOk.lenR rfl rfl (Rd.right rdy1) rfl) rfl ?_
    refine RunL.ok (OpOk.asT (OpOk.lss rfl rfl) (by omega)) rfl ?_
    refine RunL.nil ?_
    refine Run.condT rfl ?_
    refine Run.skip ?_
    refine Run.seq ?_
    refine Run.block ?_
    refine Run.seq ?_
    refine Run.region ?_
    refine RunL.ok (OpOk.move rfl) rfl ?_
    refine RunL.ok (OpOk.nilOk rfl) rfl ?_
    refine RunL.ok (OpOk.fieldAddr fld72_3 rfl) rfl ?_
    refine RunL.ok (OpOk.load rfl rfl rfl (Blk.out Blk.pts.left _ _ (by first | rfl | assumption))) rfl ?_
    refine RunL.ok (OpOk.move rfl) rfl ?_
    refine RunL.ok (OpOk.idxN rfl ti82 rfl (Rd.right rdy1) rfl (by omega)) rfl ?_
    refine RunL.ok (OpOk.fieldAddrA fld82_2 rfl) rfl ?_
    refine RunL.ok (OpOk.loadFl1E hm rfl rfl rfl (Rd.right rdy1) (fun _ => rfl) rfl (by omega) rfl) rfl ?_
    refine RunL.ok (OpOk.move rfl) rfl ?_
    refine RunL.ok (OpOk.asT (OpOk.eql rfl rfl) (by omega)) rfl ?_
    refine RunL.nil ?_
    refine Run.condT rfl ?_
    refine Run.seq ?_
    refine Run.region ?_
    refine RunL.ok (OpOk.move rfl) rfl ?_
    refine RunL.ok (OpOk.nilOk rfl) rfl ?_
    refine RunL.ok (OpOk.fieldAddr fld72_3 rfl) rfl ?_
    refine RunL.ok (OpOk.load rfl rfl rfl (Blk.out Blk.pts.left _ _ (by first | rfl | assumption))) rfl ?_
    refine RunL.ok (OpOk.move rfl) rfl ?_
    refine RunL.ok (OpOk.idxN rfl ti82 rfl (Rd.right rdy1) rfl (by omega)) rfl ?_
    refine RunL.ok (OpOk.loadFlE (by assumption) rfl rfl ti82 rfl (Rd.right rdy1) (fun _ => rfl) rfl (by omega)) rfl ?_
    refine RunL.alloc ti82 rfl (fun by2 => ?_)
    refine RunL.storeAll ti82 rfl rfl rfl (fun w hw => OneC.one (enc := encT82) ((mk, mf, mt, msv, mo, mb)) w hw) rfl rfl ?_
    refine RunL.nil ?_
    refine Run.seq ?_
    refine Run.region ?_
    refine RunL.ok (OpOk.assign rfl) rfl ?_
    refine RunL.nil ?_
    refine Run.seq ?_
    refine Run.seq ?_
    refine Run.region ?_
    refine RunL.ok (OpOk.assign rfl) rfl ?_
    refine RunL.nil ?_
    refine Run.block ?_
    refine Run.ent (Ent.ownNil' _ 82 5 (Fl encT82 ([] : List Ms)) rfl) ?_
    refine Run.jump ((Run.loopJ (X := Nat × Asn × Value × List Ms) (fun x => [(9, .int .i64 (x.1 : Int)), (8, x.2.2.1), (7, .pointer (some ⟨by2, 0, none⟩)), (6, .int .i64 (i : Int)), (4, .pointer (some ⟨bx1, 0, none⟩)), (0, .pointer (some ⟨p, 0, none⟩)), (1, .int .i64 to)]) (fun x => A * x.2.1 * pts bx1 (.cells #[.int .i64 0, .int .i64 0, .int .i64 0, .slice none 0 0, .int .i64 0] 82 (0, 0)) * pts by2 (.cells (Value.agg (encT82 (mk, mf, mt, msv, mo, mb)).toArray).cells 82 (0, 0)) * pts p (.cells #[.int .i64 (ops), .int .i64 (room), .int .i64 (ref), lv] 72 (0, 0)) * own 82 5 lv (L).length (Fl encT82 (L)) * own 82 5 x.2.2.1 x.2.2.2.length (Fl encT82 x.2.2.2)) (fun x => x.1 ≤ L.length ∧ x.2.2.2 = delM i (L.take x.1)) (fun x => L.length - x.1) (0, _, .slice none 0 0, []) ⟨Nat.zero_le _, by simp [delM]⟩ (fun x hx ih => ?_))) ⟨rfl, rfl, rfl, rfl, rfl, rfl, rfl, trivial⟩ (Grew.of (Eq.trans (frc rfl (frc (frl rfl) (frc (frl rfl) rfl))) (congrArg (· * _) (congrArg (· * _) (congrArg (· * _) (congrArg (· * _) (congrArg (· * _) as0)))))) (Grew.refl _))
    obtain ⟨k, J, v, R⟩ := x
    simp only at hx ih ⊢
    obtain ⟨hk, hR⟩ := hx
    have hRl : R.length ≤ k := by
      have := delM_le i (L.take k)
      rw [← hR, List.length_take] at this
      omega
    rcases Nat.lt_or_ge k L.length with hlt2 | hge2
    · have hnx := delM_next (i := i) hlt2
      rw [← hR] at hnx
      obtain ⟨o, hoe⟩ : ∃ o, L.getD k default = o := ⟨_, rfl⟩
      rw [hoe] at hnx
      obtain ⟨nk, nf, nt, nsv, no, nb⟩ := o
      have hone2 : ∀ w ∈ (Value.agg (encT82 (nk, nf, nt, nsv, no, nb)).toArray).cells.toList, w.oneCell' = true := fun w hw => OneC.one (enc := encT82) (nk, nf, nt, nsv, no, nb) w hw
      rcases Nat.lt_trichotomy k i with hki | hki | hki
      · rw [if_neg (by omega)] at hnx
        refine Run.seq ?_
        refine Run.seq ?_
        refine Run.region ?_
        refine RunL.ok (OpOk.move rfl) rfl ?_
        refine RunL.ok (OpOk.move rfl) rfl ?_
        refine RunL.ok (OpOk.nilOk rfl) rfl ?_
        refine RunL.ok (OpOk.fieldAddr fld72_3 rfl) rfl ?_
        refine RunL.ok (OpOk.load rfl rfl rfl (Blk.out Blk.pts.left.left _ _ (by first | rfl | assumption))) rfl ?_
        refine RunL.ok (OpOk.lenR rfl rfl (Rd.right rdy1).left rfl) rfl ?_
        refine RunL.ok (OpOk.asT (OpOk.lss rfl rfl) (by omega)) rfl ?_
        refine RunL.nil ?_
        refine Run.condT rfl ?_
        refine Run.skip ?_
        refine Run.seq ?_
        refine Run.block ?_
        refine Run.seq ?_
        refine Run.region ?_
        refine RunL.ok (OpOk.move rfl) rfl ?_
        refine RunL.ok (OpOk.move rfl) rfl ?_
        refine RunL.ok (OpOk.as (c := true) (OpOk.neq rfl rfl) (by rw [decide_eq_false (by omega)]; rfl)) rfl ?_
        refine RunL.nil ?_
        refine Run.condT rfl ?_
        refine Run.region ?_
        refine RunL.ok (OpOk.move rfl) rfl ?_
        refine RunL.ok (OpOk.move rfl) rfl ?_
        refine RunL.ok (OpOk.nilOk rfl) rfl ?_
        refine RunL.ok (OpOk.fieldAddr fld72_3 rfl) rfl ?_
        refine RunL.ok (OpOk.load rfl rfl rfl (Blk.out Blk.pts.left.left _ _ (by first | rfl | assumption))) rfl ?_
        refine RunL.ok (OpOk.move rfl) rfl ?_
        refine RunL.ok (OpOk.idxN rfl ti82 rfl (Rd.right rdy1).left rfl (by omega)) rfl ?_
        refine RunL.ok (OpOk.loadFlE (by assumption) rfl rfl ti82 rfl (Rd.right rdy1).left (fun _ => rfl) rfl (by omega)) rfl ?_
        refine RunL.litFl (enc := encT82) [(nk, nf, nt, nsv, no, nb)] rfl ti82 rfl (fun _ => rfl) rfl rfl (by decide) (by decide) rfl (fun vz1 rdz1 => ?_)
        refine RunL.know (fun w s => (s.conv rfl).ownRd0) (fun rdz3 => ?_)
        refine RunL.appendF rfl ti82 rfl rfl rfl (frl rfl) (Rd.right rdz3) rfl (by decide) (by omega) (by simp only [maxLen]; omega) rfl (fun vz2 rdz2 => ?_)
        refine RunL.ok (OpOk.assign rfl) rfl ?_
        refine RunL.nil ?_
        refine Run.inBlock ?_
        refine Run.region ?_
        refine RunL.ok (OpOk.move rfl) rfl ?_
        refine RunL.ok (OpOk.addN _ 1 rfl rfl rfl rfl (by omega)) rfl ?_
        refine RunL.ok (OpOk.assign rfl) rfl ?_
        refine RunL.nil ?_
        rw [show R.length + 1 = (R ++ [(nk, nf, nt, nsv, no, nb)]).length by simp]
        refine Run.jump ((ih (k + 1, _, _, _) ⟨by dsimp only; omega, hnx.symm⟩ (by dsimp only; omega))) ⟨rfl, rfl, rfl, rfl, rfl, rfl, rfl, trivial⟩ (Grew.of (Eq.trans (frc rfl (frc (frl rfl) (frc (frl rfl) (frc (frl rfl) (frc (frl rfl) rfl))))) (congrArg (· * _) (congrArg (· * _) (congrArg (· * _) (congrArg (· * _) (congrArg (· * _) (asg as1))))))) (Grew.refl _))
      · rw [if_pos hki, List.append_nil] at hnx
        refine Run.seq ?_
        refine Run.seq ?_
        refine Run.region ?_
        refine RunL.ok (OpOk.move rfl) rfl ?_
        refine RunL.ok (OpOk.move rfl) rfl ?_
        refine RunL.ok (OpOk.nilOk rfl) rfl ?_
        refine RunL.ok (OpOk.fieldAddr fld72_3 rfl) rfl ?_
        refine RunL.ok (OpOk.load rfl rfl rfl (Blk.out Blk.pts.left.left _ _ (by first | rfl | assumption))) rfl ?_
        refine RunL.ok (OpOk.lenR rfl rfl (Rd.right rdy1).left rfl) rfl ?_
        refine RunL.ok (OpOk.asT (OpOk.lss rfl rfl) (by omega)) rfl ?_
        refine RunL.nil ?_
        refine Run.condT rfl ?_
        refine Run.skip ?_
        refine Run.seq ?_
        refine Run.block ?_
        refine Run.seq ?_
        refine Run.region ?_
        refine RunL.ok (OpOk.move rfl) rfl ?_
        refine RunL.ok (OpOk.move rfl) rfl ?_
        refine RunL.ok (OpOk.as (c := false) (OpOk.neq rfl rfl) (by rw [decide_eq_true (by omega)]; rfl)) rfl ?_
        refine RunL.nil ?_
        refine Run.condF rfl ?_
        refine Run.skip ?_
        refine Run.inBlock ?_
        refine Run.region ?_
        refine RunL.ok (OpOk.move rfl) rfl ?_
        refine RunL.ok (OpOk.addN _ 1 rfl rfl rfl rfl (by omega)) rfl ?_
        refine RunL.ok (OpOk.assign rfl) rfl ?_
        refine RunL.nil ?_
        refine Run.jump ((ih (k + 1, _, _, _) ⟨by dsimp only; omega, hnx.symm⟩ (by dsimp only; omega))) ⟨rfl, rfl, rfl, rfl, rfl, rfl, rfl, trivial⟩ (Grew.of (congrArg (· * _) (congrArg (· * _) (congrArg (· * _) (congrArg (· * _) (congrArg (· * _) as1))))) (Grew.refl _))
      · rw [if_neg (by omega)] at hnx
        refine Run.seq ?_
        refine Run.seq ?_
        refine Run.region ?_
        refine RunL.ok (OpOk.move rfl) rfl ?_
        refine RunL.ok (OpOk.move rfl) rfl ?_
        refine RunL.ok (OpOk.nilOk rfl) rfl ?_
        refine RunL.ok (OpOk.fieldAddr fld72_3 rfl) rfl ?_
        refine RunL.ok (OpOk.load rfl rfl rfl (Blk.out Blk.pts.left.left _ _ (by first | rfl | assumption))) rfl ?_
        refine RunL.ok (OpOk.lenR rfl rfl (Rd.right rdy1).left rfl) rfl ?_
        refine RunL.ok (OpOk.asT (OpOk.lss rfl rfl) (by omega)) rfl ?_
        refine RunL.nil ?_
        refine Run.condT rfl ?_
        refine Run.skip ?_
        refine Run.seq ?_
        refine Run.block ?_
        refine Run.seq ?_
        refine Run.region ?_
        refine RunL.ok (OpOk.move rfl) rfl ?_
        refine RunL.ok (OpOk.move rfl) rfl ?_
        refine RunL.ok (OpOk.as (c := true) (OpOk.neq rfl rfl) (by rw [decide_eq_false (by omega)]; rfl)) rfl ?_
        refine RunL.nil ?_
        refine Run.condT rfl ?_
        refine Run.region ?_
        refine RunL.ok (OpOk.move rfl) rfl ?_
        refine RunL.ok (OpOk.move rfl) rfl ?_
        refine RunL.ok (OpOk.nilOk rfl) rfl ?_
        refine RunL.ok (OpOk.fieldAddr fld72_3 rfl) rfl ?_
        refine RunL.ok (OpOk.load rfl rfl rfl (Blk.out Blk.pts.left.left _ _ (by first | rfl | assumption))) rfl ?_
        refine RunL.ok (OpOk.move rfl) rfl ?_
        refine RunL.ok (OpOk.idxN rfl ti82 rfl (Rd.right rdy1).left rfl (by omega)) rfl ?_
        refine RunL.ok (OpOk.loadFlE (by assumption) rfl rfl ti82 rfl (Rd.right rdy1).left (fun _ => rfl) rfl (by omega)) rfl ?_
        refine RunL.litFl (enc := encT82) [(nk, nf, nt, nsv, no, nb)] rfl ti82 rfl (fun _ => rfl) rfl rfl (by decide) (by decide) rfl (fun vz1 rdz1 => ?_)
        refine RunL.know (fun w s => (s.conv rfl).ownRd0) (fun rdz3 => ?_)
        refine RunL.appendF rfl ti82 rfl rfl rfl (frl rfl) (Rd.right rdz3) rfl (by decide) (by omega) (by simp only [maxLen]; omega) rfl (fun vz2 rdz2 => ?_)
        refine RunL.ok (OpOk.assign rfl) rfl ?_
        refine RunL.nil ?_
        refine Run.inBlock ?_
        refine Run.region ?_
        refine RunL.ok (OpOk.move rfl) rfl ?_
        refine RunL.ok (OpOk.addN _ 1 rfl rfl rfl rfl (by omega)) rfl ?_
        refine RunL.ok (OpOk.assign rfl) rfl ?_
        refine RunL.nil ?_
        rw [show R.length + 1 = (R ++ [(nk, nf, nt, nsv, no, nb)]).length by simp]
        refine Run.jump ((ih (k + 1, _, _, _) ⟨by dsimp only; omega, hnx.symm⟩ (by dsimp only; omega))) ⟨rfl, rfl, rfl, rfl, rfl, rfl, rfl, trivial⟩ (Grew.of (Eq.trans (frc rfl (frc (frl rfl) (frc (frl rfl) (frc (frl rfl) (frc (frl rfl) rfl))))) (congrArg (· * _) (congrArg (· * _) (congrArg (· * _) (congrArg (· * _) (congrArg (· * _) (asg as1))))))) (Grew.refl _))
    · obtain rfl : k = L.length := by omega
      clear ih
      rw [List.take_length] at hR
      subst hR
      refine Run.seq ?_
      refine Run.seq ?_
      refine Run.region ?_
      refine RunL.ok (OpOk.move rfl) rfl ?_
      refine RunL.ok (OpOk.move rfl) rfl ?_
      refine RunL.ok (OpOk.nilOk rfl) rfl ?_
      refine RunL.ok (OpOk.fieldAddr fld72_3 rfl) rfl ?_
      refine RunL.ok (OpOk.load rfl rfl rfl (Blk.out Blk.pts.left.left _ _ (by first | rfl | assumption))) rfl ?_
      refine RunL.ok (OpOk.lenR rfl rfl (Rd.right rdy1).left rfl) rfl ?_
      refine RunL.ok (OpOk.asF (OpOk.lss rfl rfl) (by omega)) rfl ?_
      refine RunL.nil ?_
      refine Run.condF rfl ?_
      refine Run.exit rfl ?_
      refine Run.seq ?_
      refine Run.region ?_
      refine RunL.ok (OpOk.move rfl) rfl ?_
      refine RunL.ok (OpOk.move rfl) rfl ?_
      refine RunL.ok (OpOk.nilOk rfl) rfl ?_
      refine RunL.ok (OpOk.fieldAddr fld72_3 rfl) rfl ?_
      refine RunL.know (fun w s => (s.conv rfl).ownRd0) (fun rdz1 => ?_)
      refine RunL.store ti70 rfl rfl (Rd.one rdz1) (frl (frl rfl)) (by exact Nat.le_of_ble_eq_true rfl) (.inl rfl) ?_
      refine RunL.nil ?_
      refine Run.seq ?_
      refine Run.region ?_
      refine RunL.ok (OpOk.loadS rfl rfl ti82 rfl Blk.pts.left.left.left rfl) rfl ?_
      refine RunL.storeAll ti82 rfl rfl rfl (fun w hw => OneC.one (enc := encT82) ((mk, mf, mt, msv, mo, mb)) w hw) (frl (frl (frl (frl rfl)))) rfl ?_
      refine RunL.ok (OpOk.assign rfl) rfl ?_
      refine RunL.nil ?_
      refine Run.retC2 (A' := _) Try.func47 rfl rfl rfl ti82 rfl rfl Blk.pts rfl (Grew.refl _) ?_
      exact ⟨_, _, rfl, (Eq.trans (frc (frl (frl rfl)) (frc (frl rfl) rfl)) (congrArg (· * _) (congrArg (· * _) (asg (asg (asg as1))))))⟩
end
end Go.Proofs.Ytegbfnibjgpbpaa
