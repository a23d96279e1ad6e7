/- copied of the program, Find. -/
import Derived.Test.YtlheianbmpgefaaTvP
namespace Go.Proofs.Ytlheianbmpgefaa
open Go Go.Proofs
set_option maxRecDepth 100000
set_option maxHeartbeats 4000000
set_option linter.unusedSimpArgs false
theorem strL_set : ∀ {zs : List Ee} {i : Nat}, i < zs.length → ∀ {t : Int} {bv ev bv2 ev2 : SV} {bs : List UInt8} {f f2 : Fo}, zs.getD i default = (t, bv, bs, ev, f) → strip f2 = strip f → strL (zs.set i (t, bv2, bs, ev2, f2)) = strL zs
  | [], i, h, _, _, _, _, _, _, _, _, _, _ => by simp at h
  | x :: r, 0, h, t, bv, ev, bv2, ev2, bs, f, f2, e, h2 => by
    simp only [List.getD_cons_zero] at e
    subst e
    rw [List.set_cons_zero, strL, strL, h2]
  | (t0, bv0, bs0, ev0, f0) :: r, i + 1, h, t, bv, ev, bv2, ev2, bs, f, f2, e, h2 => by
    rw [List.set_cons_succ, strL, strL, strL_set (zs := r) (i := i) (by simpa using h) (by simpa using e) h2]
theorem take_setE : ∀ {zs : List Ee} {i : Nat}, i < zs.length → ∀ x : Ee, (zs.set i x).take (i + 1) = zs.take i ++ [x]
  | [], i, h, _ => by simp at h
  | z :: r, 0, h, x => rfl
  | z :: r, i + 1, h, x => by rw [List.set_cons_succ, List.take_succ_cons, List.take_succ_cons, take_setE (zs := r) (by simpa using h) x, List.cons_append]
theorem drop_setE : ∀ {zs : List Ee} {i : Nat}, ∀ x : Ee, (zs.set i x).drop (i + 1) = zs.drop (i + 1)
  | [], i, _ => rfl
  | z :: r, 0, x => rfl
  | z :: r, i + 1, x => by rw [List.set_cons_succ, List.drop_succ_cons, List.drop_succ_cons, drop_setE (zs := r) x]
theorem getD_of_drop {zs xs : List Ee} {i : Nat} (h1 : i < zs.length) (h2 : i < xs.length) (h : zs.drop i = xs.drop i) : zs.getD i default = xs.getD i default ∧ zs.drop (i + 1) = xs.drop (i + 1) := by
  rw [drop_next h1, drop_next h2] at h
  exact ⟨(List.cons.inj h).1, (List.cons.inj h).2⟩
theorem cells_enc (x : Ee) : (Value.agg (encT66 x).toArray).cells = (encT66 x).toArray := by
  obtain ⟨t, ⟨v, hv⟩, bs, ⟨w, hw⟩, f⟩ := x
  cases v <;> first | (cases w <;> first | rfl | (simp [Value.oneCell'] at hw)) | (simp [Value.oneCell'] at hv)
theorem set_enc (t : Int) (bv ev b2 e2 : SV) (bs : List UInt8) (f : Fo) : (((Value.agg (encT66 (t, bv, bs, ev, f)).toArray).cells.setIfInBounds (0 + 1) b2.1).setIfInBounds (0 + 2) e2.1) = (Value.agg (encT66 (t, b2, bs, e2, f)).toArray).cells := by
  rw [cells_enc, cells_enc]; rfl
def Ccp (w0 : World) (n : Nat) : Prop := ∀ (A : Asn) (t : Int) (bv ev : SV) (bs : List UInt8) (f : Fo), dpT (strL (top f)) ≤ n → Rd w0 A bv.1 1 bs.length (B bs) → Rd w0 A ev.1 3 (top f).length (Fl encT66 (top f)) → Alls (GE w0) A (top f) → szT (.cons t bs (strip f) .nil) →
  Spec Try.prog w0 54 [.agg (encT66 (t, bv, bs, ev, f)).toArray] A (fun v' A' => ∃ (bv2 ev2 : SV) (f2 : Fo) (J : Asn), v' = .agg (encT66 (t, bv2, bs, ev2, f2)).toArray ∧ strip f2 = strip f ∧ A' = A * J * own 5 1 bv2.1 bs.length (B bs) * own 66 3 ev2.1 (top f2).length (Fl encT66 (top f2)) * ownsE (top f2))
section
variable {w0 : World} {A : Asn} {n : Nat}
theorem s57 {u : Value} {m : Nat} {xs : List Ee} (rd : Rd w0 A u 3 m (Fl encT66 xs)) (hm : m ≤ 2513169434843) : Spec Try.prog w0 57 [u] A (fun v' A' => A' = A * own 66 3 v' m (Fl encT66 xs)) := by
  obtain ⟨ad, cap, rfl, hcap, ha⟩ := rd.form
  refine Spec.of_run [(0, .slice ad m cap)] Try.func57 rfl (Nat.le_of_ble_eq_true rfl) (by repeat (first | exact trivial | refine ⟨rfl, ?_⟩)) ?_
  cases ad with
  | none =>
    have hm0 : m = 0 := by
      rcases Nat.eq_zero_or_pos m with e | e
      · exact e
      · cases ha e
    subst hm0
    have hb : xs = [] := List.eq_nil_of_length_eq_zero (rd.lenFl (fun _ => rfl) (by decide))
    subst hb
    refine Run.seq ?_
    refine Run.region ?_
    refine RunL.ok (OpOk.assign rfl) rfl ?_
    refine RunL.nil ?_
    refine Run.seq ?_
    refine Run.seq ?_
    refine Run.region ?_
    refine RunL.ok (OpOk.move rfl) rfl ?_
    refine RunL.ok (OpOk.eqlNil rfl rfl) rfl ?_
    refine RunL.nil ?_
    refine Run.condT rfl ?_
    refine Run.seq ?_
    refine Run.region ?_
    refine RunL.ok (OpOk.assign rfl) rfl ?_
    refine RunL.nil ?_
    refine Run.ent (Ent.ownNil' _ 66 3 (Fl encT66 []) rfl) ?_
    refine Run.ret1 Try.func57 rfl rfl ?_
    exact rfl
  | some a =>
    refine Run.seq ?_
    refine Run.region ?_
    refine RunL.ok (OpOk.assign rfl) rfl ?_
    refine RunL.nil ?_
    refine Run.seq ?_
    refine Run.seq ?_
    refine Run.region ?_
    refine RunL.ok (OpOk.move rfl) rfl ?_
    refine RunL.ok (OpOk.eqlNil rfl rfl) rfl ?_
    refine RunL.nil ?_
    refine Run.condF rfl ?_
    refine Run.skip ?_
    refine Run.seq ?_
    refine Run.region ?_
    refine RunL.lit0 rfl ti66 rfl (fun vy1 rdy1 => ?_)
    refine RunL.ok (OpOk.move rfl) rfl ?_
    refine RunL.appendF0 rfl ti66 rfl rfl rfl rfl rd.left rfl (by decide) (by omega) (by simp only [maxLen]; omega) rfl (fun vy2 rdy2 => ?_)
    refine RunL.ok (OpOk.assign rfl) rfl ?_
    refine RunL.nil ?_
    refine Run.ret1 Try.func57 rfl rfl ?_
    exact rfl
theorem s54 {t : Int} {bv ev : SV} {bs : List UInt8} {f : Fo} (hrec : Ccp w0 n) (hsz : dpT (strL (top f)) ≤ n) (hgb : Rd w0 A bv.1 1 bs.length (B bs)) (hgr : Rd w0 A ev.1 3 (top f).length (Fl encT66 (top f))) (hga : Alls (GE w0) A (top f)) (hk : szT (.cons t bs (strip f) .nil)) :
    Spec Try.prog w0 54 [.agg (encT66 (t, bv, bs, ev, f)).toArray] A (fun v' A' => ∃ (bv2 ev2 : SV) (f2 : Fo) (J : Asn), v' = .agg (encT66 (t, bv2, bs, ev2, f2)).toArray ∧ strip f2 = strip f ∧ A' = A * J * own 5 1 bv2.1 bs.length (B bs) * own 66 3 ev2.1 (top f2).length (Fl encT66 (top f2)) * ownsE (top f2)) := hrec A t bv ev bs f hsz hgb hgr hga hk
theorem cpAll : ∀ n, Ccp w0 n := fun n => by
  induction n using Nat.strongRecOn with
  | ind n hall =>
  intro A t bv ev bs f hsz hgb hgr hga hk
  have hone : ∀ w ∈ (Value.agg (encT66 (t, bv, bs, ev, f)).toArray).cells.toList, w.oneCell' = true := fun w hw => OneC.one (enc := encT66) (t, bv, bs, ev, f) w hw
  obtain ⟨hk1, hk2, hk3, _⟩ := hk
  rw [lenT_strip] at hk2
  refine Spec.of_run [(0, .agg (encT66 (t, bv, bs, ev, f)).toArray)] Try.func54 rfl (Nat.le_of_ble_eq_true rfl) (by repeat (first | exact trivial | refine ⟨rfl, ?_⟩)) ?_
  have drawFill : True := trivial
  refine Run.seq ?_
  refine Run.region ?_
  refine RunL.box rfl rfl (fun bx1 => ?_)
  refine RunL.alloc ti66 rfl (fun bx2 => ?_)
  refine RunL.nil ?_
  refine Run.seq ?_
  (apply Run.drawD [7, 8, 9] (by rfl) (sep_emp _).symm; case hchk => kernel_rfl)
  refine Sd.quiet 0 _ _ rfl rfl rfl rfl rfl (QOp.ok (fun X => OpOk.fieldAddr fld66_1 rfl)) ?_
  refine Sd.quiet 1 _ _ rfl rfl rfl rfl rfl (QOp.ok (fun X => OpOk.load rfl rfl rfl (Blk.out Blk.pts.left.left.left _ _ (by first | rfl | assumption)))) ?_
  refine Sd.quiet 3 _ _ rfl rfl rfl rfl rfl (QOp.ok (fun X => OpOk.fieldAddr fld66_2 rfl)) ?_
  refine Sd.quiet 4 _ _ rfl rfl rfl rfl rfl (QOp.ok (fun X => OpOk.load rfl rfl rfl (Blk.out Blk.pts.left.left.left _ _ (by first | rfl | assumption)))) ?_
  refine Sd.quiet 6 _ _ rfl rfl rfl rfl rfl (QOp.ok (fun X => OpOk.fieldAddr fld66_1 rfl)) ?_
  (refine Sd.exec 2 rfl rfl rfl rfl rfl ?hrest (by rfl) (fun Xx3 Kx3 hKx3 => ?_); case hrest => kernel_rfl)
  refine RunL.mem (fl2 (sep_emp _) (sep_emp _)) ?_
  refine RunL.call cal42 rfl (s42 hgb.left.left.left (by omega)) rfl (fun vx4 Ax4 hx4 => ?_)
  obtain rfl := hx4
  refine RunL.know (fun w s => (s.conv rfl).ownRd0) (fun rdx5 => ?_)
  refine Sd.ret hKx3 (Eq.trans rfl (gp2 (sep_emp _).symm rfl)) ⟨_, (emp_sep _).symm⟩ ?_
  (refine Sd.exec 5 rfl rfl rfl rfl rfl ?hrest (by rfl) (fun Xx6 Kx6 hKx6 => ?_); case hrest => kernel_rfl)
  refine RunL.mem (fl2 rfl (sep_emp _)) ?_
  refine RunL.call cal57 rfl (s57 hgr.left.left.left.left (by assumption)) rfl (fun vx7 Ax7 hx7 => ?_)
  obtain rfl := hx7
  refine RunL.know (fun w s => (s.conv rfl).ownRd0) (fun rdx8 => ?_)
  refine Sd.ret hKx6 (Eq.trans rfl (gp2 (sep_emp _).symm (asg rfl))) ⟨_, rfl⟩ ?_
  (apply Sd.tail; case hall => kernel_rfl)
  refine RunL.mem (fl2 (flS rfl) (sep_emp _)) ?_
  refine RunL.store ti24 rfl rfl (Rd.one rdx5) (frl (frl (frl rfl))) (by exact Nat.le_of_ble_eq_true rfl) (.inl rfl) ?_
  refine RunL.ok (OpOk.fieldAddr fld66_2 rfl) rfl ?_
  refine RunL.store ti50 rfl rfl (Rd.one rdx8) rfl (by exact Nat.le_of_ble_eq_true rfl) (.inl rfl) ?_
  refine RunL.nil ?_
  refine Run.seq ?_
  refine Run.seq ?_
  refine Run.region ?_
  refine RunL.ok (OpOk.fieldAddr fld66_2 rfl) rfl ?_
  refine RunL.ok (OpOk.load rfl rfl rfl (Blk.out Blk.pts _ _ (by first | rfl | assumption))) rfl ?_
  refine RunL.ok (OpOk.lenR rfl rfl (Rd.right rdx8).left rfl) rfl ?_
  refine RunL.ok (OpOk.move rfl) rfl ?_
  refine RunL.nil ?_
  refine Run.block ?_
  clear hKx3 Kx3 Xx3 hKx6 Kx6 Xx6 drawFill
  obtain ⟨b2, rfl⟩ : ∃ b2 : SV, vx4 = b2.1 := ⟨⟨vx4, Rd.one rdx5⟩, rfl⟩
  obtain ⟨e2, rfl⟩ : ∃ e2 : SV, vx7 = e2.1 := ⟨⟨vx7, Rd.one rdx8⟩, rfl⟩
  refine Run.mem (sep_emp _).symm ?_
  rw [show emp = ownsE [] from rfl]
  rw [set_enc]
  clear hone
  have hks0 := hk3
  rw [← strL_top] at hks0
  refine Run.jump ((Run.loopJ (X := Nat × Asn × List Ee × List Ee) (fun x => [(15, .int .i64 (x.1 : Int)), (14, .int .i64 ((top f).length : Int)), (2, .pointer (some { block := bx2, off := 0 })), (1, .pointer (some { block := bx1, off := 0 }))]) (fun x => A * x.2.1 * own 5 1 b2.1 bs.length (B bs) * own 66 3 e2.1 (top f).length (Fl encT66 x.2.2.1) * ownsE x.2.2.2 * pts bx1 (.cells (Value.agg (encT66 (t, b2, bs, e2, f)).toArray).cells 66) * pts bx2 (.cells (Value.agg #[.int .i64 0, .slice none 0 0, .slice none 0 0]).cells 66)) (fun x => x.1 ≤ (top f).length ∧ x.2.2.1.length = (top f).length ∧ strL x.2.2.1 = strL (top f) ∧ x.2.2.1.drop x.1 = (top f).drop x.1 ∧ szT (strL ((top f).drop x.1)) ∧ x.2.2.2 = x.2.2.1.take x.1) (fun x => (top f).length - x.1) (0, _, top f, []) ⟨Nat.zero_le _, rfl, rfl, rfl, hks0, rfl⟩ (fun x hx ih => ?_))) ⟨rfl, rfl, rfl, rfl, trivial⟩ (Grew.of (Eq.trans (frc (frl (frl (frl (frl rfl)))) (frc (frl rfl) rfl)) (congrArg (· * _) (congrArg (· * _) (congrArg (· * _) (congrArg (· * _) (congrArg (· * _) as0)))))) (Grew.refl _))
  obtain ⟨i, J, zs, ds⟩ := x
  simp only at hx ih ⊢
  obtain ⟨hi, hzl, hzs, hdr, hks, hds⟩ := hx
  rcases Nat.lt_or_ge i (top f).length with hlt | hge
  · have hg := hga.get hlt
    obtain ⟨hge, hdr2⟩ := getD_of_drop (by omega) hlt hdr
    obtain ⟨o, hoe⟩ : ∃ o, (top f).getD i default = o := ⟨_, rfl⟩
    rw [hoe] at hg hge
    obtain ⟨t1, bv1, bs1, ev1, f1⟩ := o
    obtain ⟨hgb1, hgr1, hgf1⟩ := hg
    have hga1 := GFo.alls hgf1
    dsimp only at hgb1 hgr1 hga1
    have hdp := dpT_at hlt hoe
    have hrec : Ccp w0 (n - 1) := hall (n - 1) (by omega)
    rw [strL_drop hlt hoe, szT] at hks
    obtain ⟨hk1', hk2', hk3', hk4'⟩ := hks
    have hkk : szT (.cons t1 bs1 (strip f1) .nil) := ⟨hk1', hk2', hk3', trivial⟩
    have hzi : i < zs.length := by omega
    clear hks0
    refine Run.seq ?_
    refine Run.region ?_
    refine RunL.ok (OpOk.asT (OpOk.lss rfl rfl) (by omega)) rfl ?_
    refine RunL.nil ?_
    refine Run.seq ?_
    refine Run.condT rfl ?_
    refine Run.skip ?_
    refine Run.seq ?_
    refine Run.block ?_
    refine Run.seq ?_
    refine Run.region ?_
    refine RunL.ok (OpOk.move rfl) rfl ?_
    refine RunL.ok (OpOk.assign rfl) rfl ?_
    refine RunL.nil ?_
    refine Run.know (fun w s => (s.conv (frl (frl (frl rfl)))).ownRd0) (fun rdy1 => ?_)
    (apply Run.drawD [10] (by rfl) (sep_emp _).symm; case hchk => kernel_rfl)
    refine Sd.quiet 0 _ _ rfl rfl rfl rfl rfl (QOp.ok (fun X => OpOk.fieldAddr fld66_2 rfl)) ?_
    refine Sd.quiet 1 _ _ rfl rfl rfl rfl rfl (QOp.ok (fun X => OpOk.load rfl rfl rfl (Blk.out Blk.pts.left.left.left _ _ (by first | rfl | assumption)))) ?_
    refine Sd.quiet 2 _ _ rfl rfl rfl rfl rfl (QOp.ok (fun X => OpOk.move rfl)) ?_
    refine Sd.quiet 3 _ _ rfl rfl rfl rfl rfl (QOp.ok (fun X => OpOk.fieldAddr fld66_2 rfl)) ?_
    refine Sd.quiet 4 _ _ rfl rfl rfl rfl rfl (QOp.ok (fun X => OpOk.load rfl rfl rfl (Blk.out Blk.pts.left.left.left _ _ (by first | rfl | assumption)))) ?_
    refine Sd.quiet 5 _ _ rfl rfl rfl rfl rfl (QOp.ok (fun X => OpOk.move rfl)) ?_
    refine Sd.quiet 6 _ _ rfl rfl rfl rfl rfl (QOp.ok (fun X => OpOk.idxN rfl ti66 rfl (Rd.right rdy1).left.left.left.left.left rfl (by omega))) ?_
    refine Sd.quiet 7 _ _ rfl rfl rfl rfl rfl (QOp.ok (fun X => OpOk.loadFlE (by assumption) rfl rfl ti66 rfl (Rd.right rdy1).left.left.left.left.left (fun _ => rfl) rfl (by omega))) ?_
    refine Sd.quiet 9 _ _ rfl rfl rfl rfl rfl (QOp.ok (fun X => OpOk.idxN rfl ti66 rfl (Rd.right rdy1).left.left.left.left.left rfl (by omega))) ?_
    (refine Sd.exec 8 rfl rfl rfl rfl rfl ?hrest (by rfl) (fun Xy2 Ky2 hKy2 => ?_); case hrest => kernel_rfl)
    refine RunL.mem (fl2 (sep_emp _) (sep_emp _)) ?_
    refine RunL.know (fun w s => (s.conv (frl (frl (frl rfl)))).ownsE0) (fun aly3 => ?_)
    refine RunL.call cal54 rfl (s54 (by assumption) (by omega) hgb1.left.left.left.left.left.left.left hgr1.left.left.left.left.left.left.left hga1.left.left.left.left.left.left.left (by assumption)) rfl (fun vy4 Ay4 hy4 => ?_)
    obtain ⟨y5, ⟨y6, ⟨y7, ⟨y8, ⟨rfl, ⟨y9, rfl⟩⟩⟩⟩⟩⟩ := hy4
    refine RunL.know (fun w s => (s.conv (frl (frl rfl))).ownRd0) (fun rdy10 => ?_)
    refine RunL.know (fun w s => (s.conv (frl rfl)).ownRd0) (fun rdy11 => ?_)
    refine Sd.ret hKy2 (Eq.trans rfl (gp2 (sep_emp _).symm (asg (asg (asg rfl))))) ⟨_, (emp_sep _).symm⟩ ?_
    (apply Sd.tail; case hall => kernel_rfl)
    refine RunL.mem (fl2 (flS (flS (flS rfl))) (sep_emp _)) ?_
    refine RunL.storeFl (enc := encT66) ((t1, y5, bs1, y6, y7)) ti66 rfl rfl rfl (fun _ => rfl) rfl (frl (frl (frl (frl (frl (frl (frl rfl))))))) (by first | omega | (simp; omega)) (by omega) ?_
    refine RunL.nil ?_
    refine Run.inBlock ?_
    refine Run.region ?_
    refine RunL.ok (OpOk.addN _ 1 rfl rfl rfl rfl (by omega)) rfl ?_
    refine RunL.ok (OpOk.move rfl) rfl ?_
    refine RunL.nil ?_
    refine Run.jump ((ih (i + 1, _, zs.set i (t1, y5, bs1, y6, y7), ds ++ [(t1, y5, bs1, y6, y7)]) ⟨by dsimp only; omega, by dsimp only; rw [List.length_set, hzl], by dsimp only; rw [strL_set hzi hge y9, hzs], by dsimp only; rw [drop_setE, hdr2], hk4', by dsimp only; rw [take_setE hzi, hds]⟩ (by dsimp only; omega))) ⟨rfl, rfl, rfl, rfl, trivial⟩ (by simp only [ownsE_snoc, ← sep_assoc]; exact (Grew.of (Eq.trans (frc (frl (frl (frl (frl (frl rfl))))) (frc (frl (frl (frl (frl (frl rfl))))) (frc (frl rfl) (frc (frl rfl) (frc (frl rfl) (frc (frl (frl rfl)) (frc rfl (frc (frl rfl) rfl)))))))) (congrArg (· * _) (congrArg (· * _) (congrArg (· * _) (congrArg (· * _) (congrArg (· * _) (congrArg (· * _) (congrArg (· * _) (congrArg (· * _) (asg as1)))))))))) (Grew.refl _)))
  · obtain rfl : i = (top f).length := by omega
    clear ih
    rw [List.take_of_length_le (by omega)] at hds
    subst hds
    refine Run.seq ?_
    refine Run.region ?_
    refine RunL.ok (OpOk.asF (OpOk.lss rfl rfl) (by omega)) rfl ?_
    refine RunL.nil ?_
    refine Run.seq ?_
    refine Run.condF rfl ?_
    refine Run.exit rfl ?_
    refine Run.seq ?_
    refine Run.region ?_
    refine RunL.ok (OpOk.loadS rfl rfl ti66 rfl Blk.pts.left rfl) rfl ?_
    refine RunL.storeAll ti66 rfl rfl rfl (fun w hw => OneC.one (enc := encT66) ((t, b2, bs, e2, f)) w hw) rfl rfl ?_
    refine RunL.nil ?_
    refine Run.retC (A' := _) Try.func54 rfl rfl rfl ti66 rfl Blk.pts rfl (Grew.refl _) ?_
    refine ⟨b2, e2, untop ds, J * pts bx1 (.cells (Value.agg (encT66 (t, b2, bs, e2, f)).toArray).cells 66) * pts bx2 (.cells (Value.agg (encT66 (t, b2, bs, e2, f)).toArray).cells 66), rfl, by rw [← strL_top, top_untop, hzs, strL_top], ?_⟩
    rw [top_untop, hzl, ← sep_assoc, ← sep_assoc]
    exact (frc (frl (frl rfl)) (frc (frl (frl rfl)) (frc (frl (frl rfl)) rfl)))
end
end Go.Proofs.Ytlheianbmpgefaa
