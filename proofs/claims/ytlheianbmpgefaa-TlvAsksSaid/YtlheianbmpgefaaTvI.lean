/- copied for all; spoil. -/
import Derived.Test.YtlheianbmpgefaaTvH
namespace Go.Proofs.Ytlheianbmpgefaa
open Go Go.Proofs
set_option maxRecDepth 100000
set_option maxHeartbeats 4000000
set_option linter.unusedSimpArgs false
def Cspoil (w0 : World) (n : Nat) : Prop := ∀ (A : Asn) (u : Value) (xs : List Ee), dpT (strL xs) ≤ n →
  Spec Try.prog w0 34 [u] (A * own 66 3 u xs.length (Fl encT66 xs) * ownsE xs) (fun _ A' => ∃ J, A' = A * J)
theorem Fl_tag : ∀ {zs : List Ee} {i : Nat}, i < zs.length → ∀ {t : Int} {bv ev : SV} {bs : List UInt8} {f : Fo}, zs.getD i default = (t, bv, bs, ev, f) → ∀ z : Int, (Fl encT66 zs).set (i * 3 + 0) (.int .i64 z) = Fl encT66 (zs.set i (z, bv, bs, ev, f))
  | [], i, h, _, _, _, _, _, _, _ => by simp at h
  | x :: r, 0, h, t, bv, ev, bs, f, e, z => by
    simp only [List.getD_cons_zero] at e
    subst e
    rfl
  | x :: r, i + 1, h, t, bv, ev, bs, f, e, z => by
    obtain ⟨t2, bv2, bs2, ev2, f2⟩ := x
    have ih := Fl_tag (zs := r) (i := i) (by simpa using h) (by simpa using e) z
    rw [List.set_cons_succ, show Fl encT66 ((t2, bv2, bs2, ev2, f2) :: r) = encT66 (t2, bv2, bs2, ev2, f2) ++ Fl encT66 r from rfl, show Fl encT66 ((t2, bv2, bs2, ev2, f2) :: r.set i (z, bv, bs, ev, f)) = encT66 (t2, bv2, bs2, ev2, f2) ++ Fl encT66 (r.set i (z, bv, bs, ev, f)) from rfl, ← ih, show (i + 1) * 3 + 0 = (encT66 (t2, bv2, bs2, ev2, f2)).length + (i * 3 + 0) by show _ = 3 + _; omega, List.set_append_right _ _ (by omega), Nat.add_sub_cancel_left]
section
variable {w0 : World} {A : Asn} {n : Nat}
theorem s28a {u : Value} {m : Nat} {xs : List Ee} (rd : Rd w0 A u 3 m (Fl encT66 xs)) (al : Alls (GE w0) A xs) (hk : szT (strL xs)) (hm : m ≤ 2513169434843) :
    Spec Try.prog w0 28 [u] A (fun v' A' => ∃ ys J, strL ys = strL xs ∧ A' = A * J * own 66 3 v' ys.length (Fl encT66 ys) * ownsE ys) := copAll _ A u m xs (Nat.le_refl _) rd al hk hm
theorem s34 {u : Value} {xs : List Ee} (hrec : Cspoil w0 n) (hsz : dpT (strL xs) ≤ n) : Spec Try.prog w0 34 [u] (A * own 66 3 u xs.length (Fl encT66 xs) * ownsE xs) (fun _ A' => ∃ J, A' = A * J) := hrec A u xs hsz
theorem spoilAll : ∀ n, Cspoil w0 n := fun n => by
  induction n using Nat.strongRecOn with
  | ind n hall =>
  intro A u xs hsz
  refine Spec.of_run [(0, u)] Try.func34 rfl (Nat.le_of_ble_eq_true rfl) (by repeat (first | exact trivial | refine ⟨rfl, ?_⟩)) ?_
  rw [show ownsE xs = ownsE (xs.drop 0) from rfl]
  refine Run.seq ?_
  refine Run.region ?_
  refine RunL.ok (OpOk.assign rfl) rfl ?_
  refine RunL.nil ?_
  refine Run.block ?_
  refine Run.jump ((Run.loopJ (X := Nat × Asn × List Ee) (fun x => [(2, .int .i64 (x.1 : Int)), (0, u)]) (fun x => A * x.2.1 * own 66 3 u xs.length (Fl encT66 x.2.2) * ownsE (xs.drop x.1)) (fun x => x.1 ≤ xs.length ∧ x.2.2.length = xs.length ∧ x.2.2.drop x.1 = xs.drop x.1) (fun x => xs.length - x.1) (0, _, xs) ⟨Nat.zero_le _, rfl, rfl⟩ (fun x hx ih => ?_))) ⟨rfl, rfl, trivial⟩ (Grew.of (congrArg (· * _) (congrArg (· * _) as0)) (Grew.refl _))
  obtain ⟨i, J, zs⟩ := x
  simp only at hx ih ⊢
  obtain ⟨hi, hzl, hzd⟩ := hx
  rcases Nat.lt_or_ge i xs.length with hlt | hge
  · obtain ⟨o, hoe⟩ : ∃ o, xs.getD i default = o := ⟨_, rfl⟩
    have hze : zs.getD i default = o := by
      rw [drop_next (by omega), drop_next hlt] at hzd
      rw [← hoe]
      exact (List.cons.inj hzd).1
    have hzn : zs.drop (i + 1) = xs.drop (i + 1) := by
      rw [drop_next (by omega), drop_next hlt] at hzd
      exact (List.cons.inj hzd).2
    obtain ⟨t, bv, bs, ev, f⟩ := o
    have hdp := dpT_at hlt hoe
    have hrec : Cspoil w0 (n - 1) := hall (n - 1) (by omega)
    rw [ownsE_drop hlt hoe]
    simp only [← sep_assoc]
    refine Run.seq ?_
    refine Run.seq ?_
    refine Run.region ?_
    refine RunL.ok (OpOk.move rfl) rfl ?_
    refine RunL.ok (OpOk.move rfl) rfl ?_
    refine RunL.know (fun w s => (s.conv (frl (frl (frl (frl rfl))))).ownRd0) (fun rdy1 => ?_)
    refine RunL.ok (OpOk.lenR rfl rfl (Rd.right rdy1).left.left.left.left rfl) rfl ?_
    refine RunL.ok (OpOk.asT (OpOk.lss rfl rfl) (by omega)) rfl ?_
    refine RunL.nil ?_
    refine Run.condT rfl ?_
    refine Run.skip ?_
    refine Run.seq ?_
    refine Run.block ?_
    refine Run.seq ?_
    refine Run.seq ?_
    refine Run.region ?_
    refine RunL.ok (OpOk.assign rfl) rfl ?_
    refine RunL.nil ?_
    refine Run.block ?_
    refine Run.jump ((Run.loopJ (X := Nat × List UInt8) (fun x => [(3, .int .i64 (x.1 : Int)), (2, .int .i64 (i : Int)), (0, u)]) (fun x => A * J * own 66 3 u xs.length (Fl encT66 zs) * ownsE (xs.drop (i + 1)) * own 5 1 bv.1 bs.length (B x.2) * own 66 3 ev.1 (top f).length (Fl encT66 (top f)) * ownsE (top f)) (fun x => x.1 ≤ bs.length ∧ x.2.length = bs.length) (fun x => bs.length - x.1) (0, bs) ⟨Nat.zero_le _, rfl⟩ (fun x hx ih2 => ?_))) ⟨rfl, rfl, rfl, trivial⟩ ((Grew.refl _))
    obtain ⟨k, cs⟩ := x
    simp only at hx ih2 ⊢
    obtain ⟨hk, hcl⟩ := hx
    rcases Nat.lt_or_ge k bs.length with hk1 | hk1
    · refine Run.know (fun w s => Sat.ownRd0 (A := A * J * own 66 3 u xs.length (Fl encT66 zs) * ownsE (xs.drop (i + 1)) * own 66 3 ev.1 (top f).length (Fl encT66 (top f)) * ownsE (top f)) (s.conv (by ac_rfl))) (fun rdK => ?_)
      have hkm := rdK.max
      refine Run.seq ?_
      refine Run.seq ?_
      refine Run.region ?_
      refine RunL.ok (OpOk.move rfl) rfl ?_
      refine RunL.ok (OpOk.move rfl) rfl ?_
      refine RunL.ok (OpOk.move rfl) rfl ?_
      refine RunL.ok (OpOk.idxN rfl ti66 rfl (Rd.right rdy1).left.left.left.left rfl (by omega)) rfl ?_
      refine RunL.ok (OpOk.fieldAddrA fld66_1 rfl) rfl ?_
      refine RunL.ok (OpOk.loadFl1E hze rfl rfl rfl (Rd.right rdy1).left.left.left.left (fun _ => rfl) rfl (by omega) rfl) rfl ?_
      refine RunL.ok (OpOk.lenR rfl rfl (Rd.right rdK).left.left rfl) rfl ?_
      refine RunL.ok (OpOk.asT (OpOk.lss rfl rfl) (by omega)) rfl ?_
      refine RunL.nil ?_
      refine Run.condT rfl ?_
      refine Run.skip ?_
      refine Run.seq ?_
      refine Run.block ?_
      refine Run.know (fun w s => (s.conv (frl rfl)).ownRd0) (fun rdz1 => ?_)
      (apply Run.drawD [16] (by rfl) (sep_emp _).symm; case hchk => kernel_rfl)
      refine Sd.quiet 0 _ _ rfl rfl rfl rfl rfl (QOp.ok (fun X => OpOk.move rfl)) ?_
      refine Sd.quiet 1 _ _ rfl rfl rfl rfl rfl (QOp.ok (fun X => OpOk.move rfl)) ?_
      refine Sd.quiet 2 _ _ rfl rfl rfl rfl rfl (QOp.ok (fun X => OpOk.idxN rfl ti66 rfl (Rd.right rdy1).left.left.left.left.left.left rfl (by omega))) ?_
      refine Sd.quiet 3 _ _ rfl rfl rfl rfl rfl (QOp.ok (fun X => OpOk.fieldAddrA fld66_1 rfl)) ?_
      refine Sd.quiet 4 _ _ rfl rfl rfl rfl rfl (QOp.ok (fun X => OpOk.loadFl1E hze rfl rfl rfl (Rd.right rdy1).left.left.left.left.left.left (fun _ => rfl) rfl (by omega) rfl)) ?_
      refine Sd.quiet 5 _ _ rfl rfl rfl rfl rfl (QOp.ok (fun X => OpOk.move rfl)) ?_
      refine Sd.quiet 6 _ _ rfl rfl rfl rfl rfl (QOp.ok (fun X => OpOk.move rfl)) ?_
      refine Sd.quiet 7 _ _ rfl rfl rfl rfl rfl (QOp.ok (fun X => OpOk.move rfl)) ?_
      refine Sd.quiet 8 _ _ rfl rfl rfl rfl rfl (QOp.ok (fun X => OpOk.idxN rfl ti66 rfl (Rd.right rdy1).left.left.left.left.left.left rfl (by omega))) ?_
      refine Sd.quiet 9 _ _ rfl rfl rfl rfl rfl (QOp.ok (fun X => OpOk.fieldAddrA fld66_1 rfl)) ?_
      refine Sd.quiet 10 _ _ rfl rfl rfl rfl rfl (QOp.ok (fun X => OpOk.loadFl1E hze rfl rfl rfl (Rd.right rdy1).left.left.left.left.left.left (fun _ => rfl) rfl (by omega) rfl)) ?_
      refine Sd.quiet 11 _ _ rfl rfl rfl rfl rfl (QOp.ok (fun X => OpOk.move rfl)) ?_
      refine Sd.quiet 12 _ _ rfl rfl rfl rfl rfl (QOp.ok (fun X => OpOk.idx1N rfl ti5 rfl (Rd.right rdK).left.left.left.left rfl (by omega))) ?_
      refine Sd.quiet 13 _ _ rfl rfl rfl rfl rfl (QOp.ok (fun X => OpOk.load rfl rfl rfl (Rd.getB (Rd.right rdK).left.left.left.left (by omega)))) ?_
      refine Sd.quiet 14 _ _ rfl rfl rfl rfl rfl (QOp.ok (fun X => OpOk.xor rfl rfl (x255 _))) ?_
      refine Sd.quiet 15 _ _ rfl rfl rfl rfl rfl (QOp.ok (fun X => OpOk.idx1N rfl ti5 rfl (Rd.right rdK).left.left.left.left rfl (by omega))) ?_
      (apply Sd.tail; case hall => kernel_rfl)
      refine RunL.mem (fl2 (sep_emp _) (sep_emp _)) ?_
      refine RunL.storeB _ ti5 rfl rfl rfl (frl (frl rfl)) (by omega) ?_
      refine RunL.nil ?_
      refine Run.inBlock ?_
      refine Run.region ?_
      refine RunL.ok (OpOk.move rfl) rfl ?_
      refine RunL.ok (OpOk.addN _ 1 rfl rfl rfl rfl (by omega)) rfl ?_
      refine RunL.ok (OpOk.assign rfl) rfl ?_
      refine RunL.nil ?_
      refine Run.jump ((ih2 (k + 1, _) ⟨by dsimp only; omega, by simp [hcl]⟩ (by dsimp only; omega))) ⟨rfl, rfl, rfl, trivial⟩ (Grew.of (frc (frl rfl) (frc (frl rfl) rfl)) (Grew.refl _))
    · clear ih2
      have hmx := rdy1.max
      refine Run.seq ?_
      refine Run.seq ?_
      refine Run.region ?_
      refine RunL.ok (OpOk.move rfl) rfl ?_
      refine RunL.ok (OpOk.move rfl) rfl ?_
      refine RunL.ok (OpOk.move rfl) rfl ?_
      refine RunL.ok (OpOk.idxN rfl ti66 rfl (Rd.right rdy1).left.left.left.left rfl (by omega)) rfl ?_
      refine RunL.ok (OpOk.fieldAddrA fld66_1 rfl) rfl ?_
      refine RunL.ok (OpOk.loadFl1E hze rfl rfl rfl (Rd.right rdy1).left.left.left.left (fun _ => rfl) rfl (by omega) rfl) rfl ?_
      refine RunL.know (fun w s => (s.conv (frl (frl rfl))).ownRd0) (fun rdz1 => ?_)
      refine RunL.ok (OpOk.lenR rfl rfl (Rd.right rdz1).left.left rfl) rfl ?_
      refine RunL.ok (OpOk.asF (OpOk.lss rfl rfl) (by omega)) rfl ?_
      refine RunL.nil ?_
      refine Run.condF rfl ?_
      refine Run.exit rfl ?_
      refine Run.seq ?_
      refine Run.region ?_
      refine RunL.ok (OpOk.move rfl) rfl ?_
      refine RunL.ok (OpOk.move rfl) rfl ?_
      refine RunL.ok (OpOk.idxN rfl ti66 rfl (Rd.right rdy1).left.left.left.left rfl (by omega)) rfl ?_
      refine RunL.ok (OpOk.fieldAddrA fld66_2 rfl) rfl ?_
      refine RunL.ok (OpOk.loadFl1E hze rfl rfl rfl (Rd.right rdy1).left.left.left.left (fun _ => rfl) rfl (by omega) rfl) rfl ?_
      refine RunL.know (fun w s => (s.conv (frl (frl (frl rfl)))).ownsE0) (fun alz2 => ?_)
      refine RunL.know (fun w s => (s.conv rfl).ownsE0) (fun alz3 => ?_)
      refine RunL.call cal34 rfl (s34 (by assumption) (by omega)) rfl (fun vz4 Az4 hz4 => ?_)
      obtain ⟨z5, rfl⟩ := hz4
      refine RunL.nil ?_
      refine Run.region ?_
      refine RunL.ok (OpOk.move rfl) rfl ?_
      refine RunL.ok (OpOk.move rfl) rfl ?_
      refine RunL.ok (OpOk.idxN rfl ti66 rfl (Rd.right rdy1).left.left.left rfl (by omega)) rfl ?_
      refine RunL.ok (OpOk.fieldAddrA fld66_0 rfl) rfl ?_
      refine RunL.storeOwn ti3 rfl rfl rfl (frl (frl (frl rfl))) (by omega) ?_
      refine RunL.nil ?_
      refine Run.inBlock ?_
      refine Run.region ?_
      refine RunL.ok (OpOk.move rfl) rfl ?_
      refine RunL.ok (OpOk.addN _ 1 rfl rfl rfl rfl (by omega)) rfl ?_
      refine RunL.ok (OpOk.assign rfl) rfl ?_
      refine RunL.nil ?_
      rw [Fl_tag (by omega) hze]
      refine Run.jump ((ih (i + 1, _, zs.set i (-1, bv, bs, ev, f)) ⟨by dsimp only; omega, by dsimp only; rw [List.length_set]; exact hzl, by dsimp only; rw [List.drop_set_of_lt (by omega)]; exact hzn⟩ (by dsimp only; omega))) ⟨rfl, rfl, trivial⟩ (Grew.of (Eq.trans (frc (frl (frl (frl rfl))) rfl) (congrArg (· * _) (congrArg (· * _) (asg (asg as1))))) (Grew.refl _))
  · obtain rfl : i = xs.length := by omega
    clear ih
    refine Run.seq ?_
    refine Run.seq ?_
    refine Run.region ?_
    refine RunL.ok (OpOk.move rfl) rfl ?_
    refine RunL.ok (OpOk.move rfl) rfl ?_
    refine RunL.know (fun w s => (s.conv (frl rfl)).ownRd0) (fun rdy1 => ?_)
    refine RunL.ok (OpOk.lenR rfl rfl (Rd.right rdy1).left rfl) rfl ?_
    refine RunL.ok (OpOk.asF (OpOk.lss rfl rfl) (by omega)) rfl ?_
    refine RunL.nil ?_
    refine Run.condF rfl ?_
    refine Run.exit rfl ?_
    refine Run.fall0 Try.func34 rfl ?_
    exact ⟨_, (asg (asg as1))⟩
theorem s34a {u : Value} {xs : List Ee} : Spec Try.prog w0 34 [u] (A * own 66 3 u xs.length (Fl encT66 xs) * ownsE xs) (fun _ A' => ∃ J, A' = A * J) := spoilAll _ A u xs (Nat.le_refl _)
end
end Go.Proofs.Ytlheianbmpgefaa
