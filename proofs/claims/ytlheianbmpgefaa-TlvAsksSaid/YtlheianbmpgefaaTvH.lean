/- Same of the reference; copied, spoil. -/
import Derived.Test.YtlheianbmpgefaaTvD
namespace Go.Proofs.Ytlheianbmpgefaa
open Go Go.Proofs
set_option maxRecDepth 100000
set_option maxHeartbeats 4000000
set_option linter.unusedSimpArgs false
def Csame (w0 : World) (n : Nat) : Prop := ∀ (A : Asn) (u u2 : Value) (m m2 : Nat) (xs ys : List Ee), dpT (strL xs) ≤ n → Rd w0 A u 3 m (Fl encT66 xs) → Alls (GE w0) A xs → Rd w0 A u2 3 m2 (Fl encT66 ys) → Alls (GE w0) A ys →
  Spec Try.prog w0 31 [u, u2] A (fun v' A' => ∃ J, v' = .bool (decide (strL xs = strL ys)) ∧ A' = A * J)
section
variable {w0 : World} {A : Asn} {n : Nat}
theorem s31 {u u2 : Value} {m m2 : Nat} {xs ys : List Ee} (rd : Rd w0 A u 3 m (Fl encT66 xs)) (al : Alls (GE w0) A xs) (rd2 : Rd w0 A u2 3 m2 (Fl encT66 ys)) (al2 : Alls (GE w0) A ys) (hrec : Csame w0 n) (hsz : dpT (strL xs) ≤ n) :
    Spec Try.prog w0 31 [u, u2] A (fun v' A' => ∃ J, v' = .bool (decide (strL xs = strL ys)) ∧ A' = A * J) := hrec A u u2 m m2 xs ys hsz rd al rd2 al2
theorem refSameAll : ∀ n, Csame w0 n := fun n => by
  induction n using Nat.strongRecOn with
  | ind n hall =>
  intro A u u2 m m2 xs ys hsz rd al rd2 al2
  have hl := rd.lenFl (fun _ => rfl) (by decide)
  have hl2 := rd2.lenFl (fun _ => rfl) (by decide)
  subst hl hl2
  have hmx := rd.max
  have hmx2 := rd2.max
  refine Spec.of_run [(0, u), (1, u2)] Try.func31 rfl (Nat.le_of_ble_eq_true rfl) (by repeat (first | exact trivial | refine ⟨rfl, ?_⟩)) ?_
  rcases Decidable.em (xs.length = ys.length) with he | he
  · refine Run.seq ?_
    refine Run.region ?_
    refine RunL.ok (OpOk.assign rfl) rfl ?_
    refine RunL.nil ?_
    refine Run.seq ?_
    refine Run.seq ?_
    refine Run.region ?_
    refine RunL.ok (OpOk.move rfl) rfl ?_
    refine RunL.ok (OpOk.lenR rfl rfl rd rfl) rfl ?_
    refine RunL.ok (OpOk.move rfl) rfl ?_
    refine RunL.ok (OpOk.lenR rfl rfl rd2 rfl) rfl ?_
    refine RunL.ok (OpOk.as (c := false) (OpOk.neq rfl rfl) (by rw [decide_eq_true (by omega)]; rfl)) rfl ?_
    refine RunL.nil ?_
    refine Run.condF rfl ?_
    refine Run.skip ?_
    refine Run.seq ?_
    refine Run.seq ?_
    refine Run.region ?_
    refine RunL.ok (OpOk.assign rfl) rfl ?_
    refine RunL.nil ?_
    refine Run.block ?_
    refine Run.jump ((Run.loopJ (X := Nat × Asn) (fun x => [(5, .int .i64 (x.1 : Int)), (0, u), (1, u2)]) (fun x => A * x.2) (fun x => x.1 ≤ xs.length ∧ (strL xs = strL ys ↔ strL (xs.drop x.1) = strL (ys.drop x.1))) (fun x => xs.length - x.1) (0, _) ⟨Nat.zero_le _, Iff.rfl⟩ (fun x hx ih => ?_))) ⟨rfl, rfl, rfl, trivial⟩ (Grew.of as0 (Grew.refl _))
    obtain ⟨i, J⟩ := x
    simp only at hx ih ⊢
    obtain ⟨hi, hdr⟩ := hx
    rcases Nat.lt_or_ge i xs.length with hlt | hge
    · have hg := al.get hlt
      have hg2 := al2.get (i := i) (by omega)
      obtain ⟨o, hoe⟩ : ∃ o, xs.getD i default = o := ⟨_, rfl⟩
      obtain ⟨o2, hoe2⟩ : ∃ o, ys.getD i default = o := ⟨_, rfl⟩
      rw [hoe] at hg
      rw [hoe2] at hg2
      obtain ⟨t, bv, bs, ev, f⟩ := o
      obtain ⟨t2, bv2, bs2, ev2, f2⟩ := o2
      obtain ⟨hgb, hgr, hgf⟩ := hg
      obtain ⟨hgb2, hgr2, hgf2⟩ := hg2
      have hga := GFo.alls hgf
      have hga2 := GFo.alls hgf2
      dsimp only at hgb hgr hga hgb2 hgr2 hga2
      have hdp := dpT_at hlt hoe
      have hrec : Csame w0 (n - 1) := hall (n - 1) (by omega)
      rw [strL_drop hlt hoe, strL_drop (by omega) hoe2, Te.cons.injEq, ← strL_top, ← strL_top] at hdr
      rcases Decidable.em (t = t2) with h1 | h1
      · rcases Decidable.em (bs = bs2) with h2 | h2
        · rcases Decidable.em (strL (top f) = strL (top f2)) with h3 | h3
          · have hdr2 := hdr.trans ⟨fun h => h.2.2.2, fun h => ⟨h1, h2, h3, h⟩⟩
            refine Run.seq ?_
            refine Run.seq ?_
            refine Run.region ?_
            refine RunL.ok (OpOk.move rfl) rfl ?_
            refine RunL.ok (OpOk.move rfl) rfl ?_
            refine RunL.ok (OpOk.lenR rfl rfl rd.left rfl) rfl ?_
            refine RunL.ok (OpOk.asT (OpOk.lss rfl rfl) (by omega)) rfl ?_
            refine RunL.nil ?_
            refine Run.condT rfl ?_
            refine Run.skip ?_
            refine Run.seq ?_
            refine Run.block ?_
            refine Run.seq ?_
            (apply Run.drawD [] (by rfl) (sep_emp _).symm; case hchk => kernel_rfl)
            refine Sd.quiet 0 _ _ rfl rfl rfl rfl rfl (QOp.ok (fun X => OpOk.move rfl)) ?_
            refine Sd.quiet 1 _ _ rfl rfl rfl rfl rfl (QOp.ok (fun X => OpOk.move rfl)) ?_
            refine Sd.quiet 2 _ _ rfl rfl rfl rfl rfl (QOp.ok (fun X => OpOk.idxN rfl ti66 rfl rd.left.left.left rfl (by omega))) ?_
            refine Sd.quiet 3 _ _ rfl rfl rfl rfl rfl (QOp.ok (fun X => OpOk.fieldAddrA fld66_0 rfl)) ?_
            refine Sd.quiet 4 _ _ rfl rfl rfl rfl rfl (QOp.ok (fun X => OpOk.loadFl1E hoe rfl rfl rfl rd.left.left.left (fun _ => rfl) rfl (by omega) rfl)) ?_
            refine Sd.quiet 5 _ _ rfl rfl rfl rfl rfl (QOp.ok (fun X => OpOk.move rfl)) ?_
            refine Sd.quiet 6 _ _ rfl rfl rfl rfl rfl (QOp.ok (fun X => OpOk.move rfl)) ?_
            refine Sd.quiet 7 _ _ rfl rfl rfl rfl rfl (QOp.ok (fun X => OpOk.idxN rfl ti66 rfl rd2.left.left.left rfl (by omega))) ?_
            refine Sd.quiet 8 _ _ rfl rfl rfl rfl rfl (QOp.ok (fun X => OpOk.fieldAddrA fld66_0 rfl)) ?_
            refine Sd.quiet 9 _ _ rfl rfl rfl rfl rfl (QOp.ok (fun X => OpOk.loadFl1E hoe2 rfl rfl rfl rd2.left.left.left (fun _ => rfl) rfl (by omega) rfl)) ?_
            refine Sd.quiet 10 _ _ rfl rfl rfl rfl rfl (QOp.ok (fun X => OpOk.as (c := false) (OpOk.neq rfl rfl) (by rw [decide_eq_true (by omega)]; rfl))) ?_
            refine Sd.quiet 11 _ _ rfl rfl rfl rfl rfl (QOp.ok (fun X => OpOk.move rfl)) ?_
            refine Sd.quiet 12 _ _ rfl rfl rfl rfl rfl (QOp.ok (fun X => OpOk.move rfl)) ?_
            refine Sd.quiet 13 _ _ rfl rfl rfl rfl rfl (QOp.ok (fun X => OpOk.move rfl)) ?_
            refine Sd.quiet 14 _ _ rfl rfl rfl rfl rfl (QOp.ok (fun X => OpOk.idxN rfl ti66 rfl rd.left.left.left rfl (by omega))) ?_
            refine Sd.quiet 15 _ _ rfl rfl rfl rfl rfl (QOp.ok (fun X => OpOk.fieldAddrA fld66_1 rfl)) ?_
            refine Sd.quiet 16 _ _ rfl rfl rfl rfl rfl (QOp.ok (fun X => OpOk.loadFl1E hoe rfl rfl rfl rd.left.left.left (fun _ => rfl) rfl (by omega) rfl)) ?_
            refine Sd.quiet 17 _ _ rfl rfl rfl rfl rfl (QOp.ok (fun X => OpOk.strOf rfl rfl rfl rfl hgb.left.left.left)) ?_
            refine Sd.quiet 18 _ _ rfl rfl rfl rfl rfl (QOp.ok (fun X => OpOk.move rfl)) ?_
            refine Sd.quiet 19 _ _ rfl rfl rfl rfl rfl (QOp.ok (fun X => OpOk.move rfl)) ?_
            refine Sd.quiet 20 _ _ rfl rfl rfl rfl rfl (QOp.ok (fun X => OpOk.idxN rfl ti66 rfl rd2.left.left.left rfl (by omega))) ?_
            refine Sd.quiet 21 _ _ rfl rfl rfl rfl rfl (QOp.ok (fun X => OpOk.fieldAddrA fld66_1 rfl)) ?_
            refine Sd.quiet 22 _ _ rfl rfl rfl rfl rfl (QOp.ok (fun X => OpOk.loadFl1E hoe2 rfl rfl rfl rd2.left.left.left (fun _ => rfl) rfl (by omega) rfl)) ?_
            refine Sd.quiet 23 _ _ rfl rfl rfl rfl rfl (QOp.ok (fun X => OpOk.strOf rfl rfl rfl rfl hgb2.left.left.left)) ?_
            refine Sd.quiet 24 _ _ rfl rfl rfl rfl rfl (QOp.ok (fun X => OpOk.as (c := false) (OpOk.neqSS rfl rfl) (by rw [decide_eq_true (by omega)]; rfl))) ?_
            refine Sd.quiet 25 _ _ rfl rfl rfl rfl rfl (QOp.ok (fun X => OpOk.pickF rfl rfl)) ?_
            refine Sd.quiet 26 _ _ rfl rfl rfl rfl rfl (QOp.ok (fun X => OpOk.move rfl)) ?_
            refine Sd.quiet 27 _ _ rfl rfl rfl rfl rfl (QOp.ok (fun X => OpOk.move rfl)) ?_
            refine Sd.quiet 28 _ _ rfl rfl rfl rfl rfl (QOp.ok (fun X => OpOk.move rfl)) ?_
            refine Sd.quiet 29 _ _ rfl rfl rfl rfl rfl (QOp.ok (fun X => OpOk.idxN rfl ti66 rfl rd.left.left.left rfl (by omega))) ?_
            refine Sd.quiet 30 _ _ rfl rfl rfl rfl rfl (QOp.ok (fun X => OpOk.fieldAddrA fld66_2 rfl)) ?_
            refine Sd.quiet 31 _ _ rfl rfl rfl rfl rfl (QOp.ok (fun X => OpOk.loadFl1E hoe rfl rfl rfl rd.left.left.left (fun _ => rfl) rfl (by omega) rfl)) ?_
            refine Sd.quiet 32 _ _ rfl rfl rfl rfl rfl (QOp.ok (fun X => OpOk.move rfl)) ?_
            refine Sd.quiet 33 _ _ rfl rfl rfl rfl rfl (QOp.ok (fun X => OpOk.move rfl)) ?_
            refine Sd.quiet 34 _ _ rfl rfl rfl rfl rfl (QOp.ok (fun X => OpOk.idxN rfl ti66 rfl rd2.left.left.left rfl (by omega))) ?_
            refine Sd.quiet 35 _ _ rfl rfl rfl rfl rfl (QOp.ok (fun X => OpOk.fieldAddrA fld66_2 rfl)) ?_
            refine Sd.quiet 36 _ _ rfl rfl rfl rfl rfl (QOp.ok (fun X => OpOk.loadFl1E hoe2 rfl rfl rfl rd2.left.left.left (fun _ => rfl) rfl (by omega) rfl)) ?_
            (refine Sd.exec 37 rfl rfl rfl rfl rfl ?hrest (by rfl) (fun Xy1 Ky1 hKy1 => ?_); case hrest => kernel_rfl)
            refine RunL.mem (fl2 (sep_emp _) (sep_emp _)) ?_
            refine RunL.call cal31 rfl (s31 hgr.left.left hga.left.left hgr2.left.left hga2.left.left (by assumption) (by omega)) rfl (fun vy2 Ay2 hy2 => ?_)
            obtain ⟨y3, ⟨rfl, rfl⟩⟩ := hy2
            refine Sd.ret hKy1 (Eq.trans rfl (gp2 (sep_emp _).symm rfl)) ⟨_, (emp_sep _).symm⟩ ?_
            refine Sd.quiet 38 _ _ rfl rfl rfl rfl rfl (QOp.ok (fun X => OpOk.not rfl)) ?_
            refine Sd.quiet 39 _ _ rfl rfl rfl rfl rfl (QOp.ok (fun X => OpOk.pickF rfl rfl)) ?_
            (apply Sd.tail; case hall => kernel_rfl)
            refine RunL.mem (fl2 rfl (sep_emp _)) ?_
            refine RunL.nil ?_
            refine Run.condNF rfl (by first | omega | with_reducible rfl | assumption) ?_
            refine Run.skip ?_
            refine Run.inBlock ?_
            refine Run.region ?_
            refine RunL.ok (OpOk.move rfl) rfl ?_
            refine RunL.ok (OpOk.addN _ 1 rfl rfl rfl rfl (by omega)) rfl ?_
            refine RunL.ok (OpOk.assign rfl) rfl ?_
            refine RunL.nil ?_
            refine Run.jump ((ih (i + 1, _) ⟨by dsimp only; omega, hdr2⟩ (by dsimp only; omega))) ⟨rfl, rfl, rfl, trivial⟩ (Grew.of (asg as1) (Grew.refl _))
          · have hdr2 : ¬ strL xs = strL ys := fun h => h3 (hdr.1 h).2.2.1
            refine Run.seq ?_
            refine Run.seq ?_
            refine Run.region ?_
            refine RunL.ok (OpOk.move rfl) rfl ?_
            refine RunL.ok (OpOk.move rfl) rfl ?_
            refine RunL.ok (OpOk.lenR rfl rfl rd.left rfl) rfl ?_
            refine RunL.ok (OpOk.asT (OpOk.lss rfl rfl) (by omega)) rfl ?_
            refine RunL.nil ?_
            refine Run.condT rfl ?_
            refine Run.skip ?_
            refine Run.seq ?_
            refine Run.block ?_
            refine Run.seq ?_
            (apply Run.drawD [] (by rfl) (sep_emp _).symm; case hchk => kernel_rfl)
            refine Sd.quiet 0 _ _ rfl rfl rfl rfl rfl (QOp.ok (fun X => OpOk.move rfl)) ?_
            refine Sd.quiet 1 _ _ rfl rfl rfl rfl rfl (QOp.ok (fun X => OpOk.move rfl)) ?_
            refine Sd.quiet 2 _ _ rfl rfl rfl rfl rfl (QOp.ok (fun X => OpOk.idxN rfl ti66 rfl rd.left.left.left rfl (by omega))) ?_
            refine Sd.quiet 3 _ _ rfl rfl rfl rfl rfl (QOp.ok (fun X => OpOk.fieldAddrA fld66_0 rfl)) ?_
            refine Sd.quiet 4 _ _ rfl rfl rfl rfl rfl (QOp.ok (fun X => OpOk.loadFl1E hoe rfl rfl rfl rd.left.left.left (fun _ => rfl) rfl (by omega) rfl)) ?_
            refine Sd.quiet 5 _ _ rfl rfl rfl rfl rfl (QOp.ok (fun X => OpOk.move rfl)) ?_
            refine Sd.quiet 6 _ _ rfl rfl rfl rfl rfl (QOp.ok (fun X => OpOk.move rfl)) ?_
            refine Sd.quiet 7 _ _ rfl rfl rfl rfl rfl (QOp.ok (fun X => OpOk.idxN rfl ti66 rfl rd2.left.left.left rfl (by omega))) ?_
            refine Sd.quiet 8 _ _ rfl rfl rfl rfl rfl (QOp.ok (fun X => OpOk.fieldAddrA fld66_0 rfl)) ?_
            refine Sd.quiet 9 _ _ rfl rfl rfl rfl rfl (QOp.ok (fun X => OpOk.loadFl1E hoe2 rfl rfl rfl rd2.left.left.left (fun _ => rfl) rfl (by omega) rfl)) ?_
            refine Sd.quiet 10 _ _ rfl rfl rfl rfl rfl (QOp.ok (fun X => OpOk.as (c := false) (OpOk.neq rfl rfl) (by rw [decide_eq_true (by omega)]; rfl))) ?_
            refine Sd.quiet 11 _ _ rfl rfl rfl rfl rfl (QOp.ok (fun X => OpOk.move rfl)) ?_
            refine Sd.quiet 12 _ _ rfl rfl rfl rfl rfl (QOp.ok (fun X => OpOk.move rfl)) ?_
            refine Sd.quiet 13 _ _ rfl rfl rfl rfl rfl (QOp.ok (fun X => OpOk.move rfl)) ?_
            refine Sd.quiet 14 _ _ rfl rfl rfl rfl rfl (QOp.ok (fun X => OpOk.idxN rfl ti66 rfl rd.left.left.left rfl (by omega))) ?_
            refine Sd.quiet 15 _ _ rfl rfl rfl rfl rfl (QOp.ok (fun X => OpOk.fieldAddrA fld66_1 rfl)) ?_
            refine Sd.quiet 16 _ _ rfl rfl rfl rfl rfl (QOp.ok (fun X => OpOk.loadFl1E hoe rfl rfl rfl rd.left.left.left (fun _ => rfl) rfl (by omega) rfl)) ?_
            refine Sd.quiet 17 _ _ rfl rfl rfl rfl rfl (QOp.ok (fun X => OpOk.strOf rfl rfl rfl rfl hgb.left.left.left)) ?_
            refine Sd.quiet 18 _ _ rfl rfl rfl rfl rfl (QOp.ok (fun X => OpOk.move rfl)) ?_
            refine Sd.quiet 19 _ _ rfl rfl rfl rfl rfl (QOp.ok (fun X => OpOk.move rfl)) ?_
            refine Sd.quiet 20 _ _ rfl rfl rfl rfl rfl (QOp.ok (fun X => OpOk.idxN rfl ti66 rfl rd2.left.left.left rfl (by omega))) ?_
            refine Sd.quiet 21 _ _ rfl rfl rfl rfl rfl (QOp.ok (fun X => OpOk.fieldAddrA fld66_1 rfl)) ?_
            refine Sd.quiet 22 _ _ rfl rfl rfl rfl rfl (QOp.ok (fun X => OpOk.loadFl1E hoe2 rfl rfl rfl rd2.left.left.left (fun _ => rfl) rfl (by omega) rfl)) ?_
            refine Sd.quiet 23 _ _ rfl rfl rfl rfl rfl (QOp.ok (fun X => OpOk.strOf rfl rfl rfl rfl hgb2.left.left.left)) ?_
            refine Sd.quiet 24 _ _ rfl rfl rfl rfl rfl (QOp.ok (fun X => OpOk.as (c := false) (OpOk.neqSS rfl rfl) (by rw [decide_eq_true (by omega)]; rfl))) ?_
            refine Sd.quiet 25 _ _ rfl rfl rfl rfl rfl (QOp.ok (fun X => OpOk.pickF rfl rfl)) ?_
            refine Sd.quiet 26 _ _ rfl rfl rfl rfl rfl (QOp.ok (fun X => OpOk.move rfl)) ?_
            refine Sd.quiet 27 _ _ rfl rfl rfl rfl rfl (QOp.ok (fun X => OpOk.move rfl)) ?_
            refine Sd.quiet 28 _ _ rfl rfl rfl rfl rfl (QOp.ok (fun X => OpOk.move rfl)) ?_
            refine Sd.quiet 29 _ _ rfl rfl rfl rfl rfl (QOp.ok (fun X => OpOk.idxN rfl ti66 rfl rd.left.left.left rfl (by omega))) ?_
            refine Sd.quiet 30 _ _ rfl rfl rfl rfl rfl (QOp.ok (fun X => OpOk.fieldAddrA fld66_2 rfl)) ?_
            refine Sd.quiet 31 _ _ rfl rfl rfl rfl rfl (QOp.ok (fun X => OpOk.loadFl1E hoe rfl rfl rfl rd.left.left.left (fun _ => rfl) rfl (by omega) rfl)) ?_
            refine Sd.quiet 32 _ _ rfl rfl rfl rfl rfl (QOp.ok (fun X => OpOk.move rfl)) ?_
            refine Sd.quiet 33 _ _ rfl rfl rfl rfl rfl (QOp.ok (fun X => OpOk.move rfl)) ?_
            refine Sd.quiet 34 _ _ rfl rfl rfl rfl rfl (QOp.ok (fun X => OpOk.idxN rfl ti66 rfl rd2.left.left.left rfl (by omega))) ?_
            refine Sd.quiet 35 _ _ rfl rfl rfl rfl rfl (QOp.ok (fun X => OpOk.fieldAddrA fld66_2 rfl)) ?_
            refine Sd.quiet 36 _ _ rfl rfl rfl rfl rfl (QOp.ok (fun X => OpOk.loadFl1E hoe2 rfl rfl rfl rd2.left.left.left (fun _ => rfl) rfl (by omega) rfl)) ?_
            (refine Sd.exec 37 rfl rfl rfl rfl rfl ?hrest (by rfl) (fun Xy1 Ky1 hKy1 => ?_); case hrest => kernel_rfl)
            refine RunL.mem (fl2 (sep_emp _) (sep_emp _)) ?_
            refine RunL.call cal31 rfl (s31 hgr.left.left hga.left.left hgr2.left.left hga2.left.left (by assumption) (by omega)) rfl (fun vy2 Ay2 hy2 => ?_)
            obtain ⟨y3, ⟨rfl, rfl⟩⟩ := hy2
            refine Sd.ret hKy1 (Eq.trans rfl (gp2 (sep_emp _).symm rfl)) ⟨_, (emp_sep _).symm⟩ ?_
            refine Sd.quiet 38 _ _ rfl rfl rfl rfl rfl (QOp.ok (fun X => OpOk.not rfl)) ?_
            refine Sd.quiet 39 _ _ rfl rfl rfl rfl rfl (QOp.ok (fun X => OpOk.pickF rfl rfl)) ?_
            (apply Sd.tail; case hall => kernel_rfl)
            refine RunL.mem (fl2 rfl (sep_emp _)) ?_
            refine RunL.nil ?_
            refine Run.condNT rfl (by first | omega | assumption) ?_
            refine Run.seq ?_
            refine Run.region ?_
            refine RunL.ok (OpOk.assign rfl) rfl ?_
            refine RunL.nil ?_
            refine Run.ret1 Try.func31 rfl rfl ?_
            exact ⟨J * y3, by rw [decide_eq_false hdr2], sep_assoc _ _ _⟩
        · have hdr2 : ¬ strL xs = strL ys := fun h => h2 (hdr.1 h).2.1
          refine Run.seq ?_
          refine Run.seq ?_
          refine Run.region ?_
          refine RunL.ok (OpOk.move rfl) rfl ?_
          refine RunL.ok (OpOk.move rfl) rfl ?_
          refine RunL.ok (OpOk.lenR rfl rfl rd.left rfl) rfl ?_
          refine RunL.ok (OpOk.asT (OpOk.lss rfl rfl) (by omega)) rfl ?_
          refine RunL.nil ?_
          refine Run.condT rfl ?_
          refine Run.skip ?_
          refine Run.seq ?_
          refine Run.block ?_
          refine Run.seq ?_
          (apply Run.drawD [] (by rfl) (sep_emp _).symm; case hchk => kernel_rfl)
          refine Sd.quiet 0 _ _ rfl rfl rfl rfl rfl (QOp.ok (fun X => OpOk.move rfl)) ?_
          refine Sd.quiet 1 _ _ rfl rfl rfl rfl rfl (QOp.ok (fun X => OpOk.move rfl)) ?_
          refine Sd.quiet 2 _ _ rfl rfl rfl rfl rfl (QOp.ok (fun X => OpOk.idxN rfl ti66 rfl rd.left.left.left rfl (by omega))) ?_
          refine Sd.quiet 3 _ _ rfl rfl rfl rfl rfl (QOp.ok (fun X => OpOk.fieldAddrA fld66_0 rfl)) ?_
          refine Sd.quiet 4 _ _ rfl rfl rfl rfl rfl (QOp.ok (fun X => OpOk.loadFl1E hoe rfl rfl rfl rd.left.left.left (fun _ => rfl) rfl (by omega) rfl)) ?_
          refine Sd.quiet 5 _ _ rfl rfl rfl rfl rfl (QOp.ok (fun X => OpOk.move rfl)) ?_
          refine Sd.quiet 6 _ _ rfl rfl rfl rfl rfl (QOp.ok (fun X => OpOk.move rfl)) ?_
          refine Sd.quiet 7 _ _ rfl rfl rfl rfl rfl (QOp.ok (fun X => OpOk.idxN rfl ti66 rfl rd2.left.left.left rfl (by omega))) ?_
          refine Sd.quiet 8 _ _ rfl rfl rfl rfl rfl (QOp.ok (fun X => OpOk.fieldAddrA fld66_0 rfl)) ?_
          refine Sd.quiet 9 _ _ rfl rfl rfl rfl rfl (QOp.ok (fun X => OpOk.loadFl1E hoe2 rfl rfl rfl rd2.left.left.left (fun _ => rfl) rfl (by omega) rfl)) ?_
          refine Sd.quiet 10 _ _ rfl rfl rfl rfl rfl (QOp.ok (fun X => OpOk.as (c := false) (OpOk.neq rfl rfl) (by rw [decide_eq_true (by omega)]; rfl))) ?_
          refine Sd.quiet 11 _ _ rfl rfl rfl rfl rfl (QOp.ok (fun X => OpOk.move rfl)) ?_
          refine Sd.quiet 12 _ _ rfl rfl rfl rfl rfl (QOp.ok (fun X => OpOk.move rfl)) ?_
          refine Sd.quiet 13 _ _ rfl rfl rfl rfl rfl (QOp.ok (fun X => OpOk.move rfl)) ?_
          refine Sd.quiet 14 _ _ rfl rfl rfl rfl rfl (QOp.ok (fun X => OpOk.idxN rfl ti66 rfl rd.left.left.left rfl (by omega))) ?_
          refine Sd.quiet 15 _ _ rfl rfl rfl rfl rfl (QOp.ok (fun X => OpOk.fieldAddrA fld66_1 rfl)) ?_
          refine Sd.quiet 16 _ _ rfl rfl rfl rfl rfl (QOp.ok (fun X => OpOk.loadFl1E hoe rfl rfl rfl rd.left.left.left (fun _ => rfl) rfl (by omega) rfl)) ?_
          refine Sd.quiet 17 _ _ rfl rfl rfl rfl rfl (QOp.ok (fun X => OpOk.strOf rfl rfl rfl rfl hgb.left.left.left)) ?_
          refine Sd.quiet 18 _ _ rfl rfl rfl rfl rfl (QOp.ok (fun X => OpOk.move rfl)) ?_
          refine Sd.quiet 19 _ _ rfl rfl rfl rfl rfl (QOp.ok (fun X => OpOk.move rfl)) ?_
          refine Sd.quiet 20 _ _ rfl rfl rfl rfl rfl (QOp.ok (fun X => OpOk.idxN rfl ti66 rfl rd2.left.left.left rfl (by omega))) ?_
          refine Sd.quiet 21 _ _ rfl rfl rfl rfl rfl (QOp.ok (fun X => OpOk.fieldAddrA fld66_1 rfl)) ?_
          refine Sd.quiet 22 _ _ rfl rfl rfl rfl rfl (QOp.ok (fun X => OpOk.loadFl1E hoe2 rfl rfl rfl rd2.left.left.left (fun _ => rfl) rfl (by omega) rfl)) ?_
          refine Sd.quiet 23 _ _ rfl rfl rfl rfl rfl (QOp.ok (fun X => OpOk.strOf rfl rfl rfl rfl hgb2.left.left.left)) ?_
          refine Sd.quiet 24 _ _ rfl rfl rfl rfl rfl (QOp.ok (fun X => OpOk.as (c := true) (OpOk.neqSS rfl rfl) (by rw [decide_eq_false (by omega)]; rfl))) ?_
          refine Sd.quiet 25 _ _ rfl rfl rfl rfl rfl (QOp.ok (fun X => OpOk.pickF rfl rfl)) ?_
          refine Sd.quiet 26 _ _ rfl rfl rfl rfl rfl (QOp.ok (fun X => OpOk.move rfl)) ?_
          refine Sd.skip 27 _ rfl rfl rfl rfl rfl ?_
          refine Sd.skip 28 _ rfl rfl rfl rfl rfl ?_
          refine Sd.skip 29 _ rfl rfl rfl rfl rfl ?_
          refine Sd.skip 30 _ rfl rfl rfl rfl rfl ?_
          refine Sd.skip 31 _ rfl rfl rfl rfl rfl ?_
          refine Sd.skip 32 _ rfl rfl rfl rfl rfl ?_
          refine Sd.skip 33 _ rfl rfl rfl rfl rfl ?_
          refine Sd.skip 34 _ rfl rfl rfl rfl rfl ?_
          refine Sd.skip 35 _ rfl rfl rfl rfl rfl ?_
          refine Sd.skip 36 _ rfl rfl rfl rfl rfl ?_
          refine Sd.skip 37 _ rfl rfl rfl rfl rfl ?_
          refine Sd.skip 38 _ rfl rfl rfl rfl rfl ?_
          refine Sd.quiet 39 _ _ rfl rfl rfl rfl rfl (QOp.ok (fun X => OpOk.pickT rfl rfl)) ?_
          (apply Sd.tail; case hall => kernel_rfl)
          refine RunL.mem (fl2 (sep_emp _) (sep_emp _)) ?_
          refine RunL.nil ?_
          refine Run.condT rfl ?_
          refine Run.seq ?_
          refine Run.region ?_
          refine RunL.ok (OpOk.assign rfl) rfl ?_
          refine RunL.nil ?_
          refine Run.ret1 Try.func31 rfl rfl ?_
          exact ⟨J, by rw [decide_eq_false hdr2], rfl⟩
      · have hdr2 : ¬ strL xs = strL ys := fun h => h1 (hdr.1 h).1
        refine Run.seq ?_
        refine Run.seq ?_
        refine Run.region ?_
        refine RunL.ok (OpOk.move rfl) rfl ?_
        refine RunL.ok (OpOk.move rfl) rfl ?_
        refine RunL.ok (OpOk.lenR rfl rfl rd.left rfl) rfl ?_
        refine RunL.ok (OpOk.asT (OpOk.lss rfl rfl) (by omega)) rfl ?_
        refine RunL.nil ?_
        refine Run.condT rfl ?_
        refine Run.skip ?_
        refine Run.seq ?_
        refine Run.block ?_
        refine Run.seq ?_
        (apply Run.drawD [] (by rfl) (sep_emp _).symm; case hchk => kernel_rfl)
        refine Sd.quiet 0 _ _ rfl rfl rfl rfl rfl (QOp.ok (fun X => OpOk.move rfl)) ?_
        refine Sd.quiet 1 _ _ rfl rfl rfl rfl rfl (QOp.ok (fun X => OpOk.move rfl)) ?_
        refine Sd.quiet 2 _ _ rfl rfl rfl rfl rfl (QOp.ok (fun X => OpOk.idxN rfl ti66 rfl rd.left.left.left rfl (by omega))) ?_
        refine Sd.quiet 3 _ _ rfl rfl rfl rfl rfl (QOp.ok (fun X => OpOk.fieldAddrA fld66_0 rfl)) ?_
        refine Sd.quiet 4 _ _ rfl rfl rfl rfl rfl (QOp.ok (fun X => OpOk.loadFl1E hoe rfl rfl rfl rd.left.left.left (fun _ => rfl) rfl (by omega) rfl)) ?_
        refine Sd.quiet 5 _ _ rfl rfl rfl rfl rfl (QOp.ok (fun X => OpOk.move rfl)) ?_
        refine Sd.quiet 6 _ _ rfl rfl rfl rfl rfl (QOp.ok (fun X => OpOk.move rfl)) ?_
        refine Sd.quiet 7 _ _ rfl rfl rfl rfl rfl (QOp.ok (fun X => OpOk.idxN rfl ti66 rfl rd2.left.left.left rfl (by omega))) ?_
        refine Sd.quiet 8 _ _ rfl rfl rfl rfl rfl (QOp.ok (fun X => OpOk.fieldAddrA fld66_0 rfl)) ?_
        refine Sd.quiet 9 _ _ rfl rfl rfl rfl rfl (QOp.ok (fun X => OpOk.loadFl1E hoe2 rfl rfl rfl rd2.left.left.left (fun _ => rfl) rfl (by omega) rfl)) ?_
        refine Sd.quiet 10 _ _ rfl rfl rfl rfl rfl (QOp.ok (fun X => OpOk.as (c := true) (OpOk.neq rfl rfl) (by rw [decide_eq_false (by omega)]; rfl))) ?_
        refine Sd.quiet 11 _ _ rfl rfl rfl rfl rfl (QOp.ok (fun X => OpOk.move rfl)) ?_
        refine Sd.skip 12 _ rfl rfl rfl rfl rfl ?_
        refine Sd.skip 13 _ rfl rfl rfl rfl rfl ?_
        refine Sd.skip 14 _ rfl rfl rfl rfl rfl ?_
        refine Sd.skip 15 _ rfl rfl rfl rfl rfl ?_
        refine Sd.skip 16 _ rfl rfl rfl rfl rfl ?_
        refine Sd.skip 17 _ rfl rfl rfl rfl rfl ?_
        refine Sd.skip 18 _ rfl rfl rfl rfl rfl ?_
        refine Sd.skip 19 _ rfl rfl rfl rfl rfl ?_
        refine Sd.skip 20 _ rfl rfl rfl rfl rfl ?_
        refine Sd.skip 21 _ rfl rfl rfl rfl rfl ?_
        refine Sd.skip 22 _ rfl rfl rfl rfl rfl ?_
        refine Sd.skip 23 _ rfl rfl rfl rfl rfl ?_
        refine Sd.skip 24 _ rfl rfl rfl rfl rfl ?_
        refine Sd.quiet 25 _ _ rfl rfl rfl rfl rfl (QOp.ok (fun X => OpOk.pickT rfl rfl)) ?_
        refine Sd.quiet 26 _ _ rfl rfl rfl rfl rfl (QOp.ok (fun X => OpOk.move rfl)) ?_
        refine Sd.skip 27 _ rfl rfl rfl rfl rfl ?_
        refine Sd.skip 28 _ rfl rfl rfl rfl rfl ?_
        refine Sd.skip 29 _ rfl rfl rfl rfl rfl ?_
        refine Sd.skip 30 _ rfl rfl rfl rfl rfl ?_
        refine Sd.skip 31 _ rfl rfl rfl rfl rfl ?_
        refine Sd.skip 32 _ rfl rfl rfl rfl rfl ?_
        refine Sd.skip 33 _ rfl rfl rfl rfl rfl ?_
        refine Sd.skip 34 _ rfl rfl rfl rfl rfl ?_
        refine Sd.skip 35 _ rfl rfl rfl rfl rfl ?_
        refine Sd.skip 36 _ rfl rfl rfl rfl rfl ?_
        refine Sd.skip 37 _ rfl rfl rfl rfl rfl ?_
        refine Sd.skip 38 _ rfl rfl rfl rfl rfl ?_
        refine Sd.quiet 39 _ _ rfl rfl rfl rfl rfl (QOp.ok (fun X => OpOk.pickT rfl rfl)) ?_
        (apply Sd.tail; case hall => kernel_rfl)
        refine RunL.mem (fl2 (sep_emp _) (sep_emp _)) ?_
        refine RunL.nil ?_
        refine Run.condT rfl ?_
        refine Run.seq ?_
        refine Run.region ?_
        refine RunL.ok (OpOk.assign rfl) rfl ?_
        refine RunL.nil ?_
        refine Run.ret1 Try.func31 rfl rfl ?_
        exact ⟨J, by rw [decide_eq_false hdr2], rfl⟩
    · obtain rfl : i = xs.length := by omega
      clear ih
      rw [List.drop_length, he, List.drop_length] at hdr
      refine Run.seq ?_
      refine Run.seq ?_
      refine Run.region ?_
      refine RunL.ok (OpOk.move rfl) rfl ?_
      refine RunL.ok (OpOk.move rfl) rfl ?_
      refine RunL.ok (OpOk.lenR rfl rfl rd.left rfl) rfl ?_
      refine RunL.ok (OpOk.asF (OpOk.lss rfl rfl) (by omega)) rfl ?_
      refine RunL.nil ?_
      refine Run.condF rfl ?_
      refine Run.exit rfl ?_
      refine Run.seq ?_
      refine Run.region ?_
      refine RunL.ok (OpOk.assign rfl) rfl ?_
      refine RunL.nil ?_
      refine Run.ret1 Try.func31 rfl rfl ?_
      exact ⟨J, by rw [decide_eq_true (hdr.2 rfl)], rfl⟩
  · have hne : ¬ strL xs = strL ys := fun e => he (by simpa [lenT_strL] using congrArg lenT e)
    refine Run.seq ?_
    refine Run.region ?_
    refine RunL.ok (OpOk.assign rfl) rfl ?_
    refine RunL.nil ?_
    refine Run.seq ?_
    refine Run.seq ?_
    refine Run.region ?_
    refine RunL.ok (OpOk.move rfl) rfl ?_
    refine RunL.ok (OpOk.lenR rfl rfl rd rfl) rfl ?_
    refine RunL.ok (OpOk.move rfl) rfl ?_
    refine RunL.ok (OpOk.lenR rfl rfl rd2 rfl) rfl ?_
    refine RunL.ok (OpOk.as (c := true) (OpOk.neq rfl rfl) (by rw [decide_eq_false (by omega)]; rfl)) rfl ?_
    refine RunL.nil ?_
    refine Run.condT rfl ?_
    refine Run.seq ?_
    refine Run.region ?_
    refine RunL.ok (OpOk.assign rfl) rfl ?_
    refine RunL.nil ?_
    refine Run.ret1 Try.func31 rfl rfl ?_
    exact ⟨emp, by rw [decide_eq_false hne], (sep_emp _).symm⟩
theorem s31a {u u2 : Value} {m m2 : Nat} {xs ys : List Ee} (rd : Rd w0 A u 3 m (Fl encT66 xs)) (al : Alls (GE w0) A xs) (rd2 : Rd w0 A u2 3 m2 (Fl encT66 ys)) (al2 : Alls (GE w0) A ys) :
    Spec Try.prog w0 31 [u, u2] A (fun v' A' => ∃ J, v' = .bool (decide (strL xs = strL ys)) ∧ A' = A * J) := refSameAll _ A u u2 m m2 xs ys (Nat.le_refl _) rd al rd2 al2
/-- Not too large to be copied. -/
def szT : Te → Prop
  | .nil => True
  | .cons _ bs f r => bs.length ≤ 140737488351232 ∧ lenT f ≤ 2513169434843 ∧ szT f ∧ szT r
def Ccop (w0 : World) (n : Nat) : Prop := ∀ (A : Asn) (u : Value) (m : Nat) (xs : List Ee), dpT (strL xs) ≤ n → Rd w0 A u 3 m (Fl encT66 xs) → Alls (GE w0) A xs → szT (strL xs) → m ≤ 2513169434843 →
  Spec Try.prog w0 28 [u] A (fun v' A' => ∃ ys J, strL ys = strL xs ∧ A' = A * J * own 66 3 v' ys.length (Fl encT66 ys) * ownsE ys)
theorem s28 {u : Value} {m : Nat} {xs : List Ee} (rd : Rd w0 A u 3 m (Fl encT66 xs)) (al : Alls (GE w0) A xs) (hrec : Ccop w0 n) (hsz : dpT (strL xs) ≤ n) (hk : szT (strL xs)) (hm : m ≤ 2513169434843) :
    Spec Try.prog w0 28 [u] A (fun v' A' => ∃ ys J, strL ys = strL xs ∧ A' = A * J * own 66 3 v' ys.length (Fl encT66 ys) * ownsE ys) := hrec A u m xs hsz rd al hk hm
theorem copAll : ∀ n, Ccop w0 n := fun n => by
  induction n using Nat.strongRecOn with
  | ind n hall =>
  intro A u m xs hsz rd al hk hm
  have hl := rd.lenFl (fun _ => rfl) (by decide)
  subst hl
  refine Spec.of_run [(0, u)] Try.func28 rfl (Nat.le_of_ble_eq_true rfl) (by repeat (first | exact trivial | refine ⟨rfl, ?_⟩)) ?_
  refine Run.seq ?_
  refine Run.region ?_
  refine RunL.ok (OpOk.assign rfl) rfl ?_
  refine RunL.nil ?_
  refine Run.seq ?_
  refine Run.region ?_
  refine RunL.ok (OpOk.assign rfl) rfl ?_
  refine RunL.nil ?_
  refine Run.seq ?_
  refine Run.seq ?_
  refine Run.region ?_
  refine RunL.ok (OpOk.assign rfl) rfl ?_
  refine RunL.nil ?_
  refine Run.block ?_
  refine Run.ent (Ent.ownNil' _ 66 3 (Fl encT66 ([] : List Ee)) rfl) ?_
  refine Run.mem (sep_emp _).symm ?_
  rw [show emp = ownsE [] from rfl]
  refine Run.jump ((Run.loopJ (X := Nat × Asn × Value × List Ee) (fun x => [(4, .int .i64 (x.1 : Int)), (3, x.2.2.1), (0, u)]) (fun x => A * x.2.1 * own 66 3 x.2.2.1 x.2.2.2.length (Fl encT66 x.2.2.2) * ownsE x.2.2.2) (fun x => x.1 ≤ xs.length ∧ strL x.2.2.2 = strL (xs.take x.1) ∧ szT (strL (xs.drop x.1))) (fun x => xs.length - x.1) (0, _, .slice none 0 0, []) ⟨Nat.zero_le _, rfl, hk⟩ (fun x hx ih => ?_))) ⟨rfl, rfl, rfl, trivial⟩ (Grew.of (Eq.trans (frc rfl (frc rfl rfl)) (congrArg (· * _) (congrArg (· * _) as0))) (Grew.refl _))
  obtain ⟨i, J, v3, ys⟩ := x
  simp only at hx ih ⊢
  obtain ⟨hi, hys, hks⟩ := hx
  have hyl : ys.length = min i xs.length := by
    have := congrArg lenT hys
    rwa [lenT_strL, lenT_strL, List.length_take] at this
  rcases Nat.lt_or_ge i xs.length with hlt | hge
  · have hg := al.get hlt
    obtain ⟨o, hoe⟩ : ∃ o, xs.getD i default = o := ⟨_, rfl⟩
    rw [hoe] at hg
    obtain ⟨t, bv, bs, ev, f⟩ := o
    obtain ⟨hgb, hgr, hgf⟩ := hg
    have hga := GFo.alls hgf
    dsimp only at hgb hgr hga
    have hdp := dpT_at hlt hoe
    have hrec : Ccop w0 (n - 1) := hall (n - 1) (by omega)
    rw [strL_drop hlt hoe, szT, lenT_strip, ← strL_top] at hks
    obtain ⟨hk1, hk2, hk3, hk4⟩ := hks
    have htk := strL_take hlt hoe
    refine Run.seq ?_
    refine Run.seq ?_
    refine Run.region ?_
    refine RunL.ok (OpOk.move rfl) rfl ?_
    refine RunL.ok (OpOk.move rfl) rfl ?_
    refine RunL.ok (OpOk.lenR rfl rfl rd.left.left.left rfl) rfl ?_
    refine RunL.ok (OpOk.asT (OpOk.lss rfl rfl) (by omega)) rfl ?_
    refine RunL.nil ?_
    refine Run.condT rfl ?_
    refine Run.skip ?_
    refine Run.seq ?_
    refine Run.block ?_
    refine Run.know (fun w s => (s.conv (frl rfl)).ownRd0) (fun rdy1 => ?_)
    (apply Run.drawD [22] (by rfl) (Eq.trans (frc (frl rfl) rfl) rfl); case hchk => kernel_rfl)
    refine Sd.quiet 0 _ _ rfl rfl rfl rfl rfl (QOp.ok (fun X => OpOk.move rfl)) ?_
    refine Sd.quiet 1 _ _ rfl rfl rfl rfl rfl (QOp.ok (fun X => OpOk.move rfl)) ?_
    refine Sd.quiet 2 _ _ rfl rfl rfl rfl rfl (QOp.ok (fun X => OpOk.move rfl)) ?_
    refine Sd.quiet 3 _ _ rfl rfl rfl rfl rfl (QOp.ok (fun X => OpOk.idxN rfl ti66 rfl rd.left.left.left.left rfl (by omega))) ?_
    refine Sd.quiet 4 _ _ rfl rfl rfl rfl rfl (QOp.ok (fun X => OpOk.fieldAddrA fld66_0 rfl)) ?_
    refine Sd.quiet 5 _ _ rfl rfl rfl rfl rfl (QOp.ok (fun X => OpOk.loadFl1E hoe rfl rfl rfl rd.left.left.left.left (fun _ => rfl) rfl (by omega) rfl)) ?_
    refine Sd.quiet 7 _ _ rfl rfl rfl rfl rfl (QOp.ok (fun X => OpOk.move rfl)) ?_
    refine Sd.quiet 8 _ _ rfl rfl rfl rfl rfl (QOp.ok (fun X => OpOk.move rfl)) ?_
    refine Sd.quiet 9 _ _ rfl rfl rfl rfl rfl (QOp.ok (fun X => OpOk.idxN rfl ti66 rfl rd.left.left.left.left rfl (by omega))) ?_
    refine Sd.quiet 10 _ _ rfl rfl rfl rfl rfl (QOp.ok (fun X => OpOk.fieldAddrA fld66_1 rfl)) ?_
    refine Sd.quiet 11 _ _ rfl rfl rfl rfl rfl (QOp.ok (fun X => OpOk.loadFl1E hoe rfl rfl rfl rd.left.left.left.left (fun _ => rfl) rfl (by omega) rfl)) ?_
    refine Sd.quiet 13 _ _ rfl rfl rfl rfl rfl (QOp.ok (fun X => OpOk.move rfl)) ?_
    refine Sd.quiet 14 _ _ rfl rfl rfl rfl rfl (QOp.ok (fun X => OpOk.move rfl)) ?_
    refine Sd.quiet 15 _ _ rfl rfl rfl rfl rfl (QOp.ok (fun X => OpOk.idxN rfl ti66 rfl rd.left.left.left.left rfl (by omega))) ?_
    refine Sd.quiet 16 _ _ rfl rfl rfl rfl rfl (QOp.ok (fun X => OpOk.fieldAddrA fld66_2 rfl)) ?_
    refine Sd.quiet 17 _ _ rfl rfl rfl rfl rfl (QOp.ok (fun X => OpOk.loadFl1E hoe rfl rfl rfl rd.left.left.left.left (fun _ => rfl) rfl (by omega) rfl)) ?_
    (refine Sd.exec 6 rfl rfl rfl rfl rfl ?hrest (by rfl) (fun Xy2 Ky2 hKy2 => ?_); case hrest => kernel_rfl)
    refine RunL.mem (fl2 (sep_emp _) rfl) ?_
    refine RunL.lit0B rfl ti5 rfl (fun vy3 rdy3 => ?_)
    refine RunL.know (fun w s => (s.conv rfl).ownRd0) (fun rdy4 => ?_)
    refine Sd.ret hKy2 (Eq.trans (frc (frl rfl) rfl) (gp2 (asg rfl) (sep_emp _).symm)) ⟨emp, (sep_emp _).symm⟩ ?_
    (refine Sd.exec 12 rfl rfl rfl rfl rfl ?hrest (by rfl) (fun Xy5 Ky5 hKy5 => ?_); case hrest => kernel_rfl)
    refine RunL.mem (fl2 (sep_emp _) (flS rfl)) ?_
    refine RunL.appendB0 rfl ti5 rfl rfl rfl (frl rfl) hgb.left.left.left.left.left (by omega) rfl (fun vy6 rdy6 => ?_)
    refine RunL.know (fun w s => (s.conv rfl).ownRd0) (fun rdy7 => ?_)
    refine Sd.ret hKy5 (Eq.trans (frc (frl rfl) rfl) (gp2 rfl rfl)) ⟨_, (emp_sep _).symm⟩ ?_
    (refine Sd.exec 18 rfl rfl rfl rfl rfl ?hrest (by rfl) (fun Xy8 Ky8 hKy8 => ?_); case hrest => kernel_rfl)
    refine RunL.mem (fl2 rfl rfl) ?_
    refine RunL.know (fun w s => (s.conv (frl (frl (frl rfl)))).ownsE0) (fun aly9 => ?_)
    refine RunL.call cal28 rfl (s28 hgr.left.left.left.left.left hga.left.left.left.left.left (by assumption) (by omega) (by assumption) (by assumption)) rfl (fun vy10 Ay10 hy10 => ?_)
    obtain ⟨y11, ⟨y12, ⟨y13, rfl⟩⟩⟩ := hy10
    refine RunL.know (fun w s => (s.conv (frl rfl)).ownRd0) (fun rdy14 => ?_)
    refine Sd.ret hKy8 (Eq.trans (frc (frl (frl (frl rfl))) rfl) (gp2 rfl (asg (asg (asg rfl))))) ⟨_, (asg (asg rfl))⟩ ?_
    (refine Sd.exec 19 rfl rfl rfl rfl rfl ?hrest (by rfl) (fun Xy15 Ky15 hKy15 => ?_); case hrest => kernel_rfl)
    refine RunL.mem (fl2 (flS (flS (flS rfl))) rfl) ?_
    obtain ⟨ady16, capy16, rfl, hcapy16, hady16⟩ := (rdy7).form
    obtain ⟨ady17, capy17, rfl, hcapy17, hady17⟩ := (rdy14).form
    refine RunL.ok (OpOk.build (cells := #[.int (IntKind.i64) (t), .slice (ady16) (bs.length) (capy16), .slice (ady17) (y11.length) (capy17)]) rfl (fun w => run_build w 66 _ _ (by rfl))) rfl ?_
    refine Sd.ret hKy15 (Eq.trans rfl (gp2 rfl (asg (asg (asg rfl))))) ⟨emp, (sep_emp _).symm⟩ ?_
    (refine Sd.exec 20 rfl rfl rfl rfl rfl ?hrest (by rfl) (fun Xy18 Ky18 hKy18 => ?_); case hrest => kernel_rfl)
    refine RunL.mem (fl2 (flS (flS (flS rfl))) rfl) ?_
    obtain ⟨fo, rfl⟩ : ∃ fo, y11 = top fo := ⟨untop y11, (top_untop _).symm⟩
    refine RunL.litFl (enc := encT66) [(t, ⟨.slice ady16 bs.length capy16, rfl⟩, bs, ⟨.slice ady17 (top fo).length capy17, rfl⟩, fo)] rfl ti66 rfl (fun _ => rfl) rfl rfl (by decide) (by decide) rfl (fun v9 rd9 => ?_)
    refine RunL.know (fun w s => (s.conv rfl).ownRd0) (fun rdz1 => ?_)
    refine Sd.ret hKy18 (Eq.trans (frc (frl rfl) rfl) (gp2 rfl (asg (asg (asg (asg rfl)))))) ⟨_, rfl⟩ ?_
    (refine Sd.exec 21 rfl rfl rfl rfl rfl ?hrest (by rfl) (fun Xz2 Kz2 hKz2 => ?_); case hrest => kernel_rfl)
    refine RunL.mem (fl2 (flS (flS (flS (flS rfl)))) rfl) ?_
    refine RunL.appendF rfl ti66 rfl rfl rfl rfl (Rd.right rdz1).left rfl (by decide) (by omega) (by simp only [maxLen]; omega) rfl (fun vz3 rdz3 => ?_)
    refine RunL.know (fun w s => (s.conv rfl).ownRd0) (fun rdz4 => ?_)
    refine Sd.ret hKz2 (Eq.trans rfl (gp2 (sep_emp _).symm (asg (asg (asg (asg (asg rfl))))))) ⟨_, rfl⟩ ?_
    (apply Sd.tail; case hall => kernel_rfl)
    refine RunL.mem (fl2 (flS (flS (flS (flS (flS rfl))))) (sep_emp _)) ?_
    refine RunL.ok (OpOk.assign rfl) rfl ?_
    refine RunL.nil ?_
    refine Run.inBlock ?_
    refine Run.region ?_
    refine RunL.ok (OpOk.move rfl) rfl ?_
    refine RunL.ok (OpOk.addN _ 1 rfl rfl rfl rfl (by omega)) rfl ?_
    refine RunL.ok (OpOk.assign rfl) rfl ?_
    refine RunL.nil ?_
    rw [show ys.length + 1 = (ys ++ [((t, ⟨.slice ady16 bs.length capy16, rfl⟩, bs, ⟨.slice ady17 (top fo).length capy17, rfl⟩, fo) : Ee)]).length by simp]
    refine Run.jump ((ih (i + 1, _, vz3, ys ++ [((t, ⟨.slice ady16 bs.length capy16, rfl⟩, bs, ⟨.slice ady17 (top fo).length capy17, rfl⟩, fo) : Ee)]) ⟨by dsimp only; omega, by dsimp only; rw [strL_append, hys, htk, strL, ← strL_top, y13, strL_top]; rfl, hk4⟩ (by dsimp only; omega))) ⟨rfl, rfl, rfl, trivial⟩ (by simp only [ownsE_snoc, ← sep_assoc]; exact (Grew.of (Eq.trans (frc (frl (frl rfl)) (frc (frl (frl rfl)) (frc (frl (frl (frl rfl))) (frc (frl (frl (frl rfl))) rfl)))) (congrArg (· * _) (congrArg (· * _) (congrArg (· * _) (congrArg (· * _) (congrArg (· * _) (asg (asg as1)))))))) (Grew.refl _)))
  · obtain rfl : i = xs.length := by omega
    clear ih
    rw [List.take_length] at hys
    refine Run.seq ?_
    refine Run.seq ?_
    refine Run.region ?_
    refine RunL.ok (OpOk.move rfl) rfl ?_
    refine RunL.ok (OpOk.move rfl) rfl ?_
    refine RunL.ok (OpOk.lenR rfl rfl rd.left.left.left rfl) rfl ?_
    refine RunL.ok (OpOk.asF (OpOk.lss rfl rfl) (by omega)) rfl ?_
    refine RunL.nil ?_
    refine Run.condF rfl ?_
    refine Run.exit rfl ?_
    refine Run.seq ?_
    refine Run.region ?_
    refine RunL.ok (OpOk.move rfl) rfl ?_
    refine RunL.ok (OpOk.assign rfl) rfl ?_
    refine RunL.nil ?_
    refine Run.ret1 Try.func28 rfl rfl ?_
    exact ⟨ys, J, hys, rfl⟩
end
end Go.Proofs.Ytlheianbmpgefaa
