/- Alike, Same, copied. -/
import Derived.Test.YtegbfnibjgpbpaaRtG
namespace Go.Proofs.Ytegbfnibjgpbpaa
open Go Go.Proofs
set_option maxRecDepth 100000
set_option maxHeartbeats 4000000
set_option linter.unusedSimpArgs false
section
variable {w0 : World} {A : Asn}
theorem s48 {k f t o k2 f2 t2 o2 : Int} {sv sv2 : SV} {b b2 : List UInt8} (rd : Rd w0 A sv.1 1 b.length (B b)) (rd2 : Rd w0 A sv2.1 1 b2.length (B b2)) :
    Spec Try.prog w0 48 [.agg (encT82 (k, f, t, sv, o, b)).toArray, .agg (encT82 (k2, f2, t2, sv2, o2, b2)).toArray] A (fun v' A' => ∃ J, v' = .bool (decide ((k, f, t, o, b) = (k2, f2, t2, o2, b2))) ∧ A' = A * J) := by
  have hone : ∀ w ∈ (Value.agg (encT82 (k, f, t, sv, o, b)).toArray).cells.toList, w.oneCell' = true := fun w hw => OneC.one (enc := encT82) (k, f, t, sv, o, b) w hw
  have hone2 : ∀ w ∈ (Value.agg (encT82 (k2, f2, t2, sv2, o2, b2)).toArray).cells.toList, w.oneCell' = true := fun w hw => OneC.one (enc := encT82) (k2, f2, t2, sv2, o2, b2) w hw
  refine Spec.of_run [(0, .agg (encT82 (k, f, t, sv, o, b)).toArray), (1, .agg (encT82 (k2, f2, t2, sv2, o2, b2)).toArray)] Try.func48 rfl (Nat.le_of_ble_eq_true rfl) (by repeat (first | exact trivial | refine ⟨rfl, ?_⟩)) ?_
  refine Run.seq ?_
  refine Run.region ?_
  refine RunL.box rfl rfl (fun bx1 => ?_)
  refine RunL.box rfl rfl (fun bx2 => ?_)
  refine RunL.ok (OpOk.assign rfl) rfl ?_
  refine RunL.nil ?_
  refine Run.seq ?_
  refine Run.region ?_
  refine RunL.ok (OpOk.fieldAddr fld82_0 rfl) rfl ?_
  refine RunL.ok (OpOk.load rfl rfl rfl (Blk.out Blk.pts.left _ _ (by first | rfl | assumption))) rfl ?_
  refine RunL.ok (OpOk.fieldAddr fld82_0 rfl) rfl ?_
  refine RunL.ok (OpOk.load rfl rfl rfl (Blk.out Blk.pts _ _ (by first | rfl | assumption))) rfl ?_
  refine RunL.ok (OpOk.eql rfl rfl) rfl ?_
  refine RunL.ok (OpOk.move rfl) rfl ?_
  refine RunL.splitD (t := 10) rfl (fun x3 => ?_) (fun x3 => ?_)
  · refine RunL.on rfl rfl ?_
    refine RunL.ok (OpOk.fieldAddr fld82_1 rfl) rfl ?_
    refine RunL.on rfl rfl ?_
    refine RunL.ok (OpOk.load rfl rfl rfl (Blk.out Blk.pts.left _ _ (by first | rfl | assumption))) rfl ?_
    refine RunL.on rfl rfl ?_
    refine RunL.ok (OpOk.fieldAddr fld82_1 rfl) rfl ?_
    refine RunL.on rfl rfl ?_
    refine RunL.ok (OpOk.load rfl rfl rfl (Blk.out Blk.pts _ _ (by first | rfl | assumption))) rfl ?_
    refine RunL.on rfl rfl ?_
    refine RunL.ok (OpOk.eql rfl rfl) rfl ?_
    refine RunL.ok (OpOk.pickT rfl rfl) rfl ?_
    refine RunL.ok (OpOk.move rfl) rfl ?_
    refine RunL.splitD (t := 17) rfl (fun x4 => ?_) (fun x4 => ?_)
    · refine RunL.on rfl rfl ?_
      refine RunL.ok (OpOk.fieldAddr fld82_2 rfl) rfl ?_
      refine RunL.on rfl rfl ?_
      refine RunL.ok (OpOk.load rfl rfl rfl (Blk.out Blk.pts.left _ _ (by first | rfl | assumption))) rfl ?_
      refine RunL.on rfl rfl ?_
      refine RunL.ok (OpOk.fieldAddr fld82_2 rfl) rfl ?_
      refine RunL.on rfl rfl ?_
      refine RunL.ok (OpOk.load rfl rfl rfl (Blk.out Blk.pts _ _ (by first | rfl | assumption))) rfl ?_
      refine RunL.on rfl rfl ?_
      refine RunL.ok (OpOk.eql rfl rfl) rfl ?_
      refine RunL.ok (OpOk.pickT rfl rfl) rfl ?_
      refine RunL.ok (OpOk.move rfl) rfl ?_
      refine RunL.splitD (t := 24) rfl (fun x5 => ?_) (fun x5 => ?_)
      · refine RunL.on rfl rfl ?_
        refine RunL.ok (OpOk.fieldAddr fld82_4 rfl) rfl ?_
        refine RunL.on rfl rfl ?_
        refine RunL.ok (OpOk.load rfl rfl rfl (Blk.out Blk.pts.left _ _ (by first | rfl | assumption))) rfl ?_
        refine RunL.on rfl rfl ?_
        refine RunL.ok (OpOk.fieldAddr fld82_4 rfl) rfl ?_
        refine RunL.on rfl rfl ?_
        refine RunL.ok (OpOk.load rfl rfl rfl (Blk.out Blk.pts _ _ (by first | rfl | assumption))) rfl ?_
        refine RunL.on rfl rfl ?_
        refine RunL.ok (OpOk.eql rfl rfl) rfl ?_
        refine RunL.ok (OpOk.pickT rfl rfl) rfl ?_
        refine RunL.ok (OpOk.move rfl) rfl ?_
        refine RunL.splitD (t := 31) rfl (fun x6 => ?_) (fun x6 => ?_)
        · refine RunL.on rfl rfl ?_
          refine RunL.ok (OpOk.fieldAddr fld82_3 rfl) rfl ?_
          refine RunL.on rfl rfl ?_
          refine RunL.ok (OpOk.load rfl rfl rfl (Blk.out Blk.pts.left _ _ (by first | rfl | assumption))) rfl ?_
          refine RunL.on rfl rfl ?_
          refine RunL.ok (OpOk.strOf rfl rfl rfl rfl rd.left.left) rfl ?_
          refine RunL.on rfl rfl ?_
          refine RunL.ok (OpOk.fieldAddr fld82_3 rfl) rfl ?_
          refine RunL.on rfl rfl ?_
          refine RunL.ok (OpOk.load rfl rfl rfl (Blk.out Blk.pts _ _ (by first | rfl | assumption))) rfl ?_
          refine RunL.on rfl rfl ?_
          refine RunL.ok (OpOk.strOf rfl rfl rfl rfl rd2.left.left) rfl ?_
          refine RunL.on rfl rfl ?_
          refine RunL.ok (OpOk.eqlSS rfl rfl) rfl ?_
          refine RunL.ok (OpOk.pickT rfl rfl) rfl ?_
          refine RunL.ok (OpOk.assign rfl) rfl ?_
          refine RunL.nil ?_
          refine Run.ret1 Try.func48 rfl rfl ?_
          refine ⟨_, congrArg Value.bool (decide_eq_decide.2 ?_), sep_assoc _ _ _⟩
          subst x3 x4 x5 x6
          simp
        refine RunL.off rfl rfl rfl rfl ?_
        refine RunL.off rfl rfl rfl rfl ?_
        refine RunL.off rfl rfl rfl rfl ?_
        refine RunL.off rfl rfl rfl rfl ?_
        refine RunL.off rfl rfl rfl rfl ?_
        refine RunL.off rfl rfl rfl rfl ?_
        refine RunL.off rfl rfl rfl rfl ?_
        refine RunL.ok (OpOk.pickF rfl rfl) rfl ?_
        refine RunL.ok (OpOk.assign rfl) rfl ?_
        refine RunL.nil ?_
        refine Run.ret1 Try.func48 rfl rfl ?_
        exact ⟨_, by simp [x6], sep_assoc _ _ _⟩
      refine RunL.off rfl rfl rfl rfl ?_
      refine RunL.off rfl rfl rfl rfl ?_
      refine RunL.off rfl rfl rfl rfl ?_
      refine RunL.off rfl rfl rfl rfl ?_
      refine RunL.off rfl rfl rfl rfl ?_
      refine RunL.ok (OpOk.pickF rfl rfl) rfl ?_
      refine RunL.ok (OpOk.move rfl) rfl ?_
      refine RunL.off rfl rfl rfl rfl ?_
      refine RunL.off rfl rfl rfl rfl ?_
      refine RunL.off rfl rfl rfl rfl ?_
      refine RunL.off rfl rfl rfl rfl ?_
      refine RunL.off rfl rfl rfl rfl ?_
      refine RunL.off rfl rfl rfl rfl ?_
      refine RunL.off rfl rfl rfl rfl ?_
      refine RunL.ok (OpOk.pickF rfl rfl) rfl ?_
      refine RunL.ok (OpOk.assign rfl) rfl ?_
      refine RunL.nil ?_
      refine Run.ret1 Try.func48 rfl rfl ?_
      exact ⟨_, by simp [x5], sep_assoc _ _ _⟩
    refine RunL.off rfl rfl rfl rfl ?_
    refine RunL.off rfl rfl rfl rfl ?_
    refine RunL.off rfl rfl rfl rfl ?_
    refine RunL.off rfl rfl rfl rfl ?_
    refine RunL.off rfl rfl rfl rfl ?_
    refine RunL.ok (OpOk.pickF rfl rfl) rfl ?_
    refine RunL.ok (OpOk.move rfl) rfl ?_
    refine RunL.off rfl rfl rfl rfl ?_
    refine RunL.off rfl rfl rfl rfl ?_
    refine RunL.off rfl rfl rfl rfl ?_
    refine RunL.off rfl rfl rfl rfl ?_
    refine RunL.off rfl rfl rfl rfl ?_
    refine RunL.ok (OpOk.pickF rfl rfl) rfl ?_
    refine RunL.ok (OpOk.move rfl) rfl ?_
    refine RunL.off rfl rfl rfl rfl ?_
    refine RunL.off rfl rfl rfl rfl ?_
    refine RunL.off rfl rfl rfl rfl ?_
    refine RunL.off rfl rfl rfl rfl ?_
    refine RunL.off rfl rfl rfl rfl ?_
    refine RunL.off rfl rfl rfl rfl ?_
    refine RunL.off rfl rfl rfl rfl ?_
    refine RunL.ok (OpOk.pickF rfl rfl) rfl ?_
    refine RunL.ok (OpOk.assign rfl) rfl ?_
    refine RunL.nil ?_
    refine Run.ret1 Try.func48 rfl rfl ?_
    exact ⟨_, by simp [x4], sep_assoc _ _ _⟩
  refine RunL.off rfl rfl rfl rfl ?_
  refine RunL.off rfl rfl rfl rfl ?_
  refine RunL.off rfl rfl rfl rfl ?_
  refine RunL.off rfl rfl rfl rfl ?_
  refine RunL.off rfl rfl rfl rfl ?_
  refine RunL.ok (OpOk.pickF rfl rfl) rfl ?_
  refine RunL.ok (OpOk.move rfl) rfl ?_
  refine RunL.off rfl rfl rfl rfl ?_
  refine RunL.off rfl rfl rfl rfl ?_
  refine RunL.off rfl rfl rfl rfl ?_
  refine RunL.off rfl rfl rfl rfl ?_
  refine RunL.off rfl rfl rfl rfl ?_
  refine RunL.ok (OpOk.pickF rfl rfl) rfl ?_
  refine RunL.ok (OpOk.move rfl) rfl ?_
  refine RunL.off rfl rfl rfl rfl ?_
  refine RunL.off rfl rfl rfl rfl ?_
  refine RunL.off rfl rfl rfl rfl ?_
  refine RunL.off rfl rfl rfl rfl ?_
  refine RunL.off rfl rfl rfl rfl ?_
  refine RunL.ok (OpOk.pickF rfl rfl) rfl ?_
  refine RunL.ok (OpOk.move rfl) rfl ?_
  refine RunL.off rfl rfl rfl rfl ?_
  refine RunL.off rfl rfl rfl rfl ?_
  refine RunL.off rfl rfl rfl rfl ?_
  refine RunL.off rfl rfl rfl rfl ?_
  refine RunL.off rfl rfl rfl rfl ?_
  refine RunL.off rfl rfl rfl rfl ?_
  refine RunL.off rfl rfl rfl rfl ?_
  refine RunL.ok (OpOk.pickF rfl rfl) rfl ?_
  refine RunL.ok (OpOk.assign rfl) rfl ?_
  refine RunL.nil ?_
  refine Run.ret1 Try.func48 rfl rfl ?_
  exact ⟨_, by simp [x3], sep_assoc _ _ _⟩
theorem s45 {u u2 : Value} {m m2 : Nat} {xs ys : List Ms} (rd : Rd w0 A u 5 m (Fl encT82 xs)) (al : Alls (GM w0) A xs) (rd2 : Rd w0 A u2 5 m2 (Fl encT82 ys)) (al2 : Alls (GM w0) A ys) :
    Spec Try.prog w0 45 [u, u2] A (fun v' A' => ∃ J, v' = .bool (decide (xs.map cm = ys.map cm)) ∧ A' = A * J) := by
  have hm := rd.lenFl (fun _ => rfl) (by decide)
  have hm2 := rd2.lenFl (fun _ => rfl) (by decide)
  subst hm hm2
  have hmx := rd.max
  have hmx2 := rd2.max
  refine Spec.of_run [(0, u), (1, u2)] Try.func45 rfl (Nat.le_of_ble_eq_true rfl) (by repeat (first | exact trivial | refine ⟨rfl, ?_⟩)) ?_
  rcases Decidable.em (xs.length = ys.length) with he | he
  · refine Run.seq ?_
    refine Run.region ?_
    refine RunL.ok (OpOk.assign rfl) rfl ?_
    refine RunL.nil ?_
    refine Run.seq ?_
    refine Run.seq ?_
    refine Run.region ?_
    refine RunL.ok (OpOk.move rfl) rfl ?_
    refine RunL.ok (OpOk.lenR rfl rfl rd rfl) rfl ?_
    refine RunL.ok (OpOk.move rfl) rfl ?_
    refine RunL.ok (OpOk.lenR rfl rfl rd2 rfl) rfl ?_
    refine RunL.ok (OpOk.as (c := false) (OpOk.neq rfl rfl) (by rw [decide_eq_true (by omega)]; rfl)) rfl ?_
    refine RunL.nil ?_
    refine Run.condF rfl ?_
    refine Run.skip ?_
    refine Run.seq ?_
    refine Run.seq ?_
    refine Run.region ?_
    refine RunL.ok (OpOk.assign rfl) rfl ?_
    refine RunL.nil ?_
    refine Run.block ?_
    refine Run.jump ((Run.loopJ (X := Nat × Asn) (fun x => [(5, .int .i64 (x.1 : Int)), (0, u), (1, u2)]) (fun x => A * x.2) (fun x => x.1 ≤ xs.length ∧ (xs.take x.1).map cm = (ys.take x.1).map cm) (fun x => xs.length - x.1) (0, _) ⟨Nat.zero_le _, rfl⟩ (fun x hx ih => ?_))) ⟨rfl, rfl, rfl, trivial⟩ (Grew.of as0 (Grew.refl _))
    obtain ⟨i, J⟩ := x
    simp only at hx ih ⊢
    obtain ⟨hi, hpre⟩ := hx
    rcases Nat.lt_or_ge i xs.length with hlt | hge
    · have hrd := al.get hlt
      have hrd2 := al2.get (i := i) (by omega)
      have e1 : (xs.take (i + 1)).map cm = (xs.take i).map cm ++ [cm (xs.getD i default)] := by rw [take_next hlt, List.map_append]; rfl
      have e2 : (ys.take (i + 1)).map cm = (ys.take i).map cm ++ [cm (ys.getD i default)] := by rw [take_next (by omega), List.map_append]; rfl
      obtain ⟨o, hoe⟩ : ∃ o, xs.getD i default = o := ⟨_, rfl⟩
      obtain ⟨o2, hoe2⟩ : ∃ o, ys.getD i default = o := ⟨_, rfl⟩
      rw [hoe] at hrd e1
      rw [hoe2] at hrd2 e2
      obtain ⟨mk, mf, mt, msv, mo, mb⟩ := o
      obtain ⟨mk2, mf2, mt2, msv2, mo2, mb2⟩ := o2
      dsimp only [GM, cm] at hrd hrd2 e1 e2
      rcases Decidable.em ((mk, mf, mt, mo, mb) = (mk2, mf2, mt2, mo2, mb2)) with hk | hk
      · refine Run.seq ?_
        refine Run.seq ?_
        refine Run.region ?_
        refine RunL.ok (OpOk.move rfl) rfl ?_
        refine RunL.ok (OpOk.move rfl) rfl ?_
        refine RunL.ok (OpOk.lenR rfl rfl rd.left rfl) rfl ?_
        refine RunL.ok (OpOk.asT (OpOk.lss rfl rfl) (by omega)) rfl ?_
        refine RunL.nil ?_
        refine Run.condT rfl ?_
        refine Run.skip ?_
        refine Run.seq ?_
        refine Run.block ?_
        refine Run.seq ?_
        (apply Run.drawD [] (by rfl) (sep_emp _).symm; case hchk => kernel_rfl)
        refine Sd.quiet 0 _ _ rfl rfl rfl rfl rfl (QOp.ok (fun X => OpOk.move rfl)) ?_
        refine Sd.quiet 1 _ _ rfl rfl rfl rfl rfl (QOp.ok (fun X => OpOk.move rfl)) ?_
        refine Sd.quiet 2 _ _ rfl rfl rfl rfl rfl (QOp.ok (fun X => OpOk.idxN rfl ti82 rfl rd.left.left.left rfl (by omega))) ?_
        refine Sd.quiet 3 _ _ rfl rfl rfl rfl rfl (QOp.ok (fun X => OpOk.loadFlE (by assumption) rfl rfl ti82 rfl rd.left.left.left (fun _ => rfl) rfl (by omega))) ?_
        refine Sd.quiet 4 _ _ rfl rfl rfl rfl rfl (QOp.ok (fun X => OpOk.move rfl)) ?_
        refine Sd.quiet 5 _ _ rfl rfl rfl rfl rfl (QOp.ok (fun X => OpOk.move rfl)) ?_
        refine Sd.quiet 6 _ _ rfl rfl rfl rfl rfl (QOp.ok (fun X => OpOk.idxN rfl ti82 rfl rd2.left.left.left rfl (by omega))) ?_
        refine Sd.quiet 7 _ _ rfl rfl rfl rfl rfl (QOp.ok (fun X => OpOk.loadFlE (by assumption) rfl rfl ti82 rfl rd2.left.left.left (fun _ => rfl) rfl (by omega))) ?_
        (refine Sd.exec 8 rfl rfl rfl rfl rfl ?hrest (by rfl) (fun Xy1 Ky1 hKy1 => ?_); case hrest => kernel_rfl)
        refine RunL.mem (fl2 (sep_emp _) (sep_emp _)) ?_
        refine RunL.call cal48 rfl (s48 hrd.left.left hrd2.left.left) rfl (fun vy2 Ay2 hy2 => ?_)
        obtain ⟨y3, ⟨rfl, rfl⟩⟩ := hy2
        refine Sd.ret hKy1 (Eq.trans rfl (gp2 (sep_emp _).symm rfl)) ⟨_, (emp_sep _).symm⟩ ?_
        refine Sd.quiet 9 _ _ rfl rfl rfl rfl rfl (QOp.ok (fun X => OpOk.not rfl)) ?_
        (apply Sd.tail; case hall => kernel_rfl)
        refine RunL.mem (fl2 rfl (sep_emp _)) ?_
        refine RunL.nil ?_
        refine Run.condNF rfl (by first | omega | with_reducible rfl | assumption) ?_
        refine Run.skip ?_
        refine Run.inBlock ?_
        refine Run.region ?_
        refine RunL.ok (OpOk.move rfl) rfl ?_
        refine RunL.ok (OpOk.addN _ 1 rfl rfl rfl rfl (by omega)) rfl ?_
        refine RunL.ok (OpOk.assign rfl) rfl ?_
        refine RunL.nil ?_
        refine Run.jump ((ih (i + 1, _) ⟨by dsimp only; omega, by dsimp only; rw [e1, e2, hpre, hk]⟩ (by dsimp only; omega))) ⟨rfl, rfl, rfl, trivial⟩ (Grew.of (asg as1) (Grew.refl _))
      · have hne : ¬ xs.map cm = ys.map cm := fun e => hk (by
          have h := congrArg (fun l => (List.take (i + 1) l)) e
          simp only [← List.map_take] at h
          rw [e1, e2, hpre] at h
          simpa using h)
        refine Run.seq ?_
        refine Run.seq ?_
        refine Run.region ?_
        refine RunL.ok (OpOk.move rfl) rfl ?_
        refine RunL.ok (OpOk.move rfl) rfl ?_
        refine RunL.ok (OpOk.lenR rfl rfl rd.left rfl) rfl ?_
        refine RunL.ok (OpOk.asT (OpOk.lss rfl rfl) (by omega)) rfl ?_
        refine RunL.nil ?_
        refine Run.condT rfl ?_
        refine Run.skip ?_
        refine Run.seq ?_
        refine Run.block ?_
        refine Run.seq ?_
        (apply Run.drawD [] (by rfl) (sep_emp _).symm; case hchk => kernel_rfl)
        refine Sd.quiet 0 _ _ rfl rfl rfl rfl rfl (QOp.ok (fun X => OpOk.move rfl)) ?_
        refine Sd.quiet 1 _ _ rfl rfl rfl rfl rfl (QOp.ok (fun X => OpOk.move rfl)) ?_
        refine Sd.quiet 2 _ _ rfl rfl rfl rfl rfl (QOp.ok (fun X => OpOk.idxN rfl ti82 rfl rd.left.left.left rfl (by omega))) ?_
        refine Sd.quiet 3 _ _ rfl rfl rfl rfl rfl (QOp.ok (fun X => OpOk.loadFlE (by assumption) rfl rfl ti82 rfl rd.left.left.left (fun _ => rfl) rfl (by omega))) ?_
        refine Sd.quiet 4 _ _ rfl rfl rfl rfl rfl (QOp.ok (fun X => OpOk.move rfl)) ?_
        refine Sd.quiet 5 _ _ rfl rfl rfl rfl rfl (QOp.ok (fun X => OpOk.move rfl)) ?_
        refine Sd.quiet 6 _ _ rfl rfl rfl rfl rfl (QOp.ok (fun X => OpOk.idxN rfl ti82 rfl rd2.left.left.left rfl (by omega))) ?_
        refine Sd.quiet 7 _ _ rfl rfl rfl rfl rfl (QOp.ok (fun X => OpOk.loadFlE (by assumption) rfl rfl ti82 rfl rd2.left.left.left (fun _ => rfl) rfl (by omega))) ?_
        (refine Sd.exec 8 rfl rfl rfl rfl rfl ?hrest (by rfl) (fun Xy1 Ky1 hKy1 => ?_); case hrest => kernel_rfl)
        refine RunL.mem (fl2 (sep_emp _) (sep_emp _)) ?_
        refine RunL.call cal48 rfl (s48 hrd.left.left hrd2.left.left) rfl (fun vy2 Ay2 hy2 => ?_)
        obtain ⟨y3, ⟨rfl, rfl⟩⟩ := hy2
        refine Sd.ret hKy1 (Eq.trans rfl (gp2 (sep_emp _).symm rfl)) ⟨_, (emp_sep _).symm⟩ ?_
        refine Sd.quiet 9 _ _ rfl rfl rfl rfl rfl (QOp.ok (fun X => OpOk.not rfl)) ?_
        (apply Sd.tail; case hall => kernel_rfl)
        refine RunL.mem (fl2 rfl (sep_emp _)) ?_
        refine RunL.nil ?_
        refine Run.condNT rfl (by first | omega | assumption) ?_
        refine Run.seq ?_
        refine Run.region ?_
        refine RunL.ok (OpOk.assign rfl) rfl ?_
        refine RunL.nil ?_
        refine Run.ret1 Try.func45 rfl rfl ?_
        exact ⟨J * y3, by rw [decide_eq_false hne], sep_assoc _ _ _⟩
    · obtain rfl : i = xs.length := by omega
      clear ih
      rw [List.take_length, he, List.take_length] at hpre
      refine Run.seq ?_
      refine Run.seq ?_
      refine Run.region ?_
      refine RunL.ok (OpOk.move rfl) rfl ?_
      refine RunL.ok (OpOk.move rfl) rfl ?_
      refine RunL.ok (OpOk.lenR rfl rfl rd.left rfl) rfl ?_
      refine RunL.ok (OpOk.asF (OpOk.lss rfl rfl) (by omega)) rfl ?_
      refine RunL.nil ?_
      refine Run.condF rfl ?_
      refine Run.exit rfl ?_
      refine Run.seq ?_
      refine Run.region ?_
      refine RunL.ok (OpOk.assign rfl) rfl ?_
      refine RunL.nil ?_
      refine Run.ret1 Try.func45 rfl rfl ?_
      rw [decide_eq_true (by first | omega | with_reducible rfl | assumption)]
      exact ⟨_, rfl, as1⟩
  · have hne : ¬ xs.map cm = ys.map cm := fun e => he (by simpa using congrArg List.length e)
    refine Run.seq ?_
    refine Run.region ?_
    refine RunL.ok (OpOk.assign rfl) rfl ?_
    refine RunL.nil ?_
    refine Run.seq ?_
    refine Run.seq ?_
    refine Run.region ?_
    refine RunL.ok (OpOk.move rfl) rfl ?_
    refine RunL.ok (OpOk.lenR rfl rfl rd rfl) rfl ?_
    refine RunL.ok (OpOk.move rfl) rfl ?_
    refine RunL.ok (OpOk.lenR rfl rfl rd2 rfl) rfl ?_
    refine RunL.ok (OpOk.as (c := true) (OpOk.neq rfl rfl) (by rw [decide_eq_false (by omega)]; rfl)) rfl ?_
    refine RunL.nil ?_
    refine Run.condT rfl ?_
    refine Run.seq ?_
    refine Run.region ?_
    refine RunL.ok (OpOk.assign rfl) rfl ?_
    refine RunL.nil ?_
    refine Run.ret1 Try.func45 rfl rfl ?_
    exact ⟨emp, by rw [decide_eq_false hne], (sep_emp _).symm⟩
theorem s42 {u : Value} {m : Nat} {xs : List Ms} (rd : Rd w0 A u 5 m (Fl encT82 xs)) (al : Alls (GM w0) A xs) (hb : ∀ x ∈ xs, x.2.2.2.2.2.length ≤ 140737488351232) (hm : m ≤ 2513169434843) :
    Spec Try.prog w0 42 [u] A (fun v' A' => ∃ (ys : List Ms) (J : Asn), ys.map cm = xs.map cm ∧ A' = A * J * own 82 5 v' ys.length (Fl encT82 ys) * ownsM ys) := by
  have hm1 := rd.lenFl (fun _ => rfl) (by decide)
  subst hm1
  refine Spec.of_run [(0, u)] Try.func42 rfl (Nat.le_of_ble_eq_true rfl) (by repeat (first | exact trivial | refine ⟨rfl, ?_⟩)) ?_
  refine Run.seq ?_
  refine Run.region ?_
  refine RunL.ok (OpOk.assign rfl) rfl ?_
  refine RunL.nil ?_
  refine Run.seq ?_
  refine Run.region ?_
  refine RunL.ok (OpOk.assign rfl) rfl ?_
  refine RunL.nil ?_
  refine Run.seq ?_
  refine Run.seq ?_
  refine Run.region ?_
  refine RunL.ok (OpOk.assign rfl) rfl ?_
  refine RunL.nil ?_
  refine Run.block ?_
  refine Run.ent (Ent.ownNil' _ 82 5 (Fl encT82 ([] : List Ms)) rfl) ?_
  refine Run.mem (sep_emp _).symm ?_
  rw [show emp = ownsM [] from rfl]
  refine Run.jump ((Run.loopJ (X := Nat × Asn × Value × List Ms) (fun x => [(4, .int .i64 (x.1 : Int)), (3, x.2.2.1), (0, u)]) (fun x => A * x.2.1 * own 82 5 x.2.2.1 x.2.2.2.length (Fl encT82 x.2.2.2) * ownsM x.2.2.2) (fun x => x.1 ≤ xs.length ∧ x.2.2.2.map cm = (xs.take x.1).map cm) (fun x => xs.length - x.1) (0, _, .slice none 0 0, []) ⟨Nat.zero_le _, rfl⟩ (fun x hx ih => ?_))) ⟨rfl, rfl, rfl, trivial⟩ (Grew.of (Eq.trans (frc rfl (frc rfl rfl)) (congrArg (· * _) (congrArg (· * _) as0))) (Grew.refl _))
  obtain ⟨i, J, v, ys⟩ := x
  simp only at hx ih ⊢
  obtain ⟨hi, hys⟩ := hx
  have hyl : ys.length = min i xs.length := by have := congrArg List.length hys; simpa using this
  rcases Nat.lt_or_ge i xs.length with hlt | hge
  · have hrd := al.get hlt
    have hbb := hb _ (getD_mem hlt)
    have e1 : (xs.take (i + 1)).map cm = (xs.take i).map cm ++ [cm (xs.getD i default)] := by rw [take_next hlt, List.map_append]; rfl
    obtain ⟨o, hoe⟩ : ∃ o, xs.getD i default = o := ⟨_, rfl⟩
    rw [hoe] at hrd hbb e1
    obtain ⟨mk, mf, mt, msv, mo, mb⟩ := o
    dsimp only [GM, cm] at hrd hbb e1
    have hone : ∀ w ∈ (Value.agg (encT82 (mk, mf, mt, msv, mo, mb)).toArray).cells.toList, w.oneCell' = true := fun w hw => OneC.one (enc := encT82) (mk, mf, mt, msv, mo, mb) w hw
    refine Run.seq ?_
    refine Run.seq ?_
    refine Run.region ?_
    refine RunL.ok (OpOk.move rfl) rfl ?_
    refine RunL.ok (OpOk.move rfl) rfl ?_
    refine RunL.ok (OpOk.lenR rfl rfl rd.left.left.left rfl) rfl ?_
    refine RunL.ok (OpOk.asT (OpOk.lss rfl rfl) (by omega)) rfl ?_
    refine RunL.nil ?_
    refine Run.condT rfl ?_
    refine Run.skip ?_
    refine Run.seq ?_
    refine Run.block ?_
    refine Run.seq ?_
    refine Run.region ?_
    refine RunL.ok (OpOk.move rfl) rfl ?_
    refine RunL.ok (OpOk.move rfl) rfl ?_
    refine RunL.ok (OpOk.idxN rfl ti82 rfl rd.left.left.left rfl (by omega)) rfl ?_
    refine RunL.ok (OpOk.loadFlE (by assumption) rfl rfl ti82 rfl rd.left.left.left (fun _ => rfl) rfl (by omega)) rfl ?_
    refine RunL.alloc ti82 rfl (fun by1 => ?_)
    refine RunL.storeAll ti82 rfl rfl rfl (fun w hw => OneC.one (enc := encT82) ((mk, mf, mt, msv, mo, mb)) w hw) rfl rfl ?_
    refine RunL.nil ?_
    refine Run.seq ?_
    refine Run.region ?_
    refine RunL.lit0B rfl ti5 rfl (fun vy2 rdy2 => ?_)
    refine RunL.ok (OpOk.fieldAddr fld82_3 rfl) rfl ?_
    refine RunL.ok (OpOk.load rfl rfl rfl (Blk.out Blk.pts.left _ _ (by first | rfl | assumption))) rfl ?_
    refine RunL.appendB0 rfl ti5 rfl rfl rfl rfl hrd.left.left.left.left.left (by omega) rfl (fun vy3 rdy3 => ?_)
    refine RunL.ok (OpOk.fieldAddr fld82_3 rfl) rfl ?_
    refine RunL.know (fun w s => (s.conv rfl).ownRd0) (fun rdy4 => ?_)
    refine RunL.store ti79 rfl rfl (Rd.one rdy4) (frl rfl) (by exact Nat.le_of_ble_eq_true rfl) (.inl rfl) ?_
    refine RunL.nil ?_
    refine Run.region ?_
    refine RunL.ok (OpOk.move rfl) rfl ?_
    refine RunL.ok (OpOk.loadS rfl rfl ti82 rfl Blk.pts rfl) rfl ?_
    have h9 : vy3.oneCell' = true := Rd.one rdy3
    rw [show Value.agg ((Value.agg (encT82 (mk, mf, mt, msv, mo, mb)).toArray).cells.toList.set (0 + 3) vy3).toArray = .agg (encT82 (mk, mf, mt, ⟨vy3, h9⟩, mo, mb)).toArray from rfl]
    refine RunL.litFl (enc := encT82) [(mk, mf, mt, ⟨vy3, h9⟩, mo, mb)] rfl ti82 rfl (fun _ => rfl) rfl rfl (by decide) (by decide) rfl (fun vz1 rdz1 => ?_)
    refine RunL.know (fun w s => (s.conv rfl).ownRd0) (fun rdz3 => ?_)
    refine RunL.appendF rfl ti82 rfl rfl rfl (frl (frl (frl (frl rfl)))) (Rd.right rdz3) rfl (by decide) (by omega) (by simp only [maxLen]; omega) rfl (fun vz2 rdz2 => ?_)
    refine RunL.ok (OpOk.assign rfl) rfl ?_
    refine RunL.nil ?_
    refine Run.inBlock ?_
    refine Run.region ?_
    refine RunL.ok (OpOk.move rfl) rfl ?_
    refine RunL.ok (OpOk.addN _ 1 rfl rfl rfl rfl (by omega)) rfl ?_
    refine RunL.ok (OpOk.assign rfl) rfl ?_
    refine RunL.nil ?_
    rw [show ys.length + 1 = (ys ++ [((mk, mf, mt, ⟨vy3, h9⟩, mo, mb) : Ms)]).length by simp]
    refine Run.jump ((ih (i + 1, _, _, ys ++ [((mk, mf, mt, ⟨vy3, h9⟩, mo, mb) : Ms)]) ⟨by dsimp only; omega, by dsimp only; rw [e1, List.map_append, hys]; rfl⟩ (by dsimp only; omega))) ⟨rfl, rfl, rfl, trivial⟩ (by simp only [ownsM_snoc, ← sep_assoc]; exact (Grew.of (Eq.trans (frc (frl (frl (frl rfl))) (frc (frl (frl (frl rfl))) rfl)) (congrArg (· * _) (congrArg (· * _) (congrArg (· * _) (asg (asg as1)))))) (Grew.refl _)))
  · obtain rfl : i = xs.length := by omega
    clear ih
    rw [List.take_length] at hys
    refine Run.seq ?_
    refine Run.seq ?_
    refine Run.region ?_
    refine RunL.ok (OpOk.move rfl) rfl ?_
    refine RunL.ok (OpOk.move rfl) rfl ?_
    refine RunL.ok (OpOk.lenR rfl rfl rd.left.left.left rfl) rfl ?_
    refine RunL.ok (OpOk.asF (OpOk.lss rfl rfl) (by omega)) rfl ?_
    refine RunL.nil ?_
    refine Run.condF rfl ?_
    refine Run.exit rfl ?_
    refine Run.seq ?_
    refine Run.region ?_
    refine RunL.ok (OpOk.move rfl) rfl ?_
    refine RunL.ok (OpOk.assign rfl) rfl ?_
    refine RunL.nil ?_
    refine Run.ret1 Try.func42 rfl rfl ?_
    exact ⟨ys, J, hys, by ac_rfl⟩
end
end Go.Proofs.Ytegbfnibjgpbpaa
