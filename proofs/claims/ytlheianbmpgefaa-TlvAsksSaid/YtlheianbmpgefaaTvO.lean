/- Same, walked. -/
import Derived.Test.YtlheianbmpgefaaTvK
namespace Go.Proofs.Ytlheianbmpgefaa
open Go Go.Proofs
set_option maxRecDepth 100000
set_option maxHeartbeats 4000000
set_option linter.unusedSimpArgs false
def CSame (w0 : World) (n : Nat) : Prop := ∀ (A : Asn) (u u2 : Value) (m m2 : Nat) (xs ys : List Ee), dpT (strL xs) ≤ n → Rd w0 A u 3 m (Fl encT66 xs) → Alls (GE w0) A xs → Rd w0 A u2 3 m2 (Fl encT66 ys) → Alls (GE w0) A ys →
  Spec Try.prog w0 39 [u, u2] A (fun v' A' => ∃ J, v' = .bool (decide (strL xs = strL ys)) ∧ A' = A * J)
theorem leaf_of {P : Prop} {A M : Asn} (p : P) (h : ∃ X, M = A * X) : ∃ J, P ∧ M = A * J := by
  obtain ⟨X, hX⟩ := h
  exact ⟨X, p, hX⟩
section
variable {w0 : World} {A : Asn} {n : Nat}
theorem s39 {u u2 : Value} {m m2 : Nat} {xs ys : List Ee} (rd : Rd w0 A u 3 m (Fl encT66 xs)) (al : Alls (GE w0) A xs) (rd2 : Rd w0 A u2 3 m2 (Fl encT66 ys)) (al2 : Alls (GE w0) A ys) (hrec : CSame w0 n) (hsz : dpT (strL xs) ≤ n) :
    Spec Try.prog w0 39 [u, u2] A (fun v' A' => ∃ J, v' = .bool (decide (strL xs = strL ys)) ∧ A' = A * J) := hrec A u u2 m m2 xs ys hsz rd al rd2 al2
theorem s52 {t t2 : Int} {bv bv2 ev ev2 : SV} {bs bs2 : List UInt8} {f f2 : Fo} (hrec : CSame w0 n) (hsz : dpT (strL (top f)) ≤ n) (hgb : Rd w0 A bv.1 1 bs.length (B bs)) (hgb2 : Rd w0 A bv2.1 1 bs2.length (B bs2)) (hgr : Rd w0 A ev.1 3 (top f).length (Fl encT66 (top f))) (hga : Alls (GE w0) A (top f)) (hgr2 : Rd w0 A ev2.1 3 (top f2).length (Fl encT66 (top f2))) (hga2 : Alls (GE w0) A (top f2)) :
    Spec Try.prog w0 52 [.agg (encT66 (t, bv, bs, ev, f)).toArray, .agg (encT66 (t2, bv2, bs2, ev2, f2)).toArray] A (fun v' A' => ∃ J, v' = .bool (decide (t = t2 ∧ bs = bs2 ∧ strL (top f) = strL (top f2))) ∧ A' = A * J) := by
  have hone : ∀ w ∈ (Value.agg (encT66 (t, bv, bs, ev, f)).toArray).cells.toList, w.oneCell' = true := fun w hw => OneC.one (enc := encT66) (t, bv, bs, ev, f) w hw
  have hone2 : ∀ w ∈ (Value.agg (encT66 (t2, bv2, bs2, ev2, f2)).toArray).cells.toList, w.oneCell' = true := fun w hw => OneC.one (enc := encT66) (t2, bv2, bs2, ev2, f2) w hw
  refine Spec.of_run [(0, .agg (encT66 (t, bv, bs, ev, f)).toArray), (1, .agg (encT66 (t2, bv2, bs2, ev2, f2)).toArray)] Try.func52 rfl (Nat.le_of_ble_eq_true rfl) (by repeat (first | exact trivial | refine ⟨rfl, ?_⟩)) ?_
  refine Run.seq ?_
  refine Run.region ?_
  refine RunL.box rfl rfl (fun bx1 => ?_)
  refine RunL.box rfl rfl (fun bx2 => ?_)
  refine RunL.ok (OpOk.assign rfl) rfl ?_
  refine RunL.nil ?_
  refine Run.seq ?_
  refine Run.region ?_
  refine RunL.ok (OpOk.fieldAddr fld66_0 rfl) rfl ?_
  refine RunL.ok (OpOk.load rfl rfl rfl (Blk.out Blk.pts.left _ _ (by first | rfl | assumption))) rfl ?_
  refine RunL.ok (OpOk.fieldAddr fld66_0 rfl) rfl ?_
  refine RunL.ok (OpOk.load rfl rfl rfl (Blk.out Blk.pts _ _ (by first | rfl | assumption))) rfl ?_
  refine RunL.ok (OpOk.eql rfl rfl) rfl ?_
  refine RunL.ok (OpOk.move rfl) rfl ?_
  refine RunL.splitD (t := 10) rfl (fun x3 => ?_) (fun x3 => ?_)
  · refine RunL.on rfl rfl ?_
    refine RunL.ok (OpOk.fieldAddr fld66_1 rfl) rfl ?_
    refine RunL.on rfl rfl ?_
    refine RunL.ok (OpOk.load rfl rfl rfl (Blk.out Blk.pts.left _ _ (by first | rfl | assumption))) rfl ?_
    refine RunL.on rfl rfl ?_
    refine RunL.ok (OpOk.fieldAddr fld66_1 rfl) rfl ?_
    refine RunL.on rfl rfl ?_
    refine RunL.ok (OpOk.load rfl rfl rfl (Blk.out Blk.pts _ _ (by first | rfl | assumption))) rfl ?_
    refine RunL.on rfl rfl ?_
    refine RunL.call cal53 rfl (s53 hgb.left.left hgb2.left.left) rfl (fun vx4 Ax4 hx4 => ?_)
    obtain ⟨rfl, rfl⟩ := hx4
    refine RunL.ok (OpOk.pickT rfl rfl) rfl ?_
    refine RunL.ok (OpOk.move rfl) rfl ?_
    refine RunL.splitD (t := 17) rfl (fun x5 => ?_) (fun x5 => ?_)
    · refine RunL.on rfl rfl ?_
      refine RunL.ok (OpOk.fieldAddr fld66_2 rfl) rfl ?_
      refine RunL.on rfl rfl ?_
      refine RunL.ok (OpOk.load rfl rfl rfl (Blk.out Blk.pts.left _ _ (by first | rfl | assumption))) rfl ?_
      refine RunL.on rfl rfl ?_
      refine RunL.ok (OpOk.fieldAddr fld66_2 rfl) rfl ?_
      refine RunL.on rfl rfl ?_
      refine RunL.ok (OpOk.load rfl rfl rfl (Blk.out Blk.pts _ _ (by first | rfl | assumption))) rfl ?_
      refine RunL.on rfl rfl ?_
      refine RunL.call cal39 rfl (s39 hgr.left.left hga.left.left hgr2.left.left hga2.left.left (by assumption) (by assumption)) rfl (fun vx6 Ax6 hx6 => ?_)
      obtain ⟨x7, ⟨rfl, rfl⟩⟩ := hx6
      refine RunL.ok (OpOk.pickT rfl rfl) rfl ?_
      refine RunL.ok (OpOk.assign rfl) rfl ?_
      refine RunL.nil ?_
      refine Run.ret1 Try.func52 rfl rfl ?_
      exact leaf_of (congrArg Value.bool (decide_eq_decide.2 ⟨fun h => ⟨x3, x5, h⟩, fun h => h.2.2⟩)) (by repeat (first | exact grown0 | refine grown1 ?_))
    refine RunL.off rfl rfl rfl rfl ?_
    refine RunL.off rfl rfl rfl rfl ?_
    refine RunL.off rfl rfl rfl rfl ?_
    refine RunL.off rfl rfl rfl rfl ?_
    refine RunL.off rfl rfl rfl rfl ?_
    refine RunL.ok (OpOk.pickF rfl rfl) rfl ?_
    refine RunL.ok (OpOk.assign rfl) rfl ?_
    refine RunL.nil ?_
    refine Run.ret1 Try.func52 rfl rfl ?_
    exact leaf_of (congrArg Value.bool (decide_eq_false (fun h => x5 h.2.1)).symm) (by repeat (first | exact grown0 | refine grown1 ?_))
  refine RunL.off rfl rfl rfl rfl ?_
  refine RunL.off rfl rfl rfl rfl ?_
  refine RunL.off rfl rfl rfl rfl ?_
  refine RunL.off rfl rfl rfl rfl ?_
  refine RunL.off rfl rfl rfl rfl ?_
  refine RunL.ok (OpOk.pickF rfl rfl) rfl ?_
  refine RunL.ok (OpOk.move rfl) rfl ?_
  refine RunL.off rfl rfl rfl rfl ?_
  refine RunL.off rfl rfl rfl rfl ?_
  refine RunL.off rfl rfl rfl rfl ?_
  refine RunL.off rfl rfl rfl rfl ?_
  refine RunL.off rfl rfl rfl rfl ?_
  refine RunL.ok (OpOk.pickF rfl rfl) rfl ?_
  refine RunL.ok (OpOk.assign rfl) rfl ?_
  refine RunL.nil ?_
  refine Run.ret1 Try.func52 rfl rfl ?_
  exact leaf_of (congrArg Value.bool (decide_eq_false (fun h => x3 h.1)).symm) (by repeat (first | exact grown0 | refine grown1 ?_))
theorem s51 {u u2 : Value} {m m2 : Nat} {xs ys : List Ee} (rd : Rd w0 A u 3 m (Fl encT66 xs)) (al : Alls (GE w0) A xs) (rd2 : Rd w0 A u2 3 m2 (Fl encT66 ys)) (al2 : Alls (GE w0) A ys) (hrec : ∀ k, k < n → CSame w0 k) (hsz : dpT (strL xs) ≤ n) :
    Spec Try.prog w0 51 [u, u2, .func (.func 52) #[] #[]] A (fun v' A' => ∃ J, v' = .bool (decide (strL xs = strL ys)) ∧ A' = A * J) := by
  have hl := rd.lenFl (fun _ => rfl) (by decide)
  have hl2 := rd2.lenFl (fun _ => rfl) (by decide)
  subst hl hl2
  have hmx := rd.max
  have hmx2 := rd2.max
  refine Spec.of_run [(0, u), (1, u2), (2, .func (.func 52) #[] #[])] Try.func51 rfl (Nat.le_of_ble_eq_true rfl) (by repeat (first | exact trivial | refine ⟨rfl, ?_⟩)) ?_
  rcases Decidable.em (xs.length = ys.length) with he | he
  · refine Run.seq ?_
    refine Run.region ?_
    refine RunL.ok (OpOk.assign rfl) rfl ?_
    refine RunL.nil ?_
    refine Run.seq ?_
    refine Run.seq ?_
    refine Run.region ?_
    refine RunL.ok (OpOk.move rfl) rfl ?_
    refine RunL.ok (OpOk.lenR rfl rfl rd rfl) rfl ?_
    refine RunL.ok (OpOk.move rfl) rfl ?_
    refine RunL.ok (OpOk.lenR rfl rfl rd2 rfl) rfl ?_
    refine RunL.ok (OpOk.as (c := false) (OpOk.neq rfl rfl) (by rw [decide_eq_true (by omega)]; rfl)) rfl ?_
    refine RunL.nil ?_
    refine Run.condF rfl ?_
    refine Run.skip ?_
    refine Run.seq ?_
    refine Run.seq ?_
    refine Run.region ?_
    refine RunL.ok (OpOk.move rfl) rfl ?_
    refine RunL.ok (OpOk.lenR rfl rfl rd rfl) rfl ?_
    refine RunL.ok (OpOk.move rfl) rfl ?_
    refine RunL.nil ?_
    refine Run.block ?_
    refine Run.jump ((Run.loopJ (X := Nat × Asn) (fun x => [(17, .int .i64 (x.1 : Int)), (16, .int .i64 (xs.length : Int)), (15, u), (1, u2), (2, .func (.func 52) #[] #[])]) (fun x => A * x.2) (fun x => x.1 ≤ xs.length ∧ (strL xs = strL ys ↔ strL (xs.drop x.1) = strL (ys.drop x.1))) (fun x => xs.length - x.1) (0, _) ⟨Nat.zero_le _, Iff.rfl⟩ (fun x hx ih => ?_))) ⟨rfl, rfl, rfl, rfl, rfl, trivial⟩ (Grew.of as0 (Grew.refl _))
    obtain ⟨i, J⟩ := x
    simp only at hx ih ⊢
    obtain ⟨hi, hdr⟩ := hx
    rcases Nat.lt_or_ge i xs.length with hlt | hge
    · have hg := al.get hlt
      have hg2 := al2.get (i := i) (by omega)
      obtain ⟨o, hoe⟩ : ∃ o, xs.getD i default = o := ⟨_, rfl⟩
      obtain ⟨o2, hoe2⟩ : ∃ o, ys.getD i default = o := ⟨_, rfl⟩
      rw [hoe] at hg
      rw [hoe2] at hg2
      obtain ⟨t, bv, bs, ev, f⟩ := o
      obtain ⟨t2, bv2, bs2, ev2, f2⟩ := o2
      obtain ⟨hgb, hgr, hgf⟩ := hg
      obtain ⟨hgb2, hgr2, hgf2⟩ := hg2
      have hga := GFo.alls hgf
      have hga2 := GFo.alls hgf2
      dsimp only at hgb hgr hga hgb2 hgr2 hga2
      have hdp := dpT_at hlt hoe
      have hr1 : CSame w0 (n - 1) := hrec (n - 1) (by omega)
      rw [strL_drop hlt hoe, strL_drop (by omega) hoe2, Te.cons.injEq, ← strL_top, ← strL_top] at hdr
      refine Run.seq ?_
      refine Run.region ?_
      refine RunL.ok (OpOk.asT (OpOk.lss rfl rfl) (by omega)) rfl ?_
      refine RunL.nil ?_
      refine Run.seq ?_
      refine Run.condT rfl ?_
      refine Run.skip ?_
      refine Run.seq ?_
      refine Run.block ?_
      refine Run.seq ?_
      refine Run.region ?_
      refine RunL.ok (OpOk.move rfl) rfl ?_
      refine RunL.ok (OpOk.idxN rfl ti66 rfl rd.left rfl (by omega)) rfl ?_
      refine RunL.ok (OpOk.loadFlE (by assumption) rfl rfl ti66 rfl rd.left (fun _ => rfl) rfl (by omega)) rfl ?_
      refine RunL.alloc ti66 rfl (fun by1 => ?_)
      refine RunL.ok (OpOk.assign rfl) rfl ?_
      refine RunL.storeAll ti66 rfl rfl rfl (fun w hw => OneC.one (enc := encT66) ((t, bv, bs, ev, f)) w hw) rfl rfl ?_
      refine RunL.nil ?_
      refine Run.seq ?_
      refine Run.region ?_
      refine RunL.ok (OpOk.move rfl) rfl ?_
      refine RunL.ok (OpOk.move rfl) rfl ?_
      refine RunL.ok (OpOk.idxN rfl ti66 rfl rd2.left.left rfl (by omega)) rfl ?_
      refine RunL.ok (OpOk.loadFlE (by assumption) rfl rfl ti66 rfl rd2.left.left (fun _ => rfl) rfl (by omega)) rfl ?_
      refine RunL.alloc ti66 rfl (fun by2 => ?_)
      refine RunL.storeAll ti66 rfl rfl rfl (fun w hw => OneC.one (enc := encT66) ((t2, bv2, bs2, ev2, f2)) w hw) rfl rfl ?_
      refine RunL.nil ?_
      refine Run.seq ?_
      refine Run.region ?_
      refine RunL.ok (OpOk.move rfl) rfl ?_
      refine RunL.ok (OpOk.loadS rfl rfl ti66 rfl Blk.pts.left rfl) rfl ?_
      refine RunL.ok (OpOk.loadS rfl rfl ti66 rfl Blk.pts rfl) rfl ?_
      refine RunL.callV cal52 rfl rfl (Spec.mem rfl (s52 (t := t) (t2 := t2) (bv := bv) (bv2 := bv2) (ev := ev) (ev2 := ev2) (bs := bs) (bs2 := bs2) (f := f) (f2 := f2) hr1 (by omega) hgb.left.left.left hgb2.left.left.left hgr.left.left.left hga.left.left.left hgr2.left.left.left hga2.left.left.left)) rfl (fun u1 A1 h1 => ?_)
      obtain ⟨J1, rfl, rfl⟩ := h1
      rcases Decidable.em (t = t2 ∧ bs = bs2 ∧ strL (top f) = strL (top f2)) with hk | hk
      · have hdr2 := hdr.trans ⟨fun h => h.2.2.2, fun h => ⟨hk.1, hk.2.1, hk.2.2, h⟩⟩
        refine RunL.ok (OpOk.not rfl) rfl ?_
        refine RunL.nil ?_
        refine Run.condNF rfl (by first | omega | with_reducible rfl | assumption) ?_
        refine Run.skip ?_
        refine Run.inBlock ?_
        refine Run.region ?_
        refine RunL.ok (OpOk.addN _ 1 rfl rfl rfl rfl (by omega)) rfl ?_
        refine RunL.ok (OpOk.move rfl) rfl ?_
        refine RunL.nil ?_
        refine Run.jump ((ih (i + 1, _) ⟨by dsimp only; omega, hdr2⟩ (by dsimp only; omega))) ⟨rfl, rfl, rfl, rfl, rfl, trivial⟩ (Grew.of (asg (asg (asg as1))) (Grew.refl _))
      · have hdr2 : ¬ strL xs = strL ys := fun h => hk ⟨(hdr.1 h).1, (hdr.1 h).2.1, (hdr.1 h).2.2.1⟩
        refine RunL.ok (OpOk.not rfl) rfl ?_
        refine RunL.nil ?_
        refine Run.condNT rfl (by first | omega | assumption) ?_
        refine Run.seq ?_
        refine Run.region ?_
        refine RunL.ok (OpOk.assign rfl) rfl ?_
        refine RunL.nil ?_
        refine Run.ret1 Try.func51 rfl rfl ?_
        exact leaf_of (congrArg Value.bool (decide_eq_false hdr2).symm) (by repeat (first | exact grown0 | refine grown1 ?_))
    · obtain rfl : i = xs.length := by omega
      clear ih
      rw [List.drop_length, he, List.drop_length] at hdr
      refine Run.seq ?_
      refine Run.region ?_
      refine RunL.ok (OpOk.asF (OpOk.lss rfl rfl) (by omega)) rfl ?_
      refine RunL.nil ?_
      refine Run.seq ?_
      refine Run.condF rfl ?_
      refine Run.exit rfl ?_
      refine Run.seq ?_
      refine Run.region ?_
      refine RunL.ok (OpOk.assign rfl) rfl ?_
      refine RunL.nil ?_
      refine Run.ret1 Try.func51 rfl rfl ?_
      exact ⟨J, by rw [decide_eq_true (hdr.2 rfl)], rfl⟩
  · have hne : ¬ strL xs = strL ys := fun e => he (by simpa [lenT_strL] using congrArg lenT e)
    refine Run.seq ?_
    refine Run.region ?_
    refine RunL.ok (OpOk.assign rfl) rfl ?_
    refine RunL.nil ?_
    refine Run.seq ?_
    refine Run.seq ?_
    refine Run.region ?_
    refine RunL.ok (OpOk.move rfl) rfl ?_
    refine RunL.ok (OpOk.lenR rfl rfl rd rfl) rfl ?_
    refine RunL.ok (OpOk.move rfl) rfl ?_
    refine RunL.ok (OpOk.lenR rfl rfl rd2 rfl) rfl ?_
    refine RunL.ok (OpOk.as (c := true) (OpOk.neq rfl rfl) (by rw [decide_eq_false (by omega)]; rfl)) rfl ?_
    refine RunL.nil ?_
    refine Run.condT rfl ?_
    refine Run.seq ?_
    refine Run.region ?_
    refine RunL.ok (OpOk.assign rfl) rfl ?_
    refine RunL.nil ?_
    refine Run.ret1 Try.func51 rfl rfl ?_
    exact ⟨emp, by rw [decide_eq_false hne], (sep_emp _).symm⟩
theorem sameAll : ∀ n, CSame w0 n := fun n => by
  induction n using Nat.strongRecOn with
  | ind n hrec =>
  intro A u u2 m m2 xs ys hsz rd al rd2 al2
  refine Spec.of_run [(0, u), (1, u2)] Try.func39 rfl (Nat.le_of_ble_eq_true rfl) (by repeat (first | exact trivial | refine ⟨rfl, ?_⟩)) ?_
  refine Run.seq ?_
  refine Run.region ?_
  refine RunL.ok (OpOk.assign rfl) rfl ?_
  refine RunL.nil ?_
  refine Run.seq ?_
  refine Run.region ?_
  refine RunL.ok (OpOk.move rfl) rfl ?_
  refine RunL.ok (OpOk.move rfl) rfl ?_
  refine RunL.call cal51 rfl (s51 rd al rd2 al2 hrec hsz) rfl (fun v1 A1 h1 => ?_)
  obtain ⟨J1, rfl, rfl⟩ := h1
  refine RunL.ok (OpOk.assign rfl) rfl ?_
  refine RunL.nil ?_
  refine Run.ret1 Try.func39 rfl rfl ?_
  exact ⟨_, rfl, as1⟩
theorem s39a {u u2 : Value} {m m2 : Nat} {xs ys : List Ee} (rd : Rd w0 A u 3 m (Fl encT66 xs)) (al : Alls (GE w0) A xs) (rd2 : Rd w0 A u2 3 m2 (Fl encT66 ys)) (al2 : Alls (GE w0) A ys) :
    Spec Try.prog w0 39 [u, u2] A (fun v' A' => ∃ J, v' = .bool (decide (strL xs = strL ys)) ∧ A' = A * J) := sameAll _ A u u2 m m2 xs ys (Nat.le_refl _) rd al rd2 al2
end
end Go.Proofs.Ytlheianbmpgefaa
