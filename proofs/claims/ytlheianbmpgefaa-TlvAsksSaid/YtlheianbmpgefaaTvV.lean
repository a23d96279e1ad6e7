/- Find, walked. -/
import Derived.Test.YtlheianbmpgefaaTvT
namespace Go.Proofs.Ytlheianbmpgefaa
open Go Go.Proofs
set_option maxRecDepth 100000
set_option maxHeartbeats 4000000
set_option linter.unusedSimpArgs false
section
variable {w0 : World} {A : Asn}
theorem s54a {t : Int} {bv ev : SV} {bs : List UInt8} {f : Fo} (hgb : Rd w0 A bv.1 1 bs.length (B bs)) (hgr : Rd w0 A ev.1 3 (top f).length (Fl encT66 (top f))) (hga : Alls (GE w0) A (top f)) (hk : szT (.cons t bs (strip f) .nil)) :
    Spec Try.prog w0 54 [.agg (encT66 (t, bv, bs, ev, f)).toArray] A (fun v' A' => ∃ (bv2 ev2 : SV) (f2 : Fo) (J : Asn), v' = .agg (encT66 (t, bv2, bs, ev2, f2)).toArray ∧ strip f2 = strip f ∧ A' = A * J * own 5 1 bv2.1 bs.length (B bs) * own 66 3 ev2.1 (top f2).length (Fl encT66 (top f2)) * ownsE (top f2)) := cpAll _ A t bv ev bs f (Nat.le_refl _) hgb hgr hga hk
theorem findYes {q : Int} {u : Value} {m i : Nat} {xs : List Ee} {bv ev : SV} {bs : List UInt8} {f : Fo} (rd : Rd w0 A u 3 m (Fl encT66 xs)) (al : Alls (GE w0) A xs) (hi : i < xs.length) (hoi : xs.getD i default = (q, bv, bs, ev, f)) (hno : ∀ k, k < i → (xs.getD k default).1 ≠ q) (hsz : szT (.cons q bs (strip f) .nil)) :
    Spec Try.prog w0 40 [.int .i64 q, u] A (fun v' A' => ∃ (bv2 ev2 : SV) (f2 : Fo) (J : Asn), v' = .tuple #[.agg (encT66 (q, bv2, bs, ev2, f2)).toArray, .bool true] ∧ strip f2 = strip f ∧ A' = A * J * own 5 1 bv2.1 bs.length (B bs) * own 66 3 ev2.1 (top f2).length (Fl encT66 (top f2)) * ownsE (top f2)) := by
  have hl := rd.lenFl (fun _ => rfl) (by decide)
  subst hl
  have hmx := rd.max
  refine Spec.of_run [(0, .int .i64 q), (1, u)] Try.func40 rfl (Nat.le_of_ble_eq_true rfl) (by repeat (first | exact trivial | refine ⟨rfl, ?_⟩)) ?_
  refine Run.seq ?_
  refine Run.region ?_
  refine RunL.alloc ti66 rfl (fun bx1 => ?_)
  refine RunL.ok (OpOk.assign rfl) rfl ?_
  refine RunL.nil ?_
  refine Run.seq ?_
  refine Run.seq ?_
  refine Run.region ?_
  refine RunL.ok (OpOk.move rfl) rfl ?_
  refine RunL.ok (OpOk.lenR rfl rfl rd.left rfl) rfl ?_
  refine RunL.ok (OpOk.move rfl) rfl ?_
  refine RunL.nil ?_
  refine Run.block ?_
  refine Run.jump ((Run.loopJ (X := Nat × Asn) (fun x => [(10, .int .i64 (x.1 : Int)), (9, .int .i64 (xs.length : Int)), (8, u), (5, .bool false), (4, .pointer (some { block := bx1, off := 0 })), (0, .int .i64 q)]) (fun x => A * x.2 * pts bx1 (.cells (Value.agg #[.int .i64 0, .slice none 0 0, .slice none 0 0]).cells 66)) (fun x => x.1 ≤ i) (fun x => xs.length - x.1) (0, _) (Nat.zero_le _) (fun x hx ih => ?_))) ⟨rfl, rfl, rfl, rfl, rfl, rfl, trivial⟩ (Grew.of (congrArg (· * _) as0) (Grew.refl _))
  obtain ⟨j, J⟩ := x
  simp only at hx ih ⊢
  have hlt : j < xs.length := by omega
  have hg := al.get hlt
  obtain ⟨o, hoe⟩ : ∃ o, xs.getD j default = o := ⟨_, rfl⟩
  rw [hoe] at hg
  obtain ⟨t1, bv1, bs1, ev1, f1⟩ := o
  obtain ⟨hgb1, hgr1, hgf1⟩ := hg
  have hga1 := GFo.alls hgf1
  dsimp only at hgb1 hgr1 hga1
  rcases Decidable.em (j = i) with e | e
  · subst e
    rw [hoi] at hoe
    obtain ⟨rfl, rfl, rfl, rfl, rfl⟩ : q = t1 ∧ bv = bv1 ∧ bs = bs1 ∧ ev = ev1 ∧ f = f1 := by simpa using hoe
    refine Run.seq ?_
    refine Run.region ?_
    refine RunL.ok (OpOk.asT (OpOk.lss rfl rfl) (by omega)) rfl ?_
    refine RunL.nil ?_
    refine Run.seq ?_
    refine Run.condT rfl ?_
    refine Run.skip ?_
    refine Run.seq ?_
    refine Run.block ?_
    refine Run.seq ?_
    refine Run.region ?_
    refine RunL.ok (OpOk.idxN rfl ti66 rfl rd.left.left rfl (by omega)) rfl ?_
    refine RunL.ok (OpOk.loadFlE (by assumption) rfl rfl ti66 rfl rd.left.left (fun _ => rfl) rfl (by omega)) rfl ?_
    refine RunL.alloc ti66 rfl (fun by1 => ?_)
    refine RunL.storeAll ti66 rfl rfl rfl (fun w hw => OneC.one (enc := encT66) ((q, bv, bs, ev, f)) w hw) rfl rfl ?_
    refine RunL.nil ?_
    refine Run.seq ?_
    refine Run.region ?_
    refine RunL.ok (OpOk.fieldAddr fld66_0 rfl) rfl ?_
    refine RunL.ok (OpOk.load rfl rfl rfl (Blk.out Blk.pts _ _ (by first | rfl | assumption))) rfl ?_
    refine RunL.ok (OpOk.move rfl) rfl ?_
    refine RunL.ok (OpOk.asT (OpOk.eql rfl rfl) (by omega)) rfl ?_
    refine RunL.nil ?_
    refine Run.condT rfl ?_
    refine Run.seq ?_
    refine Run.region ?_
    refine RunL.ok (OpOk.loadS rfl rfl ti66 rfl Blk.pts rfl) rfl ?_
    refine RunL.call cal54 rfl (s54a hgb1.left.left.left hgr1.left.left.left hga1.left.left.left (by assumption)) rfl (fun vy2 Ay2 hy2 => ?_)
    obtain ⟨y3, ⟨y4, ⟨y5, ⟨y6, ⟨rfl, ⟨y7, rfl⟩⟩⟩⟩⟩⟩ := hy2
    refine RunL.storeAll ti66 rfl rfl rfl (fun w hw => OneC.one (enc := encT66) ((q, y3, bs, y4, y5)) w hw) (frl (frl (frl (frl (frl rfl))))) rfl ?_
    refine RunL.ok (OpOk.assign rfl) rfl ?_
    refine RunL.nil ?_
    refine Run.retC2 (A' := _) Try.func40 rfl rfl rfl ti66 rfl rfl Blk.pts rfl (Grew.refl _) ?_
    refine ⟨y3, y4, y5, J * pts by1 (.cells (Value.agg (encT66 (q, bv, bs, ev, f)).toArray).cells 66) * y6 * pts bx1 (.cells (Value.agg (encT66 (q, y3, bs, y4, y5)).toArray).cells 66), rfl, y7, ?_⟩
    rw [← sep_assoc, ← sep_assoc, ← sep_assoc]
    exact (frc (frl rfl) (frc (frl rfl) (frc (frl rfl) rfl)))
  · have hn := hno j (by omega)
    rw [hoe] at hn
    dsimp only at hn
    refine Run.seq ?_
    refine Run.region ?_
    refine RunL.ok (OpOk.asT (OpOk.lss rfl rfl) (by omega)) rfl ?_
    refine RunL.nil ?_
    refine Run.seq ?_
    refine Run.condT rfl ?_
    refine Run.skip ?_
    refine Run.seq ?_
    refine Run.block ?_
    refine Run.seq ?_
    refine Run.region ?_
    refine RunL.ok (OpOk.idxN rfl ti66 rfl rd.left.left rfl (by omega)) rfl ?_
    refine RunL.ok (OpOk.loadFlE (by assumption) rfl rfl ti66 rfl rd.left.left (fun _ => rfl) rfl (by omega)) rfl ?_
    refine RunL.alloc ti66 rfl (fun by1 => ?_)
    refine RunL.storeAll ti66 rfl rfl rfl (fun w hw => OneC.one (enc := encT66) ((t1, bv1, bs1, ev1, f1)) w hw) rfl rfl ?_
    refine RunL.nil ?_
    refine Run.seq ?_
    refine Run.region ?_
    refine RunL.ok (OpOk.fieldAddr fld66_0 rfl) rfl ?_
    refine RunL.ok (OpOk.load rfl rfl rfl (Blk.out Blk.pts _ _ (by first | rfl | assumption))) rfl ?_
    refine RunL.ok (OpOk.move rfl) rfl ?_
    refine RunL.ok (OpOk.asF (OpOk.eql rfl rfl) (by omega)) rfl ?_
    refine RunL.nil ?_
    refine Run.condF rfl ?_
    refine Run.skip ?_
    refine Run.inBlock ?_
    refine Run.region ?_
    refine RunL.ok (OpOk.addN _ 1 rfl rfl rfl rfl (by omega)) rfl ?_
    refine RunL.ok (OpOk.move rfl) rfl ?_
    refine RunL.nil ?_
    refine Run.jump ((ih (j + 1, _) (by dsimp only; omega) (by dsimp only; omega))) ⟨rfl, rfl, rfl, rfl, rfl, rfl, trivial⟩ (Grew.of (Eq.trans (frc (frl rfl) rfl) (congrArg (· * _) (asg as1))) (Grew.refl _))
theorem findNo {q : Int} {u : Value} {m : Nat} {xs : List Ee} (rd : Rd w0 A u 3 m (Fl encT66 xs)) (hno : ∀ k, k < xs.length → (xs.getD k default).1 ≠ q) :
    Spec Try.prog w0 40 [.int .i64 q, u] A (fun v' A' => ∃ J, v' = .tuple #[.agg #[.int .i64 0, .slice none 0 0, .slice none 0 0], .bool false] ∧ A' = A * J) := by
  have hl := rd.lenFl (fun _ => rfl) (by decide)
  subst hl
  have hmx := rd.max
  refine Spec.of_run [(0, .int .i64 q), (1, u)] Try.func40 rfl (Nat.le_of_ble_eq_true rfl) (by repeat (first | exact trivial | refine ⟨rfl, ?_⟩)) ?_
  refine Run.seq ?_
  refine Run.region ?_
  refine RunL.alloc ti66 rfl (fun bx1 => ?_)
  refine RunL.ok (OpOk.assign rfl) rfl ?_
  refine RunL.nil ?_
  refine Run.seq ?_
  refine Run.seq ?_
  refine Run.region ?_
  refine RunL.ok (OpOk.move rfl) rfl ?_
  refine RunL.ok (OpOk.lenR rfl rfl rd.left rfl) rfl ?_
  refine RunL.ok (OpOk.move rfl) rfl ?_
  refine RunL.nil ?_
  refine Run.block ?_
  refine Run.jump ((Run.loopJ (X := Nat × Asn) (fun x => [(10, .int .i64 (x.1 : Int)), (9, .int .i64 (xs.length : Int)), (8, u), (5, .bool false), (4, .pointer (some { block := bx1, off := 0 })), (0, .int .i64 q)]) (fun x => A * x.2 * pts bx1 (.cells (Value.agg #[.int .i64 0, .slice none 0 0, .slice none 0 0]).cells 66)) (fun x => x.1 ≤ xs.length) (fun x => xs.length - x.1) (0, _) (Nat.zero_le _) (fun x hx ih => ?_))) ⟨rfl, rfl, rfl, rfl, rfl, rfl, trivial⟩ (Grew.of (congrArg (· * _) as0) (Grew.refl _))
  obtain ⟨j, J⟩ := x
  simp only at hx ih ⊢
  rcases Nat.lt_or_ge j xs.length with hlt | hge
  · obtain ⟨o, hoe⟩ : ∃ o, xs.getD j default = o := ⟨_, rfl⟩
    have hn := hno j hlt
    rw [hoe] at hn
    obtain ⟨t1, bv1, bs1, ev1, f1⟩ := o
    dsimp only at hn
    refine Run.seq ?_
    refine Run.region ?_
    refine RunL.ok (OpOk.asT (OpOk.lss rfl rfl) (by omega)) rfl ?_
    refine RunL.nil ?_
    refine Run.seq ?_
    refine Run.condT rfl ?_
    refine Run.skip ?_
    refine Run.seq ?_
    refine Run.block ?_
    refine Run.seq ?_
    refine Run.region ?_
    refine RunL.ok (OpOk.idxN rfl ti66 rfl rd.left.left rfl (by omega)) rfl ?_
    refine RunL.ok (OpOk.loadFlE (by assumption) rfl rfl ti66 rfl rd.left.left (fun _ => rfl) rfl (by omega)) rfl ?_
    refine RunL.alloc ti66 rfl (fun by1 => ?_)
    refine RunL.storeAll ti66 rfl rfl rfl (fun w hw => OneC.one (enc := encT66) ((t1, bv1, bs1, ev1, f1)) w hw) rfl rfl ?_
    refine RunL.nil ?_
    refine Run.seq ?_
    refine Run.region ?_
    refine RunL.ok (OpOk.fieldAddr fld66_0 rfl) rfl ?_
    refine RunL.ok (OpOk.load rfl rfl rfl (Blk.out Blk.pts _ _ (by first | rfl | assumption))) rfl ?_
    refine RunL.ok (OpOk.move rfl) rfl ?_
    refine RunL.ok (OpOk.asF (OpOk.eql rfl rfl) (by omega)) rfl ?_
    refine RunL.nil ?_
    refine Run.condF rfl ?_
    refine Run.skip ?_
    refine Run.inBlock ?_
    refine Run.region ?_
    refine RunL.ok (OpOk.addN _ 1 rfl rfl rfl rfl (by omega)) rfl ?_
    refine RunL.ok (OpOk.move rfl) rfl ?_
    refine RunL.nil ?_
    refine Run.jump ((ih (j + 1, _) (by dsimp only; omega) (by dsimp only; omega))) ⟨rfl, rfl, rfl, rfl, rfl, rfl, trivial⟩ (Grew.of (Eq.trans (frc (frl rfl) rfl) (congrArg (· * _) (asg as1))) (Grew.refl _))
  · obtain rfl : j = xs.length := by omega
    clear ih
    refine Run.seq ?_
    refine Run.region ?_
    refine RunL.ok (OpOk.asF (OpOk.lss rfl rfl) (by omega)) rfl ?_
    refine RunL.nil ?_
    refine Run.seq ?_
    refine Run.condF rfl ?_
    refine Run.exit rfl ?_
    refine Run.seq ?_
    refine Run.region ?_
    refine RunL.ok (OpOk.build rfl (fun w => run_build w 66 _ _ (by rfl))) rfl ?_
    refine RunL.storeAll ti66 rfl rfl rfl (ones rfl) rfl rfl ?_
    refine RunL.ok (OpOk.assign rfl) rfl ?_
    refine RunL.nil ?_
    refine Run.retC2 (A' := _) Try.func40 rfl rfl rfl ti66 rfl rfl Blk.pts rfl (Grew.refl _) ?_
    exact ⟨_, rfl, (asg as1)⟩
end
end Go.Proofs.Ytlheianbmpgefaa
