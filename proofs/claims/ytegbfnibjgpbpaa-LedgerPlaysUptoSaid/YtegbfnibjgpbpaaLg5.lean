/- The ledger's lists; the document's comparing; copies. -/
import Derived.Test.YtegbfnibjgpbpaaLg4
namespace Go.Proofs.Ytegbfnibjgpbpaa
open Go Go.Proofs
set_option maxRecDepth 100000
set_option maxHeartbeats 4000000
set_option linter.unusedSimpArgs false
section
variable {w0 : World} {A : Asn} {p mb nb : Nat} {av pv : Value} {bal : List Int} {ks : List (Int × Int)} {L : List Po}
theorem s34a {u : Value} {ps : List Po} {m : Nat} {b2 : List Int} (rd : Rd w0 A u 3 m (Fl encT63 ps)) (al : Alls (GP w0) A ps) (hp : postF nb ks bal [] ps = (0, b2)) (hin : ∀ q ∈ ps, ∀ s ∈ q.2.2.2, inI s.2) (hm : ∀ q ∈ ps, q.2.2.2.length ≤ 8796093022208)
    (hl : bal.length = nb) (hb : ∀ z ∈ bal, inI z) (hnb : nb ≤ 5) (hL : L.length + ps.length ≤ 1099511627776) :
    Spec Try.prog w0 34 [.pointer (some ⟨p, 0, none⟩), u] (A * pts p (.cells #[av, .map (some mb), pv] 109 (0, 0)) * own 3 1 av nb (I (bal)) * setA mb (ks) * own 63 3 pv (L).length (Fl encT63 (L)) * ownsP (L)) (fun v' A' => ∃ av2 pv2 M J, v' = .int .i64 0 ∧ M.map ct = L.map ct ++ ps.map ct ∧ A' = A * J * pts p (.cells #[av2, .map (some mb), pv2] 109 (0, 0)) * own 3 1 av2 nb (I (b2)) * setA mb ((ks ++ ps.map keyP)) * own 63 3 pv2 (M).length (Fl encT63 (M)) * ownsP (M)) := by
  have hl0 := rd.lenFl (fun _ => rfl) (by decide)
  subst hl0
  refine (post_gen rd al hin hm hl hb hnb hL).mono ?_
  rintro v' A' ⟨rfl, h⟩
  rw [hp] at h
  rcases h with ⟨h, _⟩ | ⟨_, av2, pv2, M, hM, J, rfl⟩
  · exact absurd rfl h
  · exact ⟨av2, pv2, M, J, by rw [hp], hM, rfl⟩
theorem s34b {u : Value} {ps : List Po} {m : Nat} {e : Int} {b2 : List Int} (rd : Rd w0 A u 3 m (Fl encT63 ps)) (al : Alls (GP w0) A ps) (hp : postF nb ks bal [] ps = (e, b2)) (he : e ≠ 0) (hin : ∀ q ∈ ps, ∀ s ∈ q.2.2.2, inI s.2) (hm : ∀ q ∈ ps, q.2.2.2.length ≤ 8796093022208)
    (hl : bal.length = nb) (hb : ∀ z ∈ bal, inI z) (hnb : nb ≤ 5) (hL : L.length + ps.length ≤ 1099511627776) :
    Spec Try.prog w0 34 [.pointer (some ⟨p, 0, none⟩), u] (A * pts p (.cells #[av, .map (some mb), pv] 109 (0, 0)) * own 3 1 av nb (I (bal)) * setA mb (ks) * own 63 3 pv (L).length (Fl encT63 (L)) * ownsP (L)) (fun v' A' => ∃ J, v' = .int .i64 e ∧ A' = A * J * pts p (.cells #[av, .map (some mb), pv] 109 (0, 0)) * own 3 1 av nb (I (bal)) * setA mb (ks) * own 63 3 pv (L).length (Fl encT63 (L)) * ownsP (L)) := by
  have hl0 := rd.lenFl (fun _ => rfl) (by decide)
  subst hl0
  refine (post_gen rd al hin hm hl hb hnb hL).mono ?_
  rintro v' A' ⟨rfl, h⟩
  rw [hp] at h
  rcases h with ⟨_, J, rfl⟩ | ⟨h, _⟩
  · exact ⟨J, by rw [hp], rfl⟩
  · exact absurd h he
theorem s36 (hm : ∀ q ∈ L, q.2.2.2.length ≤ 8796093022208) (hL : L.length ≤ 1099511627776) :
    Spec Try.prog w0 36 [.pointer (some ⟨p, 0, none⟩)] (A * pts p (.cells #[av, .map (some mb), pv] 109 (0, 0)) * own 3 1 av nb (I (bal)) * setA mb (ks) * own 63 3 pv (L).length (Fl encT63 (L)) * ownsP (L)) (fun v' A' => ∃ M J, M.map ct = L.map ct ∧ A' = A * J * pts p (.cells #[av, .map (some mb), pv] 109 (0, 0)) * own 3 1 av nb (I (bal)) * setA mb (ks) * own 63 3 pv (L).length (Fl encT63 (L)) * ownsP (L) * own 63 3 v' M.length (Fl encT63 M) * ownsP M) := by
  refine Spec.of_run [(0, .pointer (some ⟨p, 0, none⟩))] Try.func36 rfl (Nat.le_of_ble_eq_true rfl) (by repeat (first | exact trivial | refine ⟨rfl, ?_⟩)) ?_
  refine Run.seq ?_
  refine Run.region ?_
  refine RunL.ok (OpOk.assign rfl) rfl ?_
  refine RunL.nil ?_
  refine Run.seq ?_
  refine Run.region ?_
  refine RunL.ok (OpOk.assign rfl) rfl ?_
  refine RunL.nil ?_
  refine Run.seq ?_
  refine Run.seq ?_
  refine Run.region ?_
  refine RunL.ok (OpOk.move rfl) rfl ?_
  refine RunL.ok (OpOk.nilOk rfl) rfl ?_
  refine RunL.ok (OpOk.fieldAddr fld109_2 rfl) rfl ?_
  refine RunL.ok (OpOk.load rfl rfl rfl (Blk.out Blk.pts.left.left.left.left _ _ (by first | rfl | assumption))) rfl ?_
  refine RunL.know (fun w s => (s.conv (frl rfl)).ownRd0) (fun rdx1 => ?_)
  refine RunL.ok (OpOk.lenR rfl rfl (Rd.right rdx1).left rfl) rfl ?_
  refine RunL.ok (OpOk.move rfl) rfl ?_
  refine RunL.nil ?_
  refine Run.block ?_
  refine Run.know (fun w s => s.ownsP0) (fun al => ?_)
  refine Run.ent (Ent.ownNil' _ 63 3 (Fl encT63 ([] : List Po)) rfl) ?_
  refine Run.mem (sep_emp _).symm ?_
  rw [← ownsP_nil]
  refine Run.jump ((Run.loopJ (X := Nat × Asn × Value × List Po) (fun x => [(11, .int .i64 (x.1 : Int)), (10, .int .i64 (L.length : Int)), (9, pv), (3, x.2.2.1), (0, .pointer (some ⟨p, 0, none⟩))]) (fun x => A * x.2.1 * pts p (.cells #[av, .map (some mb), pv] 109 (0, 0)) * own 3 1 av nb (I (bal)) * setA mb (ks) * own 63 3 pv (L).length (Fl encT63 (L)) * ownsP (L) * own 63 3 x.2.2.1 x.2.2.2.length (Fl encT63 x.2.2.2) * ownsP x.2.2.2) (fun x => x.1 ≤ L.length ∧ x.2.2.2.map ct = (L.take x.1).map ct) (fun x => L.length - x.1) (0, _, .slice none 0 0, []) ⟨Nat.zero_le _, by simp⟩ (fun x hx ih => ?_))) ⟨rfl, rfl, rfl, rfl, rfl, trivial⟩ (Grew.of (Eq.trans (frc rfl (frc rfl rfl)) (congrArg (· * _) (congrArg (· * _) (congrArg (· * _) (congrArg (· * _) (congrArg (· * _) (congrArg (· * _) (congrArg (· * _) as0)))))))) (Grew.refl _))
  obtain ⟨i, J, v3, M⟩ := x
  simp only at hx ih ⊢
  obtain ⟨hi, hM⟩ := hx
  have hMl : M.length = min i L.length := by have := congrArg List.length hM; simpa using this
  rcases Nat.lt_or_ge i L.length with hlt | hge
  · have rdi : Rd w0 (ownsP L) (L.getD i default).2.2.1.1 2 (L.getD i default).2.2.2.length (Fl encT97 (L.getD i default).2.2.2) := al.get hlt
    have hmi := hm _ (getD_mem hlt)
    have hone : ∀ w ∈ (Value.agg (encT63 (L.getD i default)).toArray).cells.toList, w.oneCell' = true := fun w hw => OneC.one (enc := encT63) _ w hw
    refine Run.seq ?_
    refine Run.region ?_
    refine RunL.ok (OpOk.asT (OpOk.lss rfl rfl) (by omega)) rfl ?_
    refine RunL.nil ?_
    refine Run.seq ?_
    refine Run.condT rfl ?_
    refine Run.skip ?_
    refine Run.seq ?_
    refine Run.block ?_
    refine Run.seq ?_
    refine Run.region ?_
    refine RunL.ok (OpOk.idxN rfl ti63 rfl (Rd.right rdx1).left.left.left rfl (by omega)) rfl ?_
    refine RunL.ok (OpOk.loadFl default rfl rfl ti63 rfl (Rd.right rdx1).left.left.left (fun _ => rfl) rfl (by omega)) rfl ?_
    refine RunL.alloc ti63 rfl (fun by1 => ?_)
    refine RunL.storeAll ti63 rfl rfl rfl (by assumption) rfl rfl ?_
    refine RunL.nil ?_
    refine Run.region ?_
    refine RunL.ok (OpOk.move rfl) rfl ?_
    refine RunL.ok (OpOk.loadS rfl rfl ti63 rfl Blk.pts rfl) rfl ?_
    refine RunL.know (fun w s => (s.conv (frl rfl)).ownsP0) (fun aly2 => ?_)
    refine RunL.call cal64 rfl (s64 (Rd.right rdi).left.left.left (by assumption)) rfl (fun vy3 Ay3 hy3 => ?_)
    obtain ⟨y4, ⟨y5, ⟨rfl, rfl⟩⟩⟩ := hy3
    refine RunL.litFl (enc := encT63) [((L.getD i default).fst, (L.getD i default).snd.fst, y4, (L.getD i default).snd.snd.snd)] rfl ti63 rfl (fun _ => rfl) rfl rfl (by decide) (by decide) rfl (fun vy6 rdy6 => ?_)
    refine RunL.know (fun w s => (s.conv rfl).ownRd0) (fun rdy8 => ?_)
    refine RunL.appendF rfl ti63 rfl rfl rfl (frl (frl (frl (frl (frl rfl))))) (Rd.right rdy8) rfl (by decide) (by omega) (by simp only [maxLen]; omega) rfl (fun vy7 rdy7 => ?_)
    refine RunL.ok (OpOk.assign rfl) rfl ?_
    refine RunL.nil ?_
    refine Run.inBlock ?_
    refine Run.region ?_
    refine RunL.ok (OpOk.addN _ 1 rfl rfl rfl rfl (by omega)) rfl ?_
    refine RunL.ok (OpOk.move rfl) rfl ?_
    refine RunL.nil ?_
    rw [show M.length + 1 = (M ++ [((L.getD i default).1, (L.getD i default).2.1, y4, (L.getD i default).2.2.2)]).length by simp]
    refine Run.jump ((ih (i + 1, _, _, M ++ [((L.getD i default).1, (L.getD i default).2.1, y4, (L.getD i default).2.2.2)]) ⟨by dsimp only; omega, by dsimp only; rw [take_next hlt, List.map_append, List.map_append, hM]; simp [ct]⟩ (by dsimp only; omega))) ⟨rfl, rfl, rfl, rfl, rfl, trivial⟩ (by simp only [ownsP_snoc, ← sep_assoc]; exact (Grew.of (Eq.trans (frc (frl (frl rfl)) (frc (frl (frl (frl (frl rfl)))) (frc rfl (frc (frl (frl (frl rfl))) (frc (frl (frl (frl rfl))) (frc (frl (frl (frl rfl))) (frc (frl (frl (frl rfl))) (frc (frl (frl (frl rfl))) rfl)))))))) (congrArg (· * _) (congrArg (· * _) (congrArg (· * _) (congrArg (· * _) (congrArg (· * _) (congrArg (· * _) (congrArg (· * _) (congrArg (· * _) (asg (asg (asg as1)))))))))))) (Grew.refl _)))
  · obtain rfl : i = L.length := by omega
    clear ih
    rw [List.take_length] at hM
    refine Run.seq ?_
    refine Run.region ?_
    refine RunL.ok (OpOk.asF (OpOk.lss rfl rfl) (by omega)) rfl ?_
    refine RunL.nil ?_
    refine Run.seq ?_
    refine Run.condF rfl ?_
    refine Run.exit rfl ?_
    refine Run.seq ?_
    refine Run.region ?_
    refine RunL.ok (OpOk.move rfl) rfl ?_
    refine RunL.ok (OpOk.assign rfl) rfl ?_
    refine RunL.nil ?_
    refine Run.ret1 Try.func36 rfl rfl ?_
    exact ⟨M, J, hM, rfl⟩
theorem s67 {u1 u2 : Value} {a b : List Sh} {m k : Nat} (rd : Rd w0 A u1 2 m (Fl encT97 a)) (rd2 : Rd w0 A u2 2 k (Fl encT97 b)) :
    Spec Try.prog w0 67 [u1, u2] A (fun v' A' => v' = .bool (decide (a = b)) ∧ A' = A) := by
  have hl0 := rd.lenFl (fun _ => rfl) (by decide)
  have hl1 := rd2.lenFl (fun _ => rfl) (by decide)
  subst hl0 hl1
  have hm1 := rd.max
  refine Spec.of_run [(0, u1), (1, u2)] Try.func67 rfl (Nat.le_of_ble_eq_true rfl) (by repeat (first | exact trivial | refine ⟨rfl, ?_⟩)) ?_
  refine Run.seq ?_
  refine Run.region ?_
  refine RunL.ok (OpOk.assign rfl) rfl ?_
  refine RunL.nil ?_
  refine Run.seq ?_
  refine Run.seq ?_
  refine Run.region ?_
  refine RunL.ok (OpOk.move rfl) rfl ?_
  refine RunL.ok (OpOk.lenR rfl rfl rd rfl) rfl ?_
  refine RunL.ok (OpOk.move rfl) rfl ?_
  refine RunL.ok (OpOk.lenR rfl rfl rd2 rfl) rfl ?_
  refine RunL.ok (OpOk.neq rfl rfl) rfl ?_
  refine RunL.nil ?_
  refine Run.condN rfl (fun x1 => ?_) (fun x1 => ?_)
  · refine Run.seq ?_
    refine Run.region ?_
    refine RunL.ok (OpOk.assign rfl) rfl ?_
    refine RunL.nil ?_
    refine Run.ret1 Try.func67 rfl rfl ?_
    have hne : a ≠ b := fun e => x1 (by rw [e])
    exact ⟨by rw [decide_eq_false hne], rfl⟩
  refine Run.skip ?_
  refine Run.seq ?_
  refine Run.seq ?_
  refine Run.region ?_
  refine RunL.ok (OpOk.assign rfl) rfl ?_
  refine RunL.nil ?_
  refine Run.block ?_
  refine Run.jump ((Run.loopJ (X := Nat) (fun i => [(0, u1), (1, u2), (5, .int .i64 (i : Int))]) (fun _ => A) (fun i => i ≤ a.length ∧ a.take i = b.take i) (fun i => a.length - i) 0 ⟨Nat.zero_le _, by simp⟩ (fun i hi ih => ?_))) ⟨rfl, rfl, rfl, trivial⟩ ((Grew.refl _))
  obtain ⟨hi1, hi2⟩ := hi
  have hlen : a.length = b.length := by omega
  rcases Nat.lt_or_ge i a.length with hlt | hge
  · rcases Decidable.em ((a.getD i default).1 = (b.getD i default).1 ∧ (a.getD i default).2 = (b.getD i default).2) with hc | hc
    · have e : a.take (i + 1) = b.take (i + 1) := by
        rw [take_next hlt, take_next (by omega : i < b.length), hi2, Prod.ext hc.1 hc.2]
      refine Run.seq ?_
      refine Run.seq ?_
      refine Run.region ?_
      refine RunL.ok (OpOk.move rfl) rfl ?_
      refine RunL.ok (OpOk.move rfl) rfl ?_
      refine RunL.ok (OpOk.lenR rfl rfl rd rfl) rfl ?_
      refine RunL.ok (OpOk.asT (OpOk.lss rfl rfl) (by omega)) rfl ?_
      refine RunL.nil ?_
      refine Run.condT rfl ?_
      refine Run.skip ?_
      refine Run.seq ?_
      refine Run.block ?_
      refine Run.seq ?_
      (apply Run.drawD [] (by rfl) (sep_emp _).symm; case hchk => kernel_rfl)
      refine Sd.quiet 0 _ _ rfl rfl rfl rfl rfl (QOp.ok (fun X => OpOk.move rfl)) ?_
      refine Sd.quiet 1 _ _ rfl rfl rfl rfl rfl (QOp.ok (fun X => OpOk.move rfl)) ?_
      refine Sd.quiet 2 _ _ rfl rfl rfl rfl rfl (QOp.ok (fun X => OpOk.idxN rfl ti97 rfl rd.left.left rfl (by omega))) ?_
      refine Sd.quiet 3 _ _ rfl rfl rfl rfl rfl (QOp.ok (fun X => OpOk.loadFl default rfl rfl ti97 rfl rd.left.left (fun _ => rfl) rfl (by omega))) ?_
      refine Sd.quiet 4 _ _ rfl rfl rfl rfl rfl (QOp.ok (fun X => OpOk.move rfl)) ?_
      refine Sd.quiet 5 _ _ rfl rfl rfl rfl rfl (QOp.ok (fun X => OpOk.move rfl)) ?_
      refine Sd.quiet 6 _ _ rfl rfl rfl rfl rfl (QOp.ok (fun X => OpOk.idxN rfl ti97 rfl rd2.left.left rfl (by omega))) ?_
      refine Sd.quiet 7 _ _ rfl rfl rfl rfl rfl (QOp.ok (fun X => OpOk.loadFl default rfl rfl ti97 rfl rd2.left.left (fun _ => rfl) rfl (by omega))) ?_
      refine Sd.quiet 8 _ _ rfl rfl rfl rfl rfl (QOp.ok (fun X => OpOk.as (c := false) (OpOk.neqTwo two97 rfl rfl) (by rw [decide_eq_true (by omega)]; rfl))) ?_
      (apply Sd.tail; case hall => kernel_rfl)
      refine RunL.mem (fl2 (sep_emp _) (sep_emp _)) ?_
      refine RunL.nil ?_
      refine Run.condF rfl ?_
      refine Run.skip ?_
      refine Run.inBlock ?_
      refine Run.region ?_
      refine RunL.ok (OpOk.move rfl) rfl ?_
      refine RunL.ok (OpOk.addN _ 1 rfl rfl rfl rfl (by omega)) rfl ?_
      refine RunL.ok (OpOk.assign rfl) rfl ?_
      refine RunL.nil ?_
      refine Run.jump ((ih (i + 1) ⟨by omega, e⟩ (by omega))) ⟨rfl, rfl, rfl, trivial⟩ ((Grew.refl _))
    · have hne : a ≠ b := fun e => hc (by rw [e]; exact ⟨rfl, rfl⟩)
      refine Run.seq ?_
      refine Run.seq ?_
      refine Run.region ?_
      refine RunL.ok (OpOk.move rfl) rfl ?_
      refine RunL.ok (OpOk.move rfl) rfl ?_
      refine RunL.ok (OpOk.lenR rfl rfl rd rfl) rfl ?_
      refine RunL.ok (OpOk.asT (OpOk.lss rfl rfl) (by omega)) rfl ?_
      refine RunL.nil ?_
      refine Run.condT rfl ?_
      refine Run.skip ?_
      refine Run.seq ?_
      refine Run.block ?_
      refine Run.seq ?_
      (apply Run.drawD [] (by rfl) (sep_emp _).symm; case hchk => kernel_rfl)
      refine Sd.quiet 0 _ _ rfl rfl rfl rfl rfl (QOp.ok (fun X => OpOk.move rfl)) ?_
      refine Sd.quiet 1 _ _ rfl rfl rfl rfl rfl (QOp.ok (fun X => OpOk.move rfl)) ?_
      refine Sd.quiet 2 _ _ rfl rfl rfl rfl rfl (QOp.ok (fun X => OpOk.idxN rfl ti97 rfl rd.left.left rfl (by omega))) ?_
      refine Sd.quiet 3 _ _ rfl rfl rfl rfl rfl (QOp.ok (fun X => OpOk.loadFl default rfl rfl ti97 rfl rd.left.left (fun _ => rfl) rfl (by omega))) ?_
      refine Sd.quiet 4 _ _ rfl rfl rfl rfl rfl (QOp.ok (fun X => OpOk.move rfl)) ?_
      refine Sd.quiet 5 _ _ rfl rfl rfl rfl rfl (QOp.ok (fun X => OpOk.move rfl)) ?_
      refine Sd.quiet 6 _ _ rfl rfl rfl rfl rfl (QOp.ok (fun X => OpOk.idxN rfl ti97 rfl rd2.left.left rfl (by omega))) ?_
      refine Sd.quiet 7 _ _ rfl rfl rfl rfl rfl (QOp.ok (fun X => OpOk.loadFl default rfl rfl ti97 rfl rd2.left.left (fun _ => rfl) rfl (by omega))) ?_
      refine Sd.quiet 8 _ _ rfl rfl rfl rfl rfl (QOp.ok (fun X => OpOk.as (c := true) (OpOk.neqTwo two97 rfl rfl) (by rw [decide_eq_false (by omega)]; rfl))) ?_
      (apply Sd.tail; case hall => kernel_rfl)
      refine RunL.mem (fl2 (sep_emp _) (sep_emp _)) ?_
      refine RunL.nil ?_
      refine Run.condT rfl ?_
      refine Run.seq ?_
      refine Run.region ?_
      refine RunL.ok (OpOk.assign rfl) rfl ?_
      refine RunL.nil ?_
      refine Run.ret1 Try.func67 rfl rfl ?_
      exact ⟨by rw [decide_eq_false hne], rfl⟩
  · obtain rfl : i = a.length := by omega
    clear ih
    rw [List.take_length, hlen, List.take_length] at hi2
    refine Run.seq ?_
    refine Run.seq ?_
    refine Run.region ?_
    refine RunL.ok (OpOk.move rfl) rfl ?_
    refine RunL.ok (OpOk.move rfl) rfl ?_
    refine RunL.ok (OpOk.lenR rfl rfl rd rfl) rfl ?_
    refine RunL.ok (OpOk.asF (OpOk.lss rfl rfl) (by omega)) rfl ?_
    refine RunL.nil ?_
    refine Run.condF rfl ?_
    refine Run.exit rfl ?_
    refine Run.seq ?_
    refine Run.region ?_
    refine RunL.ok (OpOk.assign rfl) rfl ?_
    refine RunL.nil ?_
    refine Run.ret1 Try.func67 rfl rfl ?_
    rw [decide_eq_true (by first | omega | with_reducible rfl | assumption)]
    exact ⟨rfl, rfl⟩
theorem s38 {u1 u2 : Value} {a b : List Po} {m k : Nat} (rd : Rd w0 A u1 3 m (Fl encT63 a)) (rd2 : Rd w0 A u2 3 k (Fl encT63 b)) (al : Alls (GP w0) A a) (al2 : Alls (GP w0) A b) :
    Spec Try.prog w0 38 [u1, u2] A (fun v' A' => v' = .bool (decide (a.map ct = b.map ct)) ∧ A' = A) := by
  have hl0 := rd.lenFl (fun _ => rfl) (by decide)
  have hl1 := rd2.lenFl (fun _ => rfl) (by decide)
  subst hl0 hl1
  have hm1 := rd.max
  refine Spec.of_run [(0, u1), (1, u2)] Try.func38 rfl (Nat.le_of_ble_eq_true rfl) (by repeat (first | exact trivial | refine ⟨rfl, ?_⟩)) ?_
  refine Run.seq ?_
  refine Run.region ?_
  refine RunL.ok (OpOk.assign rfl) rfl ?_
  refine RunL.nil ?_
  refine Run.seq ?_
  refine Run.seq ?_
  refine Run.region ?_
  refine RunL.ok (OpOk.move rfl) rfl ?_
  refine RunL.ok (OpOk.lenR rfl rfl rd rfl) rfl ?_
  refine RunL.ok (OpOk.move rfl) rfl ?_
  refine RunL.ok (OpOk.lenR rfl rfl rd2 rfl) rfl ?_
  refine RunL.ok (OpOk.neq rfl rfl) rfl ?_
  refine RunL.nil ?_
  refine Run.condN rfl (fun x1 => ?_) (fun x1 => ?_)
  · refine Run.seq ?_
    refine Run.region ?_
    refine RunL.ok (OpOk.assign rfl) rfl ?_
    refine RunL.nil ?_
    refine Run.ret1 Try.func38 rfl rfl ?_
    have hne : a.map ct ≠ b.map ct := fun e => x1 (by have := congrArg List.length e; simp only [List.length_map] at this; omega)
    exact ⟨by rw [decide_eq_false hne], rfl⟩
  refine Run.skip ?_
  refine Run.seq ?_
  refine Run.seq ?_
  refine Run.region ?_
  refine RunL.ok (OpOk.assign rfl) rfl ?_
  refine RunL.nil ?_
  refine Run.block ?_
  refine Run.jump ((Run.loopJ (X := Nat) (fun i => [(0, u1), (1, u2), (5, .int .i64 (i : Int))]) (fun _ => A) (fun i => i ≤ a.length ∧ (a.take i).map ct = (b.take i).map ct) (fun i => a.length - i) 0 ⟨Nat.zero_le _, by simp⟩ (fun i hi ih => ?_))) ⟨rfl, rfl, rfl, trivial⟩ ((Grew.refl _))
  obtain ⟨hi1, hi2⟩ := hi
  have hlen : a.length = b.length := by omega
  rcases Nat.lt_or_ge i a.length with hlt | hge
  · have rda : Rd w0 A (a.getD i default).2.2.1.1 2 (a.getD i default).2.2.2.length (Fl encT97 (a.getD i default).2.2.2) := al.get hlt
    have rdb : Rd w0 A (b.getD i default).2.2.1.1 2 (b.getD i default).2.2.2.length (Fl encT97 (b.getD i default).2.2.2) := al2.get (by omega)
    have hlb : i < b.length := by omega
    rcases Decidable.em ((a.getD i default).1 = (b.getD i default).1 ∧ (a.getD i default).2.1 = (b.getD i default).2.1 ∧ (a.getD i default).2.2.2 = (b.getD i default).2.2.2) with hc | hc
    · have e : (a.take (i + 1)).map ct = (b.take (i + 1)).map ct := by
        rw [take_next hlt, take_next hlb, List.map_append, List.map_append, hi2]
        simp only [List.map_cons, List.map_nil, ct, hc.1, hc.2.1, hc.2.2]
      obtain ⟨hc1, hc2, hc3⟩ := hc
      refine Run.seq ?_
      refine Run.seq ?_
      refine Run.region ?_
      refine RunL.ok (OpOk.move rfl) rfl ?_
      refine RunL.ok (OpOk.move rfl) rfl ?_
      refine RunL.ok (OpOk.lenR rfl rfl rd rfl) rfl ?_
      refine RunL.ok (OpOk.asT (OpOk.lss rfl rfl) (by omega)) rfl ?_
      refine RunL.nil ?_
      refine Run.condT rfl ?_
      refine Run.skip ?_
      refine Run.seq ?_
      refine Run.block ?_
      refine Run.seq ?_
      (apply Run.drawD [] (by rfl) (sep_emp _).symm; case hchk => kernel_rfl)
      refine Sd.quiet 0 _ _ rfl rfl rfl rfl rfl (QOp.ok (fun X => OpOk.move rfl)) ?_
      refine Sd.quiet 1 _ _ rfl rfl rfl rfl rfl (QOp.ok (fun X => OpOk.move rfl)) ?_
      refine Sd.quiet 2 _ _ rfl rfl rfl rfl rfl (QOp.ok (fun X => OpOk.idxN rfl ti63 rfl rd.left.left rfl (by omega))) ?_
      refine Sd.quiet 3 _ _ rfl rfl rfl rfl rfl (QOp.ok (fun X => OpOk.fieldAddrA fld63_0 rfl)) ?_
      refine Sd.quiet 4 _ _ rfl rfl rfl rfl rfl (QOp.ok (fun X => OpOk.loadFl1 default rfl rfl rfl rd.left.left (fun _ => rfl) rfl (by omega) rfl)) ?_
      refine Sd.quiet 5 _ _ rfl rfl rfl rfl rfl (QOp.ok (fun X => OpOk.move rfl)) ?_
      refine Sd.quiet 6 _ _ rfl rfl rfl rfl rfl (QOp.ok (fun X => OpOk.move rfl)) ?_
      refine Sd.quiet 7 _ _ rfl rfl rfl rfl rfl (QOp.ok (fun X => OpOk.idxN rfl ti63 rfl rd2.left.left rfl (by omega))) ?_
      refine Sd.quiet 8 _ _ rfl rfl rfl rfl rfl (QOp.ok (fun X => OpOk.fieldAddrA fld63_0 rfl)) ?_
      refine Sd.quiet 9 _ _ rfl rfl rfl rfl rfl (QOp.ok (fun X => OpOk.loadFl1 default rfl rfl rfl rd2.left.left (fun _ => rfl) rfl (by omega) rfl)) ?_
      refine Sd.quiet 10 _ _ rfl rfl rfl rfl rfl (QOp.ok (fun X => OpOk.as (c := false) (OpOk.neq rfl rfl) (by rw [decide_eq_true (by omega)]; rfl))) ?_
      refine Sd.quiet 11 _ _ rfl rfl rfl rfl rfl (QOp.ok (fun X => OpOk.move rfl)) ?_
      refine Sd.quiet 12 _ _ rfl rfl rfl rfl rfl (QOp.ok (fun X => OpOk.move rfl)) ?_
      refine Sd.quiet 13 _ _ rfl rfl rfl rfl rfl (QOp.ok (fun X => OpOk.move rfl)) ?_
      refine Sd.quiet 14 _ _ rfl rfl rfl rfl rfl (QOp.ok (fun X => OpOk.idxN rfl ti63 rfl rd.left.left rfl (by omega))) ?_
      refine Sd.quiet 15 _ _ rfl rfl rfl rfl rfl (QOp.ok (fun X => OpOk.fieldAddrA fld63_1 rfl)) ?_
      refine Sd.quiet 16 _ _ rfl rfl rfl rfl rfl (QOp.ok (fun X => OpOk.loadFl1 default rfl rfl rfl rd.left.left (fun _ => rfl) rfl (by omega) rfl)) ?_
      refine Sd.quiet 17 _ _ rfl rfl rfl rfl rfl (QOp.ok (fun X => OpOk.move rfl)) ?_
      refine Sd.quiet 18 _ _ rfl rfl rfl rfl rfl (QOp.ok (fun X => OpOk.move rfl)) ?_
      refine Sd.quiet 19 _ _ rfl rfl rfl rfl rfl (QOp.ok (fun X => OpOk.idxN rfl ti63 rfl rd2.left.left rfl (by omega))) ?_
      refine Sd.quiet 20 _ _ rfl rfl rfl rfl rfl (QOp.ok (fun X => OpOk.fieldAddrA fld63_1 rfl)) ?_
      refine Sd.quiet 21 _ _ rfl rfl rfl rfl rfl (QOp.ok (fun X => OpOk.loadFl1 default rfl rfl rfl rd2.left.left (fun _ => rfl) rfl (by omega) rfl)) ?_
      refine Sd.quiet 22 _ _ rfl rfl rfl rfl rfl (QOp.ok (fun X => OpOk.as (c := false) (OpOk.neq rfl rfl) (by rw [decide_eq_true (by omega)]; rfl))) ?_
      refine Sd.quiet 23 _ _ rfl rfl rfl rfl rfl (QOp.ok (fun X => OpOk.pickF rfl rfl)) ?_
      refine Sd.quiet 24 _ _ rfl rfl rfl rfl rfl (QOp.ok (fun X => OpOk.move rfl)) ?_
      refine Sd.quiet 25 _ _ rfl rfl rfl rfl rfl (QOp.ok (fun X => OpOk.move rfl)) ?_
      refine Sd.quiet 26 _ _ rfl rfl rfl rfl rfl (QOp.ok (fun X => OpOk.move rfl)) ?_
      refine Sd.quiet 27 _ _ rfl rfl rfl rfl rfl (QOp.ok (fun X => OpOk.idxN rfl ti63 rfl rd.left.left rfl (by omega))) ?_
      refine Sd.quiet 28 _ _ rfl rfl rfl rfl rfl (QOp.ok (fun X => OpOk.fieldAddrA fld63_2 rfl)) ?_
      refine Sd.quiet 29 _ _ rfl rfl rfl rfl rfl (QOp.ok (fun X => OpOk.loadFl1 default rfl rfl rfl rd.left.left (fun _ => rfl) rfl (by omega) rfl)) ?_
      refine Sd.quiet 30 _ _ rfl rfl rfl rfl rfl (QOp.ok (fun X => OpOk.move rfl)) ?_
      refine Sd.quiet 31 _ _ rfl rfl rfl rfl rfl (QOp.ok (fun X => OpOk.move rfl)) ?_
      refine Sd.quiet 32 _ _ rfl rfl rfl rfl rfl (QOp.ok (fun X => OpOk.idxN rfl ti63 rfl rd2.left.left rfl (by omega))) ?_
      refine Sd.quiet 33 _ _ rfl rfl rfl rfl rfl (QOp.ok (fun X => OpOk.fieldAddrA fld63_2 rfl)) ?_
      refine Sd.quiet 34 _ _ rfl rfl rfl rfl rfl (QOp.ok (fun X => OpOk.loadFl1 default rfl rfl rfl rd2.left.left (fun _ => rfl) rfl (by omega) rfl)) ?_
      refine Sd.quiet 35 _ _ rfl rfl rfl rfl rfl (QOp.call cal67 rfl (fun X => s67 rda.left.left rdb.left.left)) ?_
      refine Sd.quiet 36 _ _ rfl rfl rfl rfl rfl (QOp.ok (fun X => OpOk.not rfl)) ?_
      refine Sd.quiet 37 _ _ rfl rfl rfl rfl rfl (QOp.ok (fun X => OpOk.pickF rfl rfl)) ?_
      (apply Sd.tail; case hall => kernel_rfl)
      refine RunL.mem (fl2 (sep_emp _) (sep_emp _)) ?_
      refine RunL.nil ?_
      refine Run.condNF rfl (by first | omega | with_reducible rfl | assumption) ?_
      refine Run.skip ?_
      refine Run.inBlock ?_
      refine Run.region ?_
      refine RunL.ok (OpOk.move rfl) rfl ?_
      refine RunL.ok (OpOk.addN _ 1 rfl rfl rfl rfl (by omega)) rfl ?_
      refine RunL.ok (OpOk.assign rfl) rfl ?_
      refine RunL.nil ?_
      refine Run.jump ((ih (i + 1) ⟨by omega, e⟩ (by omega))) ⟨rfl, rfl, rfl, trivial⟩ ((Grew.refl _))
    · have hne : a.map ct ≠ b.map ct := fun e => hc (by
        have h1 := congrArg (fun l => l[i]?) e
        simp only [List.getElem?_map, getD_at hlt (d := default), getD_at hlb (d := default), Option.map_some, Option.some.injEq, ct, Prod.mk.injEq] at h1
        exact h1)
      refine Run.seq ?_
      refine Run.seq ?_
      refine Run.region ?_
      refine RunL.ok (OpOk.move rfl) rfl ?_
      refine RunL.ok (OpOk.move rfl) rfl ?_
      refine RunL.ok (OpOk.lenR rfl rfl rd rfl) rfl ?_
      refine RunL.ok (OpOk.asT (OpOk.lss rfl rfl) (by omega)) rfl ?_
      refine RunL.nil ?_
      refine Run.condT rfl ?_
      refine Run.skip ?_
      refine Run.seq ?_
      refine Run.block ?_
      refine Run.seq ?_
      (apply Run.drawD [] (by rfl) (sep_emp _).symm; case hchk => kernel_rfl)
      refine Sd.quiet 0 _ _ rfl rfl rfl rfl rfl (QOp.ok (fun X => OpOk.move rfl)) ?_
      refine Sd.quiet 1 _ _ rfl rfl rfl rfl rfl (QOp.ok (fun X => OpOk.move rfl)) ?_
      refine Sd.quiet 2 _ _ rfl rfl rfl rfl rfl (QOp.ok (fun X => OpOk.idxN rfl ti63 rfl rd.left.left rfl (by omega))) ?_
      refine Sd.quiet 3 _ _ rfl rfl rfl rfl rfl (QOp.ok (fun X => OpOk.fieldAddrA fld63_0 rfl)) ?_
      refine Sd.quiet 4 _ _ rfl rfl rfl rfl rfl (QOp.ok (fun X => OpOk.loadFl1 default rfl rfl rfl rd.left.left (fun _ => rfl) rfl (by omega) rfl)) ?_
      refine Sd.quiet 5 _ _ rfl rfl rfl rfl rfl (QOp.ok (fun X => OpOk.move rfl)) ?_
      refine Sd.quiet 6 _ _ rfl rfl rfl rfl rfl (QOp.ok (fun X => OpOk.move rfl)) ?_
      refine Sd.quiet 7 _ _ rfl rfl rfl rfl rfl (QOp.ok (fun X => OpOk.idxN rfl ti63 rfl rd2.left.left rfl (by omega))) ?_
      refine Sd.quiet 8 _ _ rfl rfl rfl rfl rfl (QOp.ok (fun X => OpOk.fieldAddrA fld63_0 rfl)) ?_
      refine Sd.quiet 9 _ _ rfl rfl rfl rfl rfl (QOp.ok (fun X => OpOk.loadFl1 default rfl rfl rfl rd2.left.left (fun _ => rfl) rfl (by omega) rfl)) ?_
      refine Sd.quiet 10 _ _ rfl rfl rfl rfl rfl (QOp.ok (fun X => OpOk.neq rfl rfl)) ?_
      refine Sd.quiet 11 _ _ rfl rfl rfl rfl rfl (QOp.ok (fun X => OpOk.move rfl)) ?_
      refine Sd.splitN (fun y1 => ?_) (fun y1 => ?_)
      · refine Sd.skip 12 _ rfl rfl rfl rfl rfl ?_
        refine Sd.skip 13 _ rfl rfl rfl rfl rfl ?_
        refine Sd.skip 14 _ rfl rfl rfl rfl rfl ?_
        refine Sd.skip 15 _ rfl rfl rfl rfl rfl ?_
        refine Sd.skip 16 _ rfl rfl rfl rfl rfl ?_
        refine Sd.skip 17 _ rfl rfl rfl rfl rfl ?_
        refine Sd.skip 18 _ rfl rfl rfl rfl rfl ?_
        refine Sd.skip 19 _ rfl rfl rfl rfl rfl ?_
        refine Sd.skip 20 _ rfl rfl rfl rfl rfl ?_
        refine Sd.skip 21 _ rfl rfl rfl rfl rfl ?_
        refine Sd.skip 22 _ rfl rfl rfl rfl rfl ?_
        refine Sd.quiet 23 _ _ rfl rfl rfl rfl rfl (QOp.ok (fun X => OpOk.pickT rfl rfl)) ?_
        refine Sd.quiet 24 _ _ rfl rfl rfl rfl rfl (QOp.ok (fun X => OpOk.move rfl)) ?_
        refine Sd.skip 25 _ rfl rfl rfl rfl rfl ?_
        refine Sd.skip 26 _ rfl rfl rfl rfl rfl ?_
        refine Sd.skip 27 _ rfl rfl rfl rfl rfl ?_
        refine Sd.skip 28 _ rfl rfl rfl rfl rfl ?_
        refine Sd.skip 29 _ rfl rfl rfl rfl rfl ?_
        refine Sd.skip 30 _ rfl rfl rfl rfl rfl ?_
        refine Sd.skip 31 _ rfl rfl rfl rfl rfl ?_
        refine Sd.skip 32 _ rfl rfl rfl rfl rfl ?_
        refine Sd.skip 33 _ rfl rfl rfl rfl rfl ?_
        refine Sd.skip 34 _ rfl rfl rfl rfl rfl ?_
        refine Sd.skip 35 _ rfl rfl rfl rfl rfl ?_
        refine Sd.skip 36 _ rfl rfl rfl rfl rfl ?_
        refine Sd.quiet 37 _ _ rfl rfl rfl rfl rfl (QOp.ok (fun X => OpOk.pickT rfl rfl)) ?_
        (apply Sd.tail; case hall => kernel_rfl)
        refine RunL.mem (fl2 (sep_emp _) (sep_emp _)) ?_
        refine RunL.nil ?_
        refine Run.condT rfl ?_
        refine Run.seq ?_
        refine Run.region ?_
        refine RunL.ok (OpOk.assign rfl) rfl ?_
        refine RunL.nil ?_
        refine Run.ret1 Try.func38 rfl rfl ?_
        first | exact ⟨by rw [decide_eq_false hne], rfl⟩ | exact absurd ⟨by assumption, by assumption, by assumption⟩ hc
      refine Sd.quiet 12 _ _ rfl rfl rfl rfl rfl (QOp.ok (fun X => OpOk.move rfl)) ?_
      refine Sd.quiet 13 _ _ rfl rfl rfl rfl rfl (QOp.ok (fun X => OpOk.move rfl)) ?_
      refine Sd.quiet 14 _ _ rfl rfl rfl rfl rfl (QOp.ok (fun X => OpOk.idxN rfl ti63 rfl rd.left.left rfl (by omega))) ?_
      refine Sd.quiet 15 _ _ rfl rfl rfl rfl rfl (QOp.ok (fun X => OpOk.fieldAddrA fld63_1 rfl)) ?_
      refine Sd.quiet 16 _ _ rfl rfl rfl rfl rfl (QOp.ok (fun X => OpOk.loadFl1 default rfl rfl rfl rd.left.left (fun _ => rfl) rfl (by omega) rfl)) ?_
      refine Sd.quiet 17 _ _ rfl rfl rfl rfl rfl (QOp.ok (fun X => OpOk.move rfl)) ?_
      refine Sd.quiet 18 _ _ rfl rfl rfl rfl rfl (QOp.ok (fun X => OpOk.move rfl)) ?_
      refine Sd.quiet 19 _ _ rfl rfl rfl rfl rfl (QOp.ok (fun X => OpOk.idxN rfl ti63 rfl rd2.left.left rfl (by omega))) ?_
      refine Sd.quiet 20 _ _ rfl rfl rfl rfl rfl (QOp.ok (fun X => OpOk.fieldAddrA fld63_1 rfl)) ?_
      refine Sd.quiet 21 _ _ rfl rfl rfl rfl rfl (QOp.ok (fun X => OpOk.loadFl1 default rfl rfl rfl rd2.left.left (fun _ => rfl) rfl (by omega) rfl)) ?_
      refine Sd.quiet 22 _ _ rfl rfl rfl rfl rfl (QOp.ok (fun X => OpOk.neq rfl rfl)) ?_
      refine Sd.quiet 23 _ _ rfl rfl rfl rfl rfl (QOp.ok (fun X => OpOk.pickF rfl rfl)) ?_
      refine Sd.quiet 24 _ _ rfl rfl rfl rfl rfl (QOp.ok (fun X => OpOk.move rfl)) ?_
      refine Sd.splitN (fun y2 => ?_) (fun y2 => ?_)
      · refine Sd.skip 25 _ rfl rfl rfl rfl rfl ?_
        refine Sd.skip 26 _ rfl rfl rfl rfl rfl ?_
        refine Sd.skip 27 _ rfl rfl rfl rfl rfl ?_
        refine Sd.skip 28 _ rfl rfl rfl rfl rfl ?_
        refine Sd.skip 29 _ rfl rfl rfl rfl rfl ?_
        refine Sd.skip 30 _ rfl rfl rfl rfl rfl ?_
        refine Sd.skip 31 _ rfl rfl rfl rfl rfl ?_
        refine Sd.skip 32 _ rfl rfl rfl rfl rfl ?_
        refine Sd.skip 33 _ rfl rfl rfl rfl rfl ?_
        refine Sd.skip 34 _ rfl rfl rfl rfl rfl ?_
        refine Sd.skip 35 _ rfl rfl rfl rfl rfl ?_
        refine Sd.skip 36 _ rfl rfl rfl rfl rfl ?_
        refine Sd.quiet 37 _ _ rfl rfl rfl rfl rfl (QOp.ok (fun X => OpOk.pickT rfl rfl)) ?_
        (apply Sd.tail; case hall => kernel_rfl)
        refine RunL.mem (fl2 (sep_emp _) (sep_emp _)) ?_
        refine RunL.nil ?_
        refine Run.condT rfl ?_
        refine Run.seq ?_
        refine Run.region ?_
        refine RunL.ok (OpOk.assign rfl) rfl ?_
        refine RunL.nil ?_
        refine Run.ret1 Try.func38 rfl rfl ?_
        first | exact ⟨by rw [decide_eq_false hne], rfl⟩ | exact absurd ⟨by assumption, by assumption, by assumption⟩ hc
      refine Sd.quiet 25 _ _ rfl rfl rfl rfl rfl (QOp.ok (fun X => OpOk.move rfl)) ?_
      refine Sd.quiet 26 _ _ rfl rfl rfl rfl rfl (QOp.ok (fun X => OpOk.move rfl)) ?_
      refine Sd.quiet 27 _ _ rfl rfl rfl rfl rfl (QOp.ok (fun X => OpOk.idxN rfl ti63 rfl rd.left.left rfl (by omega))) ?_
      refine Sd.quiet 28 _ _ rfl rfl rfl rfl rfl (QOp.ok (fun X => OpOk.fieldAddrA fld63_2 rfl)) ?_
      refine Sd.quiet 29 _ _ rfl rfl rfl rfl rfl (QOp.ok (fun X => OpOk.loadFl1 default rfl rfl rfl rd.left.left (fun _ => rfl) rfl (by omega) rfl)) ?_
      refine Sd.quiet 30 _ _ rfl rfl rfl rfl rfl (QOp.ok (fun X => OpOk.move rfl)) ?_
      refine Sd.quiet 31 _ _ rfl rfl rfl rfl rfl (QOp.ok (fun X => OpOk.move rfl)) ?_
      refine Sd.quiet 32 _ _ rfl rfl rfl rfl rfl (QOp.ok (fun X => OpOk.idxN rfl ti63 rfl rd2.left.left rfl (by omega))) ?_
      refine Sd.quiet 33 _ _ rfl rfl rfl rfl rfl (QOp.ok (fun X => OpOk.fieldAddrA fld63_2 rfl)) ?_
      refine Sd.quiet 34 _ _ rfl rfl rfl rfl rfl (QOp.ok (fun X => OpOk.loadFl1 default rfl rfl rfl rd2.left.left (fun _ => rfl) rfl (by omega) rfl)) ?_
      refine Sd.quiet 35 _ _ rfl rfl rfl rfl rfl (QOp.call cal67 rfl (fun X => s67 rda.left.left rdb.left.left)) ?_
      refine Sd.quiet 36 _ _ rfl rfl rfl rfl rfl (QOp.ok (fun X => OpOk.not rfl)) ?_
      refine Sd.quiet 37 _ _ rfl rfl rfl rfl rfl (QOp.ok (fun X => OpOk.pickF rfl rfl)) ?_
      (apply Sd.tail; case hall => kernel_rfl)
      refine RunL.mem (fl2 (sep_emp _) (sep_emp _)) ?_
      refine RunL.nil ?_
      refine Run.condN rfl (fun y3 => ?_) (fun y3 => ?_)
      · refine Run.seq ?_
        refine Run.region ?_
        refine RunL.ok (OpOk.assign rfl) rfl ?_
        refine RunL.nil ?_
        refine Run.ret1 Try.func38 rfl rfl ?_
        first | exact ⟨by rw [decide_eq_false hne], rfl⟩ | exact absurd ⟨by assumption, by assumption, by assumption⟩ hc
      refine Run.skip ?_
      refine Run.inBlock ?_
      refine Run.region ?_
      refine RunL.ok (OpOk.move rfl) rfl ?_
      refine RunL.ok (OpOk.addN _ 1 rfl rfl rfl rfl (by omega)) rfl ?_
      refine RunL.ok (OpOk.assign rfl) rfl ?_
      refine RunL.nil ?_
      first | exact ⟨by rw [decide_eq_false hne], rfl⟩ | exact absurd ⟨by assumption, by assumption, by assumption⟩ hc
  · obtain rfl : i = a.length := by omega
    clear ih
    rw [List.take_length, hlen, List.take_length] at hi2
    refine Run.seq ?_
    refine Run.seq ?_
    refine Run.region ?_
    refine RunL.ok (OpOk.move rfl) rfl ?_
    refine RunL.ok (OpOk.move rfl) rfl ?_
    refine RunL.ok (OpOk.lenR rfl rfl rd rfl) rfl ?_
    refine RunL.ok (OpOk.asF (OpOk.lss rfl rfl) (by omega)) rfl ?_
    refine RunL.nil ?_
    refine Run.condF rfl ?_
    refine Run.exit rfl ?_
    refine Run.seq ?_
    refine Run.region ?_
    refine RunL.ok (OpOk.assign rfl) rfl ?_
    refine RunL.nil ?_
    refine Run.ret1 Try.func38 rfl rfl ?_
    rw [decide_eq_true (by first | omega | with_reducible rfl | assumption)]
    exact ⟨rfl, rfl⟩
theorem s35 {u : Value} {ps : List Po} {m : Nat} (rd : Rd w0 A u 3 m (Fl encT63 ps)) (al : Alls (GP w0) A ps) (hm : ∀ q ∈ ps, q.2.2.2.length ≤ 8796093022208) (hL : ps.length ≤ 1099511627776) :
    Spec Try.prog w0 35 [u] A (fun v' A' => ∃ M J, M.map ct = ps.map ct ∧ A' = A * J * own 63 3 v' M.length (Fl encT63 M) * ownsP M) := by
  have hl0 := rd.lenFl (fun _ => rfl) (by decide)
  subst hl0
  refine Spec.of_run [(0, u)] Try.func35 rfl (Nat.le_of_ble_eq_true rfl) (by repeat (first | exact trivial | refine ⟨rfl, ?_⟩)) ?_
  refine Run.seq ?_
  refine Run.region ?_
  refine RunL.ok (OpOk.assign rfl) rfl ?_
  refine RunL.nil ?_
  refine Run.seq ?_
  refine Run.region ?_
  refine RunL.ok (OpOk.assign rfl) rfl ?_
  refine RunL.nil ?_
  refine Run.seq ?_
  refine Run.seq ?_
  refine Run.region ?_
  refine RunL.ok (OpOk.assign rfl) rfl ?_
  refine RunL.nil ?_
  refine Run.block ?_
  refine Run.ent (Ent.ownNil' _ 63 3 (Fl encT63 ([] : List Po)) rfl) ?_
  refine Run.mem (sep_emp _).symm ?_
  rw [← ownsP_nil]
  refine Run.jump ((Run.loopJ (X := Nat × Asn × Value × List Po) (fun x => [(4, .int .i64 (x.1 : Int)), (3, x.2.2.1), (0, u)]) (fun x => A * x.2.1 * own 63 3 x.2.2.1 x.2.2.2.length (Fl encT63 x.2.2.2) * ownsP x.2.2.2) (fun x => x.1 ≤ ps.length ∧ x.2.2.2.map ct = (ps.take x.1).map ct) (fun x => ps.length - x.1) (0, _, .slice none 0 0, []) ⟨Nat.zero_le _, by simp⟩ (fun x hx ih => ?_))) ⟨rfl, rfl, rfl, trivial⟩ (Grew.of (Eq.trans (frc rfl (frc rfl rfl)) (congrArg (· * _) (congrArg (· * _) as0))) (Grew.refl _))
  obtain ⟨i, J, v3, M⟩ := x
  simp only at hx ih ⊢
  obtain ⟨hi, hM⟩ := hx
  have hMl : M.length = min i ps.length := by have := congrArg List.length hM; simpa using this
  rcases Nat.lt_or_ge i ps.length with hlt | hge
  · have rdi : Rd w0 A (ps.getD i default).2.2.1.1 2 (ps.getD i default).2.2.2.length (Fl encT97 (ps.getD i default).2.2.2) := al.get hlt
    have hmi := hm _ (getD_mem hlt)
    have hone : ∀ w ∈ (Value.agg (encT63 (ps.getD i default)).toArray).cells.toList, w.oneCell' = true := fun w hw => OneC.one (enc := encT63) _ w hw
    refine Run.seq ?_
    refine Run.seq ?_
    refine Run.region ?_
    refine RunL.ok (OpOk.move rfl) rfl ?_
    refine RunL.ok (OpOk.move rfl) rfl ?_
    refine RunL.ok (OpOk.lenR rfl rfl rd.left.left.left rfl) rfl ?_
    refine RunL.ok (OpOk.asT (OpOk.lss rfl rfl) (by omega)) rfl ?_
    refine RunL.nil ?_
    refine Run.condT rfl ?_
    refine Run.skip ?_
    refine Run.seq ?_
    refine Run.block ?_
    refine Run.seq ?_
    refine Run.region ?_
    refine RunL.ok (OpOk.move rfl) rfl ?_
    refine RunL.ok (OpOk.move rfl) rfl ?_
    refine RunL.ok (OpOk.idxN rfl ti63 rfl rd.left.left.left rfl (by omega)) rfl ?_
    refine RunL.ok (OpOk.loadFl default rfl rfl ti63 rfl rd.left.left.left (fun _ => rfl) rfl (by omega)) rfl ?_
    refine RunL.alloc ti63 rfl (fun by1 => ?_)
    refine RunL.storeAll ti63 rfl rfl rfl (by assumption) rfl rfl ?_
    refine RunL.nil ?_
    refine Run.seq ?_
    refine Run.region ?_
    refine RunL.lit0 rfl ti97 rfl (fun vy2 rdy2 => ?_)
    refine RunL.ok (OpOk.fieldAddr fld63_2 rfl) rfl ?_
    refine RunL.ok (OpOk.load rfl rfl rfl (Blk.out Blk.pts.left _ _ (by first | rfl | assumption))) rfl ?_
    refine RunL.appendF0 rfl ti97 rfl rfl rfl rfl rdi.left.left.left.left.left rfl (by decide) (by omega) (by simp only [maxLen]; omega) rfl (fun vy3 rdy3 => ?_)
    refine RunL.ok (OpOk.fieldAddr fld63_2 rfl) rfl ?_
    refine RunL.know (fun w s => (s.conv rfl).ownRd0) (fun rdy4 => ?_)
    refine RunL.store ti61 rfl rfl (Rd.one rdy4) (frl rfl) (by exact Nat.le_of_ble_eq_true rfl) (.inl rfl) ?_
    refine RunL.nil ?_
    refine Run.region ?_
    refine RunL.ok (OpOk.move rfl) rfl ?_
    refine RunL.ok (OpOk.loadS rfl rfl ti63 rfl Blk.pts rfl) rfl ?_
    refine RunL.litFl (enc := encT63) [((ps.getD i default).1, (ps.getD i default).2.1, (⟨vy3, Rd.one rdy3⟩ : SV), (ps.getD i default).2.2.2)] rfl ti63 rfl (fun _ => rfl) rfl rfl (by decide) (by decide) rfl (fun v23 rd23 => ?_)
    refine RunL.know (fun w s => (s.conv rfl).ownRd0) (fun rdz2 => ?_)
    refine RunL.appendF rfl ti63 rfl rfl rfl (frl (frl (frl (frl rfl)))) (Rd.right rdz2) rfl (by decide) (by omega) (by simp only [maxLen]; omega) rfl (fun vz1 rdz1 => ?_)
    refine RunL.ok (OpOk.assign rfl) rfl ?_
    refine RunL.nil ?_
    refine Run.inBlock ?_
    refine Run.region ?_
    refine RunL.ok (OpOk.move rfl) rfl ?_
    refine RunL.ok (OpOk.addN _ 1 rfl rfl rfl rfl (by omega)) rfl ?_
    refine RunL.ok (OpOk.assign rfl) rfl ?_
    refine RunL.nil ?_
    rw [show M.length + 1 = (M ++ [((ps.getD i default).1, (ps.getD i default).2.1, (⟨vy3, Rd.one rdy3⟩ : SV), (ps.getD i default).2.2.2)]).length by simp]
    refine Run.jump ((ih (i + 1, _, _, M ++ [((ps.getD i default).1, (ps.getD i default).2.1, (⟨vy3, Rd.one rdy3⟩ : SV), (ps.getD i default).2.2.2)]) ⟨by dsimp only; omega, by dsimp only; rw [take_next hlt, List.map_append, List.map_append, hM]; simp [ct]⟩ (by dsimp only; omega))) ⟨rfl, rfl, rfl, trivial⟩ (by simp only [ownsP_snoc, ← sep_assoc]; exact (Grew.of (Eq.trans (frc (frl (frl (frl rfl))) (frc (frl (frl (frl rfl))) rfl)) (congrArg (· * _) (congrArg (· * _) (congrArg (· * _) (asg (asg as1)))))) (Grew.refl _)))
  · obtain rfl : i = ps.length := by omega
    clear ih
    rw [List.take_length] at hM
    refine Run.seq ?_
    refine Run.seq ?_
    refine Run.region ?_
    refine RunL.ok (OpOk.move rfl) rfl ?_
    refine RunL.ok (OpOk.move rfl) rfl ?_
    refine RunL.ok (OpOk.lenR rfl rfl rd.left.left.left rfl) rfl ?_
    refine RunL.ok (OpOk.asF (OpOk.lss rfl rfl) (by omega)) rfl ?_
    refine RunL.nil ?_
    refine Run.condF rfl ?_
    refine Run.exit rfl ?_
    refine Run.seq ?_
    refine Run.region ?_
    refine RunL.ok (OpOk.move rfl) rfl ?_
    refine RunL.ok (OpOk.assign rfl) rfl ?_
    refine RunL.nil ?_
    refine Run.ret1 Try.func35 rfl rfl ?_
    exact ⟨M, J, hM, rfl⟩
end
end Go.Proofs.Ytegbfnibjgpbpaa
