/- The document's Post. -/
import Derived.Test.YtegbfnibjgpbpaaLgb
namespace Go.Proofs.Ytegbfnibjgpbpaa
open Go Go.Proofs
set_option maxRecDepth 100000
set_option maxHeartbeats 4000000
set_option linter.unusedSimpArgs false
section
variable {w0 : World} {A : Asn} {p mb nb : Nat} {av pv : Value} {bal : List Int} {ks : List (Int × Int)} {L : List Po}
theorem s53 {u pu : Value} {n m2 : Nat} {e : Int} {b2 : List Int} {all ps all2 : List Po} (rd2 : Rd w0 A pu 3 m2 (Fl encT63 ps)) (al : Alls (GP w0) A all) (al2 : Alls (GP w0) A ps) (hp : postF (n + 1) ks bal [] ps = (e, b2)) (hks : ks = all.map keyP) (hrel : Rel (n + 1) bal all) (hl : bal.length = n + 1)
    (hin : ∀ q ∈ all ++ ps, ∀ s ∈ q.2.2.2, inI s.2) (hm : ∀ q ∈ all ++ ps, q.2.2.2.length ≤ 1048576) (hL : all.length + ps.length ≤ 1048576) (hn5 : n + 1 ≤ 5) (h2 : all2 = if e = 0 then all ++ ps else all) :
    Spec Try.prog w0 53 [u, .int .i64 (n : Int), pu] (A * own 63 3 u all.length (Fl encT63 all)) (fun v' A' => ∃ (v1 : Value) (J : Asn), v' = .tuple #[v1, .int .i64 e] ∧ A' = A * J * own 63 3 v1 all2.length (Fl encT63 all2)) := by
  have hl0 := rd2.lenFl (fun _ => rfl) (by decide)
  subst hl0
  have hmx := rd2.max
  refine Spec.of_run [(0, u), (1, .int .i64 (n : Int)), (2, pu)] Try.func53 rfl (Nat.le_of_ble_eq_true rfl) (by repeat (first | exact trivial | refine ⟨rfl, ?_⟩)) ?_
  refine Run.seq ?_
  refine Run.region ?_
  refine RunL.ok (OpOk.assign rfl) rfl ?_
  refine RunL.ok (OpOk.assign rfl) rfl ?_
  refine RunL.nil ?_
  refine Run.seq ?_
  refine Run.region ?_
  refine RunL.ok (OpOk.assign rfl) rfl ?_
  refine RunL.nil ?_
  refine Run.seq ?_
  refine Run.region ?_
  refine RunL.ok (OpOk.move rfl) rfl ?_
  refine RunL.ok (OpOk.move rfl) rfl ?_
  refine RunL.know (fun w s => (s.conv rfl).ownRd0) (fun rdx2 => ?_)
  refine RunL.ent (Ent.ownNil' _ 63 3 [] rfl) ?_
  refine RunL.appendF0 rfl ti63 rfl rfl rfl rfl (Rd.right rdx2).left rfl (by decide) (by omega) (by simp only [maxLen]; omega) rfl (fun vx1 rdx1 => ?_)
  refine RunL.ok (OpOk.assign rfl) rfl ?_
  refine RunL.nil ?_
  refine Run.seq ?_
  refine Run.seq ?_
  refine Run.region ?_
  refine RunL.ok (OpOk.assign rfl) rfl ?_
  refine RunL.nil ?_
  refine Run.block ?_
  rw [show own 63 3 vx1 all.length (Fl encT63 all) = own 63 3 vx1 (all ++ ps.take 0).length (Fl encT63 (all ++ ps.take 0)) by simp]
  refine Run.jump ((Run.loopJ (X := Nat × Asn × Value × List Int) (fun x => [(9, .int .i64 (x.1 : Int)), (8, x.2.2.1), (0, u), (1, .int .i64 (n : Int)), (2, pu)]) (fun x => A * x.2.1 * own 63 3 u all.length (Fl encT63 all) * own 63 3 x.2.2.1 (all ++ ps.take x.1).length (Fl encT63 (all ++ ps.take x.1))) (fun x => x.1 ≤ ps.length ∧ x.2.2.2.length = n + 1 ∧ Rel (n + 1) x.2.2.2 (all ++ ps.take x.1) ∧ postF (n + 1) ks x.2.2.2 ((ps.take x.1).map keyP) (ps.drop x.1) = (e, b2)) (fun x => ps.length - x.1) (0, _, vx1, bal) ⟨Nat.zero_le _, hl, by simpa using hrel, by simpa using hp⟩ (fun x hx ih => ?_))) ⟨rfl, rfl, rfl, rfl, rfl, trivial⟩ (Grew.of (congrArg (· * _) (congrArg (· * _) as0)) (Grew.refl _))
  obtain ⟨i, J, v8, bl⟩ := x
  simp only at hx ih ⊢
  obtain ⟨hi, hbl, hr, hp⟩ := hx
  have hn : ((n + 1 : Nat) : Int) = (n : Int) + 1 := by omega
  have hNl : (all ++ ps.take i).length ≤ 1048576 := by rw [List.length_append, List.length_take]; omega
  rcases Nat.lt_or_ge i ps.length with hlt | hge
  · have rdi : Rd w0 A (ps.getD i default).2.2.1.1 2 (ps.getD i default).2.2.2.length (Fl encT97 (ps.getD i default).2.2.2) := al2.get hlt
    have hini := hin _ (List.mem_append_right _ (getD_mem hlt))
    have hmi : (ps.getD i default).2.2.2.length ≤ 8796093022208 := Nat.le_trans (hm _ (List.mem_append_right _ (getD_mem hlt))) (by decide)
    have hone : ∀ w ∈ (Value.agg (encT63 (ps.getD i default)).toArray).cells.toList, w.oneCell' = true := fun w hw => OneC.one (enc := encT63) _ w hw
    rw [drop_next hlt] at hp
    simp only [postF] at hp
    cases hrb : rightB (n + 1) (ps.getD i default) with
    | false =>
      rw [if_neg (by rw [hrb]; decide)] at hp
      obtain ⟨rfl, rfl⟩ := Prod.mk.inj hp
      rw [if_neg (by decide)] at h2
      subst h2
      refine Run.seq ?_
      refine Run.seq ?_
      refine Run.region ?_
      refine RunL.ok (OpOk.move rfl) rfl ?_
      refine RunL.ok (OpOk.move rfl) rfl ?_
      refine RunL.ok (OpOk.lenR rfl rfl rd2.left.left.left rfl) rfl ?_
      refine RunL.ok (OpOk.asT (OpOk.lss rfl rfl) (by omega)) rfl ?_
      refine RunL.nil ?_
      refine Run.condT rfl ?_
      refine Run.skip ?_
      refine Run.seq ?_
      refine Run.block ?_
      refine Run.seq ?_
      refine Run.seq ?_
      refine Run.region ?_
      refine RunL.ok (OpOk.move rfl) rfl ?_
      refine RunL.ok (OpOk.move rfl) rfl ?_
      refine RunL.ok (OpOk.move rfl) rfl ?_
      refine RunL.ok (OpOk.idxN rfl ti63 rfl rd2.left.left.left rfl (by omega)) rfl ?_
      refine RunL.ok (OpOk.loadFl default rfl rfl ti63 rfl rd2.left.left.left (fun _ => rfl) rfl (by omega)) rfl ?_
      refine RunL.call cal74 rfl (s74 (by assumption) rdi.left.left.left (by assumption) (by assumption)) rfl (fun vy1 Ay1 hy1 => ?_)
      obtain ⟨y2, ⟨rfl, rfl⟩⟩ := hy1
      refine RunL.ok (OpOk.not rfl) rfl ?_
      refine RunL.nil ?_
      refine Run.condBT rfl (by rw [hrb]; rfl) ?_
      refine Run.seq ?_
      refine Run.region ?_
      refine RunL.ok (OpOk.move rfl) rfl ?_
      refine RunL.ok (OpOk.assign rfl) rfl ?_
      refine RunL.ok (OpOk.assign rfl) rfl ?_
      refine RunL.nil ?_
      refine Run.ret2 Try.func53 rfl rfl rfl ?_
      exact ⟨_, _, rfl, (Eq.trans (frc (frl (frl rfl)) rfl) (congrArg (· * _) (asg (asg as1))))⟩
    | true =>
      rw [if_pos hrb] at hp
      rcases Decidable.em (((ps.getD i default).1, (ps.getD i default).2.1) ∈ (all ++ ps.take i).map keyP) with hk | hk
      · have hk2 := hk
        rw [List.map_append, List.mem_append, ← hks] at hk2
        rw [if_pos hk2] at hp
        obtain ⟨rfl, rfl⟩ := Prod.mk.inj hp
        rw [if_neg (by decide)] at h2
        subst h2
        refine Run.seq ?_
        refine Run.seq ?_
        refine Run.region ?_
        refine RunL.ok (OpOk.move rfl) rfl ?_
        refine RunL.ok (OpOk.move rfl) rfl ?_
        refine RunL.ok (OpOk.lenR rfl rfl rd2.left.left.left rfl) rfl ?_
        refine RunL.ok (OpOk.asT (OpOk.lss rfl rfl) (by omega)) rfl ?_
        refine RunL.nil ?_
        refine Run.condT rfl ?_
        refine Run.skip ?_
        refine Run.seq ?_
        refine Run.block ?_
        refine Run.seq ?_
        refine Run.seq ?_
        refine Run.region ?_
        refine RunL.ok (OpOk.move rfl) rfl ?_
        refine RunL.ok (OpOk.move rfl) rfl ?_
        refine RunL.ok (OpOk.move rfl) rfl ?_
        refine RunL.ok (OpOk.idxN rfl ti63 rfl rd2.left.left.left rfl (by omega)) rfl ?_
        refine RunL.ok (OpOk.loadFl default rfl rfl ti63 rfl rd2.left.left.left (fun _ => rfl) rfl (by omega)) rfl ?_
        refine RunL.call cal74 rfl (s74 (by assumption) rdi.left.left.left (by assumption) (by assumption)) rfl (fun vy1 Ay1 hy1 => ?_)
        obtain ⟨y2, ⟨rfl, rfl⟩⟩ := hy1
        refine RunL.ok (OpOk.not rfl) rfl ?_
        refine RunL.nil ?_
        refine Run.condBF rfl (by rw [hrb]; rfl) ?_
        refine Run.skip ?_
        refine Run.seq ?_
        refine Run.seq ?_
        refine Run.know (fun w s => (s.conv (frl rfl)).ownRd0) (fun rdy3 => ?_)
        (apply Run.drawD [] (by rfl) (sep_emp _).symm; case hchk => kernel_rfl)
        refine Sd.quiet 0 _ _ rfl rfl rfl rfl rfl (QOp.ok (fun X => OpOk.move rfl)) ?_
        refine Sd.quiet 1 _ _ rfl rfl rfl rfl rfl (QOp.ok (fun X => OpOk.move rfl)) ?_
        refine Sd.quiet 2 _ _ rfl rfl rfl rfl rfl (QOp.ok (fun X => OpOk.move rfl)) ?_
        refine Sd.quiet 3 _ _ rfl rfl rfl rfl rfl (QOp.ok (fun X => OpOk.idxN rfl ti63 rfl rd2.left.left.left.left.left.left rfl (by omega))) ?_
        refine Sd.quiet 4 _ _ rfl rfl rfl rfl rfl (QOp.ok (fun X => OpOk.fieldAddrA fld63_0 rfl)) ?_
        refine Sd.quiet 5 _ _ rfl rfl rfl rfl rfl (QOp.ok (fun X => OpOk.loadFl1 default rfl rfl rfl rd2.left.left.left.left.left.left (fun _ => rfl) rfl (by omega) rfl)) ?_
        refine Sd.quiet 6 _ _ rfl rfl rfl rfl rfl (QOp.ok (fun X => OpOk.move rfl)) ?_
        refine Sd.quiet 7 _ _ rfl rfl rfl rfl rfl (QOp.ok (fun X => OpOk.move rfl)) ?_
        refine Sd.quiet 8 _ _ rfl rfl rfl rfl rfl (QOp.ok (fun X => OpOk.idxN rfl ti63 rfl rd2.left.left.left.left.left.left rfl (by omega))) ?_
        refine Sd.quiet 9 _ _ rfl rfl rfl rfl rfl (QOp.ok (fun X => OpOk.fieldAddrA fld63_1 rfl)) ?_
        refine Sd.quiet 10 _ _ rfl rfl rfl rfl rfl (QOp.ok (fun X => OpOk.loadFl1 default rfl rfl rfl rd2.left.left.left.left.left.left (fun _ => rfl) rfl (by omega) rfl)) ?_
        refine Sd.quiet 11 _ _ rfl rfl rfl rfl rfl (QOp.call cal56 rfl (fun X => s56 (Rd.right rdy3).left.left.left)) ?_
        (apply Sd.tail; case hall => kernel_rfl)
        refine RunL.mem (fl2 (sep_emp _) (sep_emp _)) ?_
        refine RunL.nil ?_
        refine Run.condDT rfl (by first | omega | with_reducible rfl | assumption) ?_
        refine Run.seq ?_
        refine Run.region ?_
        refine RunL.ok (OpOk.move rfl) rfl ?_
        refine RunL.ok (OpOk.assign rfl) rfl ?_
        refine RunL.ok (OpOk.assign rfl) rfl ?_
        refine RunL.nil ?_
        refine Run.ret2 Try.func53 rfl rfl rfl ?_
        exact ⟨_, _, rfl, (Eq.trans (frc (frl (frl rfl)) rfl) (congrArg (· * _) (asg (asg as1))))⟩
      · have hk2 := hk
        rw [List.map_append, List.mem_append, ← hks] at hk2
        rw [if_neg hk2] at hp
        have alN : Alls (GP w0) A (all ++ ps.take i ++ [ps.getD i default]) := Alls.append (Alls.append al al2.take) (Alls.cons rdi Alls.nil)
        have hsub : ∀ q ∈ all ++ ps.take i ++ [ps.getD i default], q ∈ all ++ ps := fun q hq => by
          simp only [List.mem_append, List.mem_singleton] at hq ⊢
          rcases hq with (h | h) | rfl
          · exact .inl h
          · exact .inr (List.mem_of_mem_take h)
          · exact .inr (getD_mem hlt)
        have hinN : ∀ q ∈ all ++ ps.take i ++ [ps.getD i default], ∀ s ∈ q.2.2.2, inI s.2 := fun q hq => hin q (hsub q hq)
        have hmN : ∀ q ∈ all ++ ps.take i ++ [ps.getD i default], q.2.2.2.length ≤ 1048576 := fun q hq => hm q (hsub q hq)
        have hLN : (all ++ ps.take i ++ [ps.getD i default]).length ≤ 1048576 := by rw [List.length_append, List.length_append, List.length_take, List.length_singleton]; omega
        have hok := (right_sum hrb).2
        cases ha : addsO bl (ps.getD i default).2.2.2 with
        | none =>
          rw [ha] at hp
          obtain ⟨rfl, rfl⟩ := Prod.mk.inj hp
          obtain ⟨k0, hk01, hk02, hk03⟩ := adds_none ha hok hbl
          rw [← hr.app hk01 hk02] at hk03
          refine Run.seq ?_
          refine Run.seq ?_
          refine Run.region ?_
          refine RunL.ok (OpOk.move rfl) rfl ?_
          refine RunL.ok (OpOk.move rfl) rfl ?_
          refine RunL.ok (OpOk.lenR rfl rfl rd2.left.left.left rfl) rfl ?_
          refine RunL.ok (OpOk.asT (OpOk.lss rfl rfl) (by omega)) rfl ?_
          refine RunL.nil ?_
          refine Run.condT rfl ?_
          refine Run.skip ?_
          refine Run.seq ?_
          refine Run.block ?_
          refine Run.seq ?_
          refine Run.seq ?_
          refine Run.region ?_
          refine RunL.ok (OpOk.move rfl) rfl ?_
          refine RunL.ok (OpOk.move rfl) rfl ?_
          refine RunL.ok (OpOk.move rfl) rfl ?_
          refine RunL.ok (OpOk.idxN rfl ti63 rfl rd2.left.left.left rfl (by omega)) rfl ?_
          refine RunL.ok (OpOk.loadFl default rfl rfl ti63 rfl rd2.left.left.left (fun _ => rfl) rfl (by omega)) rfl ?_
          refine RunL.call cal74 rfl (s74 (by assumption) rdi.left.left.left (by assumption) (by assumption)) rfl (fun vy1 Ay1 hy1 => ?_)
          obtain ⟨y2, ⟨rfl, rfl⟩⟩ := hy1
          refine RunL.ok (OpOk.not rfl) rfl ?_
          refine RunL.nil ?_
          refine Run.condBF rfl (by rw [hrb]; rfl) ?_
          refine Run.skip ?_
          refine Run.seq ?_
          refine Run.seq ?_
          refine Run.know (fun w s => (s.conv (frl rfl)).ownRd0) (fun rdy3 => ?_)
          (apply Run.drawD [] (by rfl) (sep_emp _).symm; case hchk => kernel_rfl)
          refine Sd.quiet 0 _ _ rfl rfl rfl rfl rfl (QOp.ok (fun X => OpOk.move rfl)) ?_
          refine Sd.quiet 1 _ _ rfl rfl rfl rfl rfl (QOp.ok (fun X => OpOk.move rfl)) ?_
          refine Sd.quiet 2 _ _ rfl rfl rfl rfl rfl (QOp.ok (fun X => OpOk.move rfl)) ?_
          refine Sd.quiet 3 _ _ rfl rfl rfl rfl rfl (QOp.ok (fun X => OpOk.idxN rfl ti63 rfl rd2.left.left.left.left.left.left rfl (by omega))) ?_
          refine Sd.quiet 4 _ _ rfl rfl rfl rfl rfl (QOp.ok (fun X => OpOk.fieldAddrA fld63_0 rfl)) ?_
          refine Sd.quiet 5 _ _ rfl rfl rfl rfl rfl (QOp.ok (fun X => OpOk.loadFl1 default rfl rfl rfl rd2.left.left.left.left.left.left (fun _ => rfl) rfl (by omega) rfl)) ?_
          refine Sd.quiet 6 _ _ rfl rfl rfl rfl rfl (QOp.ok (fun X => OpOk.move rfl)) ?_
          refine Sd.quiet 7 _ _ rfl rfl rfl rfl rfl (QOp.ok (fun X => OpOk.move rfl)) ?_
          refine Sd.quiet 8 _ _ rfl rfl rfl rfl rfl (QOp.ok (fun X => OpOk.idxN rfl ti63 rfl rd2.left.left.left.left.left.left rfl (by omega))) ?_
          refine Sd.quiet 9 _ _ rfl rfl rfl rfl rfl (QOp.ok (fun X => OpOk.fieldAddrA fld63_1 rfl)) ?_
          refine Sd.quiet 10 _ _ rfl rfl rfl rfl rfl (QOp.ok (fun X => OpOk.loadFl1 default rfl rfl rfl rd2.left.left.left.left.left.left (fun _ => rfl) rfl (by omega) rfl)) ?_
          refine Sd.quiet 11 _ _ rfl rfl rfl rfl rfl (QOp.call cal56 rfl (fun X => s56 (Rd.right rdy3).left.left.left)) ?_
          (apply Sd.tail; case hall => kernel_rfl)
          refine RunL.mem (fl2 (sep_emp _) (sep_emp _)) ?_
          refine RunL.nil ?_
          refine Run.condDF rfl (by first | omega | assumption) ?_
          refine Run.skip ?_
          refine Run.seq ?_
          refine Run.region ?_
          refine RunL.ok (OpOk.move rfl) rfl ?_
          refine RunL.ok (OpOk.move rfl) rfl ?_
          refine RunL.ok (OpOk.move rfl) rfl ?_
          refine RunL.ok (OpOk.idxN rfl ti63 rfl rd2.left.left.left.left rfl (by omega)) rfl ?_
          refine RunL.ok (OpOk.loadFl default rfl rfl ti63 rfl rd2.left.left.left.left (fun _ => rfl) rfl (by omega)) rfl ?_
          refine RunL.litFl (enc := encT63) [ps.getD i default] rfl ti63 rfl (fun _ => rfl) rfl rfl (by decide) (by decide) rfl (fun vy4 rdy4 => ?_)
          refine RunL.know (fun w s => (s.conv rfl).ownRd0) (fun rdy6 => ?_)
          refine RunL.appendF rfl ti63 rfl rfl rfl (frl (frl rfl)) (Rd.right rdy6) rfl (by decide) (by omega) (by simp only [maxLen]; omega) rfl (fun vy5 rdy5 => ?_)
          refine RunL.ok (OpOk.assign rfl) rfl ?_
          refine RunL.nil ?_
          refine Run.seq ?_
          refine Run.region ?_
          refine RunL.ok (OpOk.assign rfl) rfl ?_
          refine RunL.nil ?_
          refine Run.block ?_
          refine Run.jump ((Run.loopJ (X := Nat × Asn) (fun x => [(10, .int .i64 (x.1 : Int)), (9, .int .i64 (i : Int)), (8, vy5), (0, u), (1, .int .i64 (n : Int)), (2, pu)]) (fun x => A * x.2 * own 63 3 u all.length (Fl encT63 all) * own 63 3 vy5 ((all ++ ps.take i).length + 1) (Fl encT63 (all ++ ps.take i ++ [ps.getD i default]))) (fun x => 1 ≤ x.1 ∧ x.1 ≤ k0) (fun x => k0 - x.1) (1, _) ⟨Nat.le_refl _, by omega⟩ (fun x hx ih2 => ?_))) ⟨rfl, rfl, rfl, rfl, rfl, rfl, trivial⟩ (Grew.of (Eq.trans (frc rfl (frc (frl (frl rfl)) rfl)) (congrArg (· * _) (congrArg (· * _) (asg (asg as1))))) (Grew.refl _))
          obtain ⟨k, J2⟩ := x
          simp only at hx ih2 ⊢
          obtain ⟨hk1, hk2⟩ := hx
          cases hs : sumO 0 (amts (k : Int) (all ++ ps.take i ++ [ps.getD i default])) with
          | none =>
            rw [if_neg (by decide)] at h2
            subst h2
            refine Run.seq ?_
            refine Run.seq ?_
            refine Run.region ?_
            refine RunL.ok (OpOk.move rfl) rfl ?_
            refine RunL.ok (OpOk.move rfl) rfl ?_
            refine RunL.ok (OpOk.asT (OpOk.leq rfl rfl) (by omega)) rfl ?_
            refine RunL.nil ?_
            refine Run.condT rfl ?_
            refine Run.skip ?_
            refine Run.seq ?_
            refine Run.block ?_
            refine Run.seq ?_
            refine Run.region ?_
            refine RunL.ok (OpOk.move rfl) rfl ?_
            refine RunL.ok (OpOk.move rfl) rfl ?_
            refine RunL.know (fun w s => (s.conv rfl).ownRd0) (fun rdz1 => ?_)
            refine RunL.call cal55 rfl (s55b (Rd.right rdz1) alN.left.left.left (by assumption) (by assumption) (by assumption) (by assumption)) rfl (fun vz3 Az3 hz3 => ?_)
            obtain ⟨z4, ⟨rfl, rfl⟩⟩ := hz3
            refine RunL.ok (OpOk.move rfl) rfl ?_
            refine RunL.ok (OpOk.ext20 rfl) rfl ?_
            refine RunL.ok (OpOk.ext21 rfl) rfl ?_
            refine RunL.ok (OpOk.assign rfl) rfl ?_
            refine RunL.ok (OpOk.assign rfl) rfl ?_
            refine RunL.nil ?_
            refine Run.seq ?_
            refine Run.region ?_
            refine RunL.ok (OpOk.move rfl) rfl ?_
            refine RunL.ok (OpOk.not rfl) rfl ?_
            refine RunL.nil ?_
            refine Run.condT rfl ?_
            refine Run.seq ?_
            refine Run.region ?_
            refine RunL.ok (OpOk.move rfl) rfl ?_
            refine RunL.ok (OpOk.assign rfl) rfl ?_
            refine RunL.ok (OpOk.assign rfl) rfl ?_
            refine RunL.nil ?_
            refine Run.ret2 Try.func53 rfl rfl rfl ?_
            exact ⟨_, _, rfl, (Eq.trans (frc (frl (frl rfl)) rfl) (congrArg (· * _) (asg (asg as1))))⟩
          | some z =>
            have hkk : k ≠ k0 := fun e => by subst e; rw [hk03] at hs; cases hs
            refine Run.seq ?_
            refine Run.seq ?_
            refine Run.region ?_
            refine RunL.ok (OpOk.move rfl) rfl ?_
            refine RunL.ok (OpOk.move rfl) rfl ?_
            refine RunL.ok (OpOk.asT (OpOk.leq rfl rfl) (by omega)) rfl ?_
            refine RunL.nil ?_
            refine Run.condT rfl ?_
            refine Run.skip ?_
            refine Run.seq ?_
            refine Run.block ?_
            refine Run.seq ?_
            refine Run.region ?_
            refine RunL.ok (OpOk.move rfl) rfl ?_
            refine RunL.ok (OpOk.move rfl) rfl ?_
            refine RunL.know (fun w s => (s.conv rfl).ownRd0) (fun rdz1 => ?_)
            refine RunL.call cal55 rfl (s55a (Rd.right rdz1) alN.left.left.left (by assumption) (by assumption) (by assumption) (by assumption)) rfl (fun vz2 Az2 hz2 => ?_)
            obtain ⟨z3, ⟨rfl, rfl⟩⟩ := hz2
            refine RunL.ok (OpOk.move rfl) rfl ?_
            refine RunL.ok (OpOk.ext20 rfl) rfl ?_
            refine RunL.ok (OpOk.ext21 rfl) rfl ?_
            refine RunL.ok (OpOk.assign rfl) rfl ?_
            refine RunL.ok (OpOk.assign rfl) rfl ?_
            refine RunL.nil ?_
            refine Run.seq ?_
            refine Run.region ?_
            refine RunL.ok (OpOk.move rfl) rfl ?_
            refine RunL.ok (OpOk.not rfl) rfl ?_
            refine RunL.nil ?_
            refine Run.condF rfl ?_
            refine Run.skip ?_
            refine Run.inBlock ?_
            refine Run.region ?_
            refine RunL.ok (OpOk.move rfl) rfl ?_
            refine RunL.ok (OpOk.addN _ 1 rfl rfl rfl rfl (by omega)) rfl ?_
            refine RunL.ok (OpOk.assign rfl) rfl ?_
            refine RunL.nil ?_
            refine Run.jump ((ih2 (k + 1, _) ⟨by dsimp only; omega, by dsimp only; omega⟩ (by dsimp only; omega))) ⟨rfl, rfl, rfl, rfl, rfl, rfl, trivial⟩ (Grew.of (Eq.trans (frc (frl rfl) (frc (frl rfl) rfl)) (congrArg (· * _) (congrArg (· * _) (asg as1)))) (Grew.refl _))
        | some c =>
          rw [ha] at hp
          have hrN : Rel (n + 1) c (all ++ ps.take i ++ [ps.getD i default]) := fun k h1 h2 => by rw [hr.app h1 h2]; exact adds_some ha hok hbl k
          have hcl : c.length = n + 1 := (addsO_len ha).1.trans hbl
          refine Run.seq ?_
          refine Run.seq ?_
          refine Run.region ?_
          refine RunL.ok (OpOk.move rfl) rfl ?_
          refine RunL.ok (OpOk.move rfl) rfl ?_
          refine RunL.ok (OpOk.lenR rfl rfl rd2.left.left.left rfl) rfl ?_
          refine RunL.ok (OpOk.asT (OpOk.lss rfl rfl) (by omega)) rfl ?_
          refine RunL.nil ?_
          refine Run.condT rfl ?_
          refine Run.skip ?_
          refine Run.seq ?_
          refine Run.block ?_
          refine Run.seq ?_
          refine Run.seq ?_
          refine Run.region ?_
          refine RunL.ok (OpOk.move rfl) rfl ?_
          refine RunL.ok (OpOk.move rfl) rfl ?_
          refine RunL.ok (OpOk.move rfl) rfl ?_
          refine RunL.ok (OpOk.idxN rfl ti63 rfl rd2.left.left.left rfl (by omega)) rfl ?_
          refine RunL.ok (OpOk.loadFl default rfl rfl ti63 rfl rd2.left.left.left (fun _ => rfl) rfl (by omega)) rfl ?_
          refine RunL.call cal74 rfl (s74 (by assumption) rdi.left.left.left (by assumption) (by assumption)) rfl (fun vy1 Ay1 hy1 => ?_)
          obtain ⟨y2, ⟨rfl, rfl⟩⟩ := hy1
          refine RunL.ok (OpOk.not rfl) rfl ?_
          refine RunL.nil ?_
          refine Run.condBF rfl (by rw [hrb]; rfl) ?_
          refine Run.skip ?_
          refine Run.seq ?_
          refine Run.seq ?_
          refine Run.know (fun w s => (s.conv (frl rfl)).ownRd0) (fun rdy3 => ?_)
          (apply Run.drawD [] (by rfl) (sep_emp _).symm; case hchk => kernel_rfl)
          refine Sd.quiet 0 _ _ rfl rfl rfl rfl rfl (QOp.ok (fun X => OpOk.move rfl)) ?_
          refine Sd.quiet 1 _ _ rfl rfl rfl rfl rfl (QOp.ok (fun X => OpOk.move rfl)) ?_
          refine Sd.quiet 2 _ _ rfl rfl rfl rfl rfl (QOp.ok (fun X => OpOk.move rfl)) ?_
          refine Sd.quiet 3 _ _ rfl rfl rfl rfl rfl (QOp.ok (fun X => OpOk.idxN rfl ti63 rfl rd2.left.left.left.left.left.left rfl (by omega))) ?_
          refine Sd.quiet 4 _ _ rfl rfl rfl rfl rfl (QOp.ok (fun X => OpOk.fieldAddrA fld63_0 rfl)) ?_
          refine Sd.quiet 5 _ _ rfl rfl rfl rfl rfl (QOp.ok (fun X => OpOk.loadFl1 default rfl rfl rfl rd2.left.left.left.left.left.left (fun _ => rfl) rfl (by omega) rfl)) ?_
          refine Sd.quiet 6 _ _ rfl rfl rfl rfl rfl (QOp.ok (fun X => OpOk.move rfl)) ?_
          refine Sd.quiet 7 _ _ rfl rfl rfl rfl rfl (QOp.ok (fun X => OpOk.move rfl)) ?_
          refine Sd.quiet 8 _ _ rfl rfl rfl rfl rfl (QOp.ok (fun X => OpOk.idxN rfl ti63 rfl rd2.left.left.left.left.left.left rfl (by omega))) ?_
          refine Sd.quiet 9 _ _ rfl rfl rfl rfl rfl (QOp.ok (fun X => OpOk.fieldAddrA fld63_1 rfl)) ?_
          refine Sd.quiet 10 _ _ rfl rfl rfl rfl rfl (QOp.ok (fun X => OpOk.loadFl1 default rfl rfl rfl rd2.left.left.left.left.left.left (fun _ => rfl) rfl (by omega) rfl)) ?_
          refine Sd.quiet 11 _ _ rfl rfl rfl rfl rfl (QOp.call cal56 rfl (fun X => s56 (Rd.right rdy3).left.left.left)) ?_
          (apply Sd.tail; case hall => kernel_rfl)
          refine RunL.mem (fl2 (sep_emp _) (sep_emp _)) ?_
          refine RunL.nil ?_
          refine Run.condDF rfl (by first | omega | assumption) ?_
          refine Run.skip ?_
          refine Run.seq ?_
          refine Run.region ?_
          refine RunL.ok (OpOk.move rfl) rfl ?_
          refine RunL.ok (OpOk.move rfl) rfl ?_
          refine RunL.ok (OpOk.move rfl) rfl ?_
          refine RunL.ok (OpOk.idxN rfl ti63 rfl rd2.left.left.left.left rfl (by omega)) rfl ?_
          refine RunL.ok (OpOk.loadFl default rfl rfl ti63 rfl rd2.left.left.left.left (fun _ => rfl) rfl (by omega)) rfl ?_
          refine RunL.litFl (enc := encT63) [ps.getD i default] rfl ti63 rfl (fun _ => rfl) rfl rfl (by decide) (by decide) rfl (fun vy4 rdy4 => ?_)
          refine RunL.know (fun w s => (s.conv rfl).ownRd0) (fun rdy6 => ?_)
          refine RunL.appendF rfl ti63 rfl rfl rfl (frl (frl rfl)) (Rd.right rdy6) rfl (by decide) (by omega) (by simp only [maxLen]; omega) rfl (fun vy5 rdy5 => ?_)
          refine RunL.ok (OpOk.assign rfl) rfl ?_
          refine RunL.nil ?_
          refine Run.seq ?_
          refine Run.region ?_
          refine RunL.ok (OpOk.assign rfl) rfl ?_
          refine RunL.nil ?_
          refine Run.block ?_
          refine Run.jump ((Run.loopJ (X := Nat × Asn) (fun x => [(10, .int .i64 (x.1 : Int)), (9, .int .i64 (i : Int)), (8, vy5), (0, u), (1, .int .i64 (n : Int)), (2, pu)]) (fun x => A * x.2 * own 63 3 u all.length (Fl encT63 all) * own 63 3 vy5 ((all ++ ps.take i).length + 1) (Fl encT63 (all ++ ps.take i ++ [ps.getD i default]))) (fun x => 1 ≤ x.1 ∧ x.1 ≤ n + 1) (fun x => n + 1 - x.1) (1, _) ⟨Nat.le_refl _, by omega⟩ (fun x hx ih2 => ?_))) ⟨rfl, rfl, rfl, rfl, rfl, rfl, trivial⟩ (Grew.of (Eq.trans (frc rfl (frc (frl (frl rfl)) rfl)) (congrArg (· * _) (congrArg (· * _) (asg (asg as1))))) (Grew.refl _))
          obtain ⟨k, J2⟩ := x
          simp only at hx ih2 ⊢
          obtain ⟨hk1, hk2⟩ := hx
          rcases Nat.lt_or_ge k (n + 1) with hkn | hkn
          · have hs := hrN k hk1 hkn
            refine Run.seq ?_
            refine Run.seq ?_
            refine Run.region ?_
            refine RunL.ok (OpOk.move rfl) rfl ?_
            refine RunL.ok (OpOk.move rfl) rfl ?_
            refine RunL.ok (OpOk.asT (OpOk.leq rfl rfl) (by omega)) rfl ?_
            refine RunL.nil ?_
            refine Run.condT rfl ?_
            refine Run.skip ?_
            refine Run.seq ?_
            refine Run.block ?_
            refine Run.seq ?_
            refine Run.region ?_
            refine RunL.ok (OpOk.move rfl) rfl ?_
            refine RunL.ok (OpOk.move rfl) rfl ?_
            refine RunL.know (fun w s => (s.conv rfl).ownRd0) (fun rdz1 => ?_)
            refine RunL.call cal55 rfl (s55a (Rd.right rdz1) alN.left.left.left (by assumption) (by assumption) (by assumption) (by assumption)) rfl (fun vz2 Az2 hz2 => ?_)
            obtain ⟨z3, ⟨rfl, rfl⟩⟩ := hz2
            refine RunL.ok (OpOk.move rfl) rfl ?_
            refine RunL.ok (OpOk.ext20 rfl) rfl ?_
            refine RunL.ok (OpOk.ext21 rfl) rfl ?_
            refine RunL.ok (OpOk.assign rfl) rfl ?_
            refine RunL.ok (OpOk.assign rfl) rfl ?_
            refine RunL.nil ?_
            refine Run.seq ?_
            refine Run.region ?_
            refine RunL.ok (OpOk.move rfl) rfl ?_
            refine RunL.ok (OpOk.not rfl) rfl ?_
            refine RunL.nil ?_
            refine Run.condF rfl ?_
            refine Run.skip ?_
            refine Run.inBlock ?_
            refine Run.region ?_
            refine RunL.ok (OpOk.move rfl) rfl ?_
            refine RunL.ok (OpOk.addN _ 1 rfl rfl rfl rfl (by omega)) rfl ?_
            refine RunL.ok (OpOk.assign rfl) rfl ?_
            refine RunL.nil ?_
            refine Run.jump ((ih2 (k + 1, _) ⟨by dsimp only; omega, by dsimp only; omega⟩ (by dsimp only; omega))) ⟨rfl, rfl, rfl, rfl, rfl, rfl, trivial⟩ (Grew.of (Eq.trans (frc (frl rfl) (frc (frl rfl) rfl)) (congrArg (· * _) (congrArg (· * _) (asg as1)))) (Grew.refl _))
          · obtain rfl : k = n + 1 := by omega
            clear ih2
            refine Run.seq ?_
            refine Run.seq ?_
            refine Run.region ?_
            refine RunL.ok (OpOk.move rfl) rfl ?_
            refine RunL.ok (OpOk.move rfl) rfl ?_
            refine RunL.ok (OpOk.asF (OpOk.leq rfl rfl) (by omega)) rfl ?_
            refine RunL.nil ?_
            refine Run.condF rfl ?_
            refine Run.exit rfl ?_
            refine Run.inBlock ?_
            refine Run.region ?_
            refine RunL.ok (OpOk.move rfl) rfl ?_
            refine RunL.ok (OpOk.addN _ 1 rfl rfl rfl rfl (by omega)) rfl ?_
            refine RunL.ok (OpOk.assign rfl) rfl ?_
            refine RunL.nil ?_
            have e1 : all ++ ps.take i ++ [ps.getD i default] = all ++ ps.take (i + 1) := by rw [take_next hlt, List.append_assoc]
            have e2 : (all ++ ps.take i).length + 1 = (all ++ ps.take (i + 1)).length := by rw [List.length_append, List.length_append, List.length_take, List.length_take]; omega
            rw [e1, e2]
            rw [e1] at hrN
            refine Run.jump ((ih (i + 1, _, _, c) ⟨by dsimp only; omega, hcl, hrN, by dsimp only; rw [take_next hlt, List.map_append]; exact hp⟩ (by dsimp only; omega))) ⟨rfl, rfl, rfl, rfl, rfl, trivial⟩ (Grew.of (congrArg (· * _) (congrArg (· * _) as1)) (Grew.refl _))
  · obtain rfl : i = ps.length := by omega
    clear ih
    rw [List.drop_length] at hp
    obtain ⟨rfl, rfl⟩ := Prod.mk.inj hp
    rw [if_pos rfl] at h2
    subst h2
    rw [List.take_length]
    refine Run.seq ?_
    refine Run.seq ?_
    refine Run.region ?_
    refine RunL.ok (OpOk.move rfl) rfl ?_
    refine RunL.ok (OpOk.move rfl) rfl ?_
    refine RunL.ok (OpOk.lenR rfl rfl rd2.left.left.left rfl) rfl ?_
    refine RunL.ok (OpOk.asF (OpOk.lss rfl rfl) (by omega)) rfl ?_
    refine RunL.nil ?_
    refine Run.condF rfl ?_
    refine Run.exit rfl ?_
    refine Run.seq ?_
    refine Run.region ?_
    refine RunL.ok (OpOk.move rfl) rfl ?_
    refine RunL.ok (OpOk.assign rfl) rfl ?_
    refine RunL.ok (OpOk.assign rfl) rfl ?_
    refine RunL.nil ?_
    refine Run.ret2 Try.func53 rfl rfl rfl ?_
    exact ⟨_, _, rfl, (congrArg (· * _) (asg as1))⟩
theorem s34 {u : Value} {ps : List Po} {m : Nat} {e : Int} {b2 b3 : List Int} {k3 : List (Int × Int)} {c3 : List (Int × Int × List Sh)} (rd : Rd w0 A u 3 m (Fl encT63 ps)) (al : Alls (GP w0) A ps) (hp : postF nb ks bal [] ps = (e, b2)) (h3 : b3 = if e = 0 then b2 else bal) (hk3 : k3 = if e = 0 then ks ++ ps.map keyP else ks) (hc3 : c3 = if e = 0 then L.map ct ++ ps.map ct else L.map ct) (hin : ∀ q ∈ ps, ∀ s ∈ q.2.2.2, inI s.2) (hm : ∀ q ∈ ps, q.2.2.2.length ≤ 8796093022208)
    (hl : bal.length = nb) (hb : ∀ z ∈ bal, inI z) (hnb : nb ≤ 5) (hL : L.length + ps.length ≤ 1099511627776) :
    Spec Try.prog w0 34 [.pointer (some ⟨p, 0, none⟩), u] (A * pts p (.cells #[av, .map (some mb), pv] 109 (0, 0)) * own 3 1 av nb (I (bal)) * setA mb (ks) * own 63 3 pv (L).length (Fl encT63 (L)) * ownsP (L)) (fun v' A' => ∃ av2 pv2 M J, v' = .int .i64 e ∧ M.map ct = c3 ∧ A' = A * J * pts p (.cells #[av2, .map (some mb), pv2] 109 (0, 0)) * own 3 1 av2 nb (I (b3)) * setA mb (k3) * own 63 3 pv2 (M).length (Fl encT63 (M)) * ownsP (M)) := by
  rcases Decidable.em (e = 0) with he | he
  · subst he
    rw [if_pos rfl] at h3 hk3 hc3
    subst h3 hk3 hc3
    exact s34a rd al hp hin hm hl hb hnb hL
  · rw [if_neg he] at h3 hk3 hc3
    subst h3 hk3 hc3
    refine (s34b rd al hp he hin hm hl hb hnb hL).mono ?_
    rintro v' A' ⟨J, rfl, rfl⟩
    exact ⟨av, pv, L, J, rfl, rfl, rfl⟩
end
end Go.Proofs.Ytegbfnibjgpbpaa
