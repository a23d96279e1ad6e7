/- The law LedgerTogether, walked. -/
import Derived.Test.YtegbfnibjgpbpaaLg6
namespace Go.Proofs.Ytegbfnibjgpbpaa
open Go Go.Proofs
set_option maxRecDepth 100000
set_option maxHeartbeats 4000000
set_option linter.unusedSimpArgs false
theorem all_ct {P : Int × Int × List Sh → Prop} {M ps : List Po} (h : M.map ct = ps.map ct) (hp : ∀ q ∈ ps, P (ct q)) : ∀ q ∈ M, P (ct q) := fun q hq => by
  have hm : ct q ∈ ps.map ct := by rw [← h]; exact List.mem_map_of_mem hq
  obtain ⟨r, hr, e⟩ := List.mem_map.1 hm
  rw [← e]
  exact hp r hr
theorem hin_ct {M ps : List Po} (h : M.map ct = ps.map ct) (hp : ∀ q ∈ ps, ∀ s ∈ q.2.2.2, inI s.2) : ∀ q ∈ M, ∀ s ∈ q.2.2.2, inI s.2 := all_ct (P := fun c => ∀ s ∈ c.2.2, inI s.2) h hp
theorem hm_ct {M ps : List Po} (h : M.map ct = ps.map ct) (hp : ∀ q ∈ ps, q.2.2.2.length ≤ 8796093022208) : ∀ q ∈ M, q.2.2.2.length ≤ 8796093022208 := all_ct (P := fun c => c.2.2.length ≤ 8796093022208) h hp
theorem len_ct {M ps : List Po} (h : M.map ct = ps.map ct) : M.length = ps.length := by have := congrArg List.length h; simpa using this
theorem tmod4 (z : Int) : -3 ≤ z.tmod 4 ∧ z.tmod 4 ≤ 3 := by
  rcases Int.le_total 0 z with h | h
  · rw [Int.tmod_eq_emod_of_nonneg h]; omega
  · have : z.tmod 4 = -((-z).tmod 4) := by rw [Int.neg_tmod, Int.neg_neg]
    rw [this, Int.tmod_eq_emod_of_nonneg (by omega)]; omega
section
variable {w0 : World} {A : Asn}
theorem ledgerTogether_spec {ops : Int} {u : Value} {ps : List Po} (rd : Rd w0 (old w0) u 3 ps.length (Fl encT63 ps)) (al : Alls (GP w0) (old w0) ps) (hin : ∀ q ∈ ps, ∀ s ∈ q.2.2.2, inI s.2) (hm : ∀ q ∈ ps, q.2.2.2.length ≤ 8796093022208) :
    Spec Try.prog w0 7 [.int .i64 ops, u] (old w0) (fun v' A' => v' = .bool true ∧ Grew (old w0) A') := by
  obtain ⟨ht1, ht2⟩ := tmod4 ops
  have hmx := rd.max
  rcases Nat.lt_or_ge 100 ps.length with hbig | hsm
  · refine Spec.of_run [(0, .int .i64 ops), (1, u)] Try.func7 rfl (Nat.le_of_ble_eq_true rfl) (by repeat (first | exact trivial | refine ⟨rfl, ?_⟩)) ?_
    refine Run.seq ?_
    refine Run.region ?_
    refine RunL.ok (OpOk.assign rfl) rfl ?_
    refine RunL.nil ?_
    refine Run.seq ?_
    refine Run.seq ?_
    refine Run.region ?_
    refine RunL.call cal32 rfl (s32) rfl (fun vx1 Ax1 hx1 => ?_)
    obtain ⟨x2, ⟨rfl, rfl⟩⟩ := hx1
    refine RunL.ok (OpOk.not rfl) rfl ?_
    refine RunL.ok (OpOk.move rfl) rfl ?_
    refine RunL.on rfl rfl ?_
    refine RunL.ok (OpOk.move rfl) rfl ?_
    refine RunL.on rfl rfl ?_
    refine RunL.ok (OpOk.lenR rfl rfl rd.left rfl) rfl ?_
    refine RunL.on rfl rfl ?_
    refine RunL.ok (OpOk.asT (OpOk.gtr rfl rfl) (by omega)) rfl ?_
    refine RunL.ok (OpOk.pickF rfl rfl) rfl ?_
    refine RunL.nil ?_
    refine Run.condT rfl ?_
    refine Run.seq ?_
    refine Run.region ?_
    refine RunL.call cal32 rfl (s32) rfl (fun vx3 Ax3 hx3 => ?_)
    obtain ⟨x4, ⟨rfl, rfl⟩⟩ := hx3
    refine RunL.ok (OpOk.assign rfl) rfl ?_
    refine RunL.nil ?_
    refine Run.ret1 Try.func7 rfl rfl ?_
    exact ⟨rfl, ⟨_, (asg as1)⟩⟩
  · have hL0 : ps.length ≤ 1099511627776 := by omega
    refine Spec.of_run [(0, .int .i64 ops), (1, u)] Try.func7 rfl (Nat.le_of_ble_eq_true rfl) (by repeat (first | exact trivial | refine ⟨rfl, ?_⟩)) ?_
    refine Run.seq ?_
    refine Run.region ?_
    refine RunL.ok (OpOk.assign rfl) rfl ?_
    refine RunL.nil ?_
    refine Run.seq ?_
    refine Run.seq ?_
    refine Run.region ?_
    refine RunL.call cal32 rfl (s32) rfl (fun vx1 Ax1 hx1 => ?_)
    obtain ⟨x2, ⟨rfl, rfl⟩⟩ := hx1
    refine RunL.ok (OpOk.not rfl) rfl ?_
    refine RunL.ok (OpOk.move rfl) rfl ?_
    refine RunL.on rfl rfl ?_
    refine RunL.ok (OpOk.move rfl) rfl ?_
    refine RunL.on rfl rfl ?_
    refine RunL.ok (OpOk.lenR rfl rfl rd.left rfl) rfl ?_
    refine RunL.on rfl rfl ?_
    refine RunL.ok (OpOk.asF (OpOk.gtr rfl rfl) (by omega)) rfl ?_
    refine RunL.ok (OpOk.pickF rfl rfl) rfl ?_
    refine RunL.nil ?_
    refine Run.condF rfl ?_
    refine Run.skip ?_
    refine Run.seq ?_
    refine Run.region ?_
    refine RunL.ok (OpOk.move rfl) rfl ?_
    refine RunL.ok (OpOk.rem rfl rfl (by decide) rfl) rfl ?_
    refine RunL.ok (OpOk.add rfl rfl (wrapI (by omega) (by omega))) rfl ?_
    refine RunL.ok (OpOk.rem rfl rfl (by decide) (tmodI (by omega))) rfl ?_
    refine RunL.ok (OpOk.add rfl rfl (wrapI (by omega) (by omega))) rfl ?_
    refine RunL.ok (OpOk.assign rfl) rfl ?_
    refine RunL.nil ?_
    refine Run.seq ?_
    refine Run.region ?_
    refine RunL.ok (OpOk.move rfl) rfl ?_
    refine RunL.call cal33 rfl (s33c (by omega) (by omega)) rfl (fun vx4 Ax4 hx4 => ?_)
    obtain ⟨x5, ⟨x6, ⟨x7, ⟨rfl, rfl⟩⟩⟩⟩ := hx4
    refine RunL.ok (OpOk.move rfl) rfl ?_
    refine RunL.ok (OpOk.ext20 rfl) rfl ?_
    refine RunL.ok (OpOk.ext21 rfl) rfl ?_
    refine RunL.ok (OpOk.assign rfl) rfl ?_
    refine RunL.ok (OpOk.assign rfl) rfl ?_
    refine RunL.nil ?_
    refine Run.seq ?_
    refine Run.region ?_
    refine RunL.ok (OpOk.move rfl) rfl ?_
    refine RunL.know (fun w s => (s.conv rfl).ownsP0) (fun alx8 => ?_)
    refine RunL.call cal33 rfl (s33c (by omega) (by omega)) rfl (fun vx10 Ax10 hx10 => ?_)
    obtain ⟨x11, ⟨x12, ⟨x13, ⟨rfl, rfl⟩⟩⟩⟩ := hx10
    refine RunL.ok (OpOk.move rfl) rfl ?_
    refine RunL.ok (OpOk.ext20 rfl) rfl ?_
    refine RunL.ok (OpOk.ext21 rfl) rfl ?_
    refine RunL.ok (OpOk.assign rfl) rfl ?_
    refine RunL.ok (OpOk.assign rfl) rfl ?_
    refine RunL.nil ?_
    refine Run.seq ?_
    refine Run.seq ?_
    refine Run.region ?_
    refine RunL.ok (OpOk.move rfl) rfl ?_
    refine RunL.ok (OpOk.eqlPN rfl rfl) rfl ?_
    refine RunL.ok (OpOk.move rfl) rfl ?_
    refine RunL.on rfl rfl ?_
    refine RunL.ok (OpOk.move rfl) rfl ?_
    refine RunL.on rfl rfl ?_
    refine RunL.ok (OpOk.eqlPN rfl rfl) rfl ?_
    refine RunL.ok (OpOk.pickF rfl rfl) rfl ?_
    refine RunL.ok (OpOk.move rfl) rfl ?_
    refine RunL.on rfl rfl ?_
    refine RunL.ok (OpOk.move rfl) rfl ?_
    refine RunL.on rfl rfl ?_
    refine RunL.ok (OpOk.as (c := false) (OpOk.neq rfl rfl) (by rw [decide_eq_true (by omega)]; rfl)) rfl ?_
    refine RunL.ok (OpOk.pickF rfl rfl) rfl ?_
    refine RunL.ok (OpOk.move rfl) rfl ?_
    refine RunL.on rfl rfl ?_
    refine RunL.ok (OpOk.move rfl) rfl ?_
    refine RunL.on rfl rfl ?_
    refine RunL.ok (OpOk.as (c := false) (OpOk.neq rfl rfl) (by rw [decide_eq_true (by omega)]; rfl)) rfl ?_
    refine RunL.ok (OpOk.pickF rfl rfl) rfl ?_
    refine RunL.nil ?_
    refine Run.condF rfl ?_
    refine Run.skip ?_
    refine Run.seq ?_
    refine Run.region ?_
    refine RunL.ok (OpOk.move rfl) rfl ?_
    refine RunL.ok (OpOk.move rfl) rfl ?_
    refine RunL.call cal35 rfl (s35 rd.left.left.left.left.left.left.left.left.left.left.left al.left.left.left.left.left.left.left.left.left.left.left (by assumption) (by assumption)) rfl (fun vx14 Ax14 hx14 => ?_)
    obtain ⟨x15, ⟨x16, ⟨x17, rfl⟩⟩⟩ := hx14
    refine RunL.know (fun w s => (s.conv rfl).ownsP0) (fun alx18 => ?_)
    refine RunL.know (fun w s => (s.conv (frl rfl)).ownRd0) (fun rdx19 => ?_)
    refine RunL.mem (frc (frl (frl (frl rfl))) (frc (frl (frl (frl rfl))) (frc (frl (frl (frl (frl (frl (frl (frl (frl rfl)))))))) (frc (frl (frl (frl (frl (frl (frl (frl (frl rfl)))))))) (frc (frl (frl (frl (frl (frl (frl (frl (frl rfl)))))))) rfl))))) ?_
    have hn1 : 1 ≤ 1 + (ops.tmod 4 + 4) % 4 := by omega
    have hn4 : 1 + (ops.tmod 4 + 4) % 4 ≤ 4 := by omega
    generalize hn : 1 + (ops.tmod 4 + 4) % 4 = n0 at *
    obtain ⟨n, rfl⟩ := Int.eq_ofNat_of_zero_le (show 0 ≤ n0 by omega)
    simp only [Int.toNat_natCast] at *
    have hN5 : n + 1 ≤ 5 := by omega
    have hz := zeros_in (n + 1)
    have hzl : (List.replicate (n + 1) (0 : Int)).length = n + 1 := by simp
    have hMin := hin_ct x17 hin
    have hMm := hm_ct x17 hm
    have hMl := len_ct x17
    have hkM := keyP_ct x17
    rcases hp : postF (n + 1) [] (List.replicate (n + 1) 0) [] ps with ⟨e, b2⟩
    have hpM : postF (n + 1) [] (List.replicate (n + 1) 0) [] x15 = (e, b2) := (postF_ct x17).trans hp
    have hLx : ([] : List Po).length + x15.length ≤ 1099511627776 := by simp only [List.length_nil]; omega
    rcases Decidable.em (e = 0) with he | he
    · subst he
      obtain ⟨hb2l, hb2i⟩ := postF_len hpM
      rw [hzl] at hb2l
      replace hb2i := hb2i hz
      refine RunL.call cal34 rfl (s34a (Rd.right rdx19).left (Alls.right alx18) (by assumption) (by assumption) (by assumption) (by assumption) (by assumption) (by assumption) (by assumption)) rfl (fun vy1 Ay1 hy1 => ?_)
      obtain ⟨y2, ⟨y3, ⟨y4, ⟨y5, ⟨rfl, ⟨y6, rfl⟩⟩⟩⟩⟩⟩ := hy1
      refine RunL.ok (OpOk.assign rfl) rfl ?_
      refine RunL.nil ?_
      refine Run.seq ?_
      refine Run.region ?_
      refine RunL.ok (OpOk.assign rfl) rfl ?_
      refine RunL.nil ?_
      refine Run.seq ?_
      refine Run.seq ?_
      refine Run.region ?_
      refine RunL.ok (OpOk.assign rfl) rfl ?_
      refine RunL.nil ?_
      refine Run.block ?_
      refine Run.jump ((Run.loopJ (X := Nat × Asn × Value × List Int × Value × List Po × List (Int × Int)) (fun x => [(12, .int .i64 (x.1 : Int)), (11, .int .i64 0), (10, .int .i64 0), (8, .pointer (some ⟨x11, 0, none⟩)), (6, .pointer (some ⟨x5, 0, none⟩)), (5, .int .i64 (n : Int)), (1, u)]) (fun x => old w0 * x.2.1 * pts x5 (.cells #[y2, .map (some x7), y3] 109 (0, 0)) * own 3 1 y2 (n + 1) (I (b2)) * setA x7 (([] ++ List.map keyP x15)) * own 63 3 y3 (y4).length (Fl encT63 (y4)) * ownsP (y4) * pts x11 (.cells #[x.2.2.1, .map (some x13), x.2.2.2.2.1] 109 (0, 0)) * own 3 1 x.2.2.1 (n + 1) (I (x.2.2.2.1)) * setA x13 (x.2.2.2.2.2.2) * own 63 3 x.2.2.2.2.1 (x.2.2.2.2.2.1).length (Fl encT63 (x.2.2.2.2.2.1)) * ownsP (x.2.2.2.2.2.1)) (fun x => x.1 ≤ ps.length ∧ x.2.2.2.1.length = n + 1 ∧ (∀ z ∈ x.2.2.2.1, inI z) ∧ x.2.2.2.2.2.1.map ct = (ps.take x.1).map ct ∧ x.2.2.2.2.2.2 = (ps.take x.1).map keyP ∧ postF (n + 1) [] x.2.2.2.1 x.2.2.2.2.2.2 (ps.drop x.1) = (0, b2)) (fun x => ps.length - x.1) (0, _, x12, List.replicate (n + 1) 0, .slice none 0 0, [], []) ⟨Nat.zero_le _, hzl, hz, by simp, by simp, hp⟩ (fun x hx ih => ?_))) ⟨rfl, rfl, rfl, rfl, rfl, rfl, rfl, trivial⟩ (Grew.of (Eq.trans (frc (frl (frl (frl (frl (frl (frl (frl (frl (frl (frl (frl (frl rfl)))))))))))) (frc (frl (frl (frl (frl (frl (frl (frl (frl (frl (frl (frl (frl rfl)))))))))))) (frc (frl (frl (frl (frl (frl (frl (frl (frl (frl rfl))))))))) (frc (frl (frl (frl (frl (frl (frl (frl (frl (frl rfl))))))))) (frc (frl (frl (frl (frl (frl (frl (frl (frl (frl rfl))))))))) rfl))))) (congrArg (· * _) (congrArg (· * _) (congrArg (· * _) (congrArg (· * _) (congrArg (· * _) (congrArg (· * _) (congrArg (· * _) (congrArg (· * _) (congrArg (· * _) (congrArg (· * _) (asg (asg (asg (asg as1))))))))))))))) (Grew.refl _))
      obtain ⟨i, J, bv, bl, pv, M, kk⟩ := x
      simp only at hx ih ⊢
      obtain ⟨hi, hbl, hbi, hM, hkk, hps⟩ := hx
      have hMlen := len_ct hM
      rw [List.length_take] at hMlen
      have h4m := hm_ct y6 (fun q hq => by simpa using hMm q (by simpa using hq))
      rcases Nat.lt_or_ge i ps.length with hlt | hge
      · have rdc : Rd w0 (old w0) (cutV u i (i + 1) 3) 3 (i + 1 - i) (Fl encT63 [ps.getD i default]) := by
          have := Rd.cutFl (enc := encT63) (s := 3) (fun _ => rfl) rd (show i ≤ i + 1 by omega) hlt
          have e : (ps.drop i).take (i + 1 - i) = [ps.getD i default] := by rw [Nat.add_sub_cancel_left]; exact take_one hlt
          rwa [e] at this
        have al1 : Alls (GP w0) (old w0) [ps.getD i default] := Alls.cons (al.get hlt) Alls.nil
        have hm1 : ∀ q ∈ [ps.getD i default], q.2.2.2.length ≤ 8796093022208 := fun q hq => by
          obtain rfl := List.mem_singleton.1 hq
          exact hm _ (getD_mem hlt)
        have hin1 : ∀ q ∈ [ps.getD i default], ∀ s ∈ q.2.2.2, inI s.2 := fun q hq => by
          obtain rfl := List.mem_singleton.1 hq
          exact hin _ (getD_mem hlt)
        rw [drop_next hlt] at hps
        rcases hs : postF (n + 1) kk bl [] [ps.getD i default] with ⟨e1, b1⟩
        rcases Decidable.em (e1 = 0) with he1 | he1
        · subst he1
          have hst := postF_step (ks := []) (fr := kk) (ps.drop (i + 1)) hs
          rw [hst] at hps
          obtain ⟨hb1l, hb1i⟩ := postF_len hs
          refine Run.seq ?_
          refine Run.seq ?_
          refine Run.region ?_
          refine RunL.ok (OpOk.move rfl) rfl ?_
          refine RunL.ok (OpOk.move rfl) rfl ?_
          refine RunL.ok (OpOk.lenR rfl rfl rd.left.left.left.left.left.left.left.left.left.left.left rfl) rfl ?_
          refine RunL.ok (OpOk.asT (OpOk.lss rfl rfl) (by omega)) rfl ?_
          refine RunL.ok (OpOk.move rfl) rfl ?_
          refine RunL.on rfl rfl ?_
          refine RunL.ok (OpOk.move rfl) rfl ?_
          refine RunL.on rfl rfl ?_
          refine RunL.ok (OpOk.asT (OpOk.eql rfl rfl) (by omega)) rfl ?_
          refine RunL.ok (OpOk.pickT rfl rfl) rfl ?_
          refine RunL.nil ?_
          refine Run.condT rfl ?_
          refine Run.skip ?_
          refine Run.seq ?_
          refine Run.block ?_
          refine Run.region ?_
          refine RunL.ok (OpOk.move rfl) rfl ?_
          refine RunL.ok (OpOk.move rfl) rfl ?_
          refine RunL.ok (OpOk.move rfl) rfl ?_
          refine RunL.ok (OpOk.move rfl) rfl ?_
          refine RunL.ok (OpOk.addN _ 1 rfl rfl rfl rfl (by omega)) rfl ?_
          refine RunL.ok (OpOk.cut rfl ti63 rfl rd.left.left.left.left.left.left.left.left.left.left.left ⟨_, rfl⟩ ⟨_, rfl⟩ (by omega) (by omega)) rfl ?_
          refine RunL.know (fun w s => (s.conv (frl (frl (frl (frl (frl rfl)))))).ownsP0) (fun alz1 => ?_)
          refine RunL.know (fun w s => (s.conv rfl).ownsP0) (fun alz2 => ?_)
          refine RunL.call cal35 rfl (s35 rdc.left.left.left.left.left.left.left.left.left.left.left al1.left.left.left.left.left.left.left.left.left.left.left (by assumption) (by simp)) rfl (fun vz3 Az3 hz3 => ?_)
          obtain ⟨z4, ⟨z5, ⟨z6, rfl⟩⟩⟩ := hz3
          refine RunL.know (fun w s => (s.conv rfl).ownsP0) (fun alz7 => ?_)
          refine RunL.know (fun w s => (s.conv (frl rfl)).ownRd0) (fun rdz8 => ?_)
          refine RunL.mem (frc (frl (frl (frl rfl))) (frc (frl (frl (frl rfl))) (frc (frl (frl (frl rfl))) (frc (frl (frl (frl rfl))) (frc (frl (frl (frl rfl))) rfl))))) ?_
          have hs4 := (postF_ct (n := n + 1) (ks := kk) (bal := bl) (fr := []) z6).trans hs
          have hl4 := len_ct z6
          have hin4 := hin_ct z6 hin1
          have hm4 := hm_ct z6 hm1
          have hk4 := keyP_ct z6
          simp only [List.length_singleton] at hl4
          refine RunL.call cal34 rfl (s34a (Rd.right rdz8).left (Alls.right alz7) (by assumption) (by assumption) (by assumption) (by assumption) (by assumption) (by assumption) (by omega)) rfl (fun vt1 At1 ht1 => ?_)
          obtain ⟨t2, ⟨t3, ⟨t4, ⟨t5, ⟨rfl, ⟨t6, rfl⟩⟩⟩⟩⟩⟩ := ht1
          refine RunL.ok (OpOk.assign rfl) rfl ?_
          refine RunL.nil ?_
          refine Run.inBlock ?_
          refine Run.region ?_
          refine RunL.ok (OpOk.move rfl) rfl ?_
          refine RunL.ok (OpOk.addN _ 1 rfl rfl rfl rfl (by omega)) rfl ?_
          refine RunL.ok (OpOk.assign rfl) rfl ?_
          refine RunL.nil ?_
          rw [hk4]
          refine Run.jump ((ih (i + 1, _, t2, b1, t3, t4, kk ++ [keyP (ps.getD i default)]) ⟨by dsimp only; omega, by dsimp only; omega, hb1i hbi, by dsimp only; rw [t6, hM, z6, take_next hlt, List.map_append], by dsimp only; rw [hkk, take_next hlt, List.map_append]; rfl, hps⟩ (by dsimp only; omega))) ⟨rfl, rfl, rfl, rfl, rfl, rfl, rfl, trivial⟩ (Grew.of (Eq.trans (frc rfl (frc rfl (frc rfl (frc rfl (frc rfl (frc (frl (frl (frl (frl rfl)))) (frc (frl (frl (frl (frl rfl)))) (frc (frl (frl (frl (frl rfl)))) (frc (frl (frl (frl (frl rfl)))) (frc (frl (frl (frl (frl rfl)))) rfl)))))))))) (congrArg (· * _) (congrArg (· * _) (congrArg (· * _) (congrArg (· * _) (congrArg (· * _) (congrArg (· * _) (congrArg (· * _) (congrArg (· * _) (congrArg (· * _) (congrArg (· * _) (asg (asg (asg (asg as1))))))))))))))) (Grew.refl _))
        · have hfl := postF_fail (ks := []) (fr := kk) (ps.drop (i + 1)) hs he1
          rw [hps] at hfl
          exact absurd hfl.symm he1
      · obtain rfl : i = ps.length := by omega
        clear ih
        rw [List.take_length] at hM hkk
        rw [List.drop_length] at hps
        obtain rfl : bl = b2 := congrArg Prod.snd hps
        have hMm3 := hm_ct hM hm
        refine Run.seq ?_
        refine Run.seq ?_
        refine Run.region ?_
        refine RunL.ok (OpOk.move rfl) rfl ?_
        refine RunL.ok (OpOk.move rfl) rfl ?_
        refine RunL.ok (OpOk.lenR rfl rfl rd.left.left.left.left.left.left.left.left.left.left.left rfl) rfl ?_
        refine RunL.ok (OpOk.asF (OpOk.lss rfl rfl) (by omega)) rfl ?_
        refine RunL.ok (OpOk.move rfl) rfl ?_
        refine RunL.off rfl rfl rfl rfl ?_
        refine RunL.off rfl rfl rfl rfl ?_
        refine RunL.ok (OpOk.pickF rfl rfl) rfl ?_
        refine RunL.nil ?_
        refine Run.condF rfl ?_
        refine Run.exit rfl ?_
        refine Run.seq ?_
        refine Run.seq ?_
        refine Run.region ?_
        refine RunL.ok (OpOk.move rfl) rfl ?_
        refine RunL.ok (OpOk.move rfl) rfl ?_
        refine RunL.ok (OpOk.as (c := false) (OpOk.neq rfl rfl) (by rw [decide_eq_true (by omega)]; rfl)) rfl ?_
        refine RunL.nil ?_
        refine Run.condF rfl ?_
        refine Run.skip ?_
        refine Run.seq ?_
        refine Run.seq ?_
        refine Run.region ?_
        refine RunL.ok (OpOk.move rfl) rfl ?_
        refine RunL.ok (OpOk.as (c := false) (OpOk.neq rfl rfl) (by rw [decide_eq_true (by omega)]; rfl)) rfl ?_
        refine RunL.nil ?_
        refine Run.condF rfl ?_
        refine Run.skip ?_
        refine Run.seq ?_
        refine Run.seq ?_
        refine Run.region ?_
        refine RunL.ok (OpOk.assign rfl) rfl ?_
        refine RunL.nil ?_
        refine Run.block ?_
        refine Run.jump ((Run.loopJ (X := Nat) (fun k => [(13, .int .i64 (k : Int)), (8, .pointer (some ⟨x11, 0, none⟩)), (6, .pointer (some ⟨x5, 0, none⟩)), (5, .int .i64 (n : Int))]) (fun _ => old w0 * J * pts x5 (.cells #[y2, .map (some x7), y3] 109 (0, 0)) * own 3 1 y2 (n + 1) (I (bl)) * setA x7 (([] ++ List.map keyP x15)) * own 63 3 y3 (y4).length (Fl encT63 (y4)) * ownsP (y4) * pts x11 (.cells #[bv, .map (some x13), pv] 109 (0, 0)) * own 3 1 bv (n + 1) (I (bl)) * setA x13 (kk) * own 63 3 pv (M).length (Fl encT63 (M)) * ownsP (M)) (fun k => 1 ≤ k ∧ k ≤ n + 1) (fun k => n + 1 - k) 1 ⟨Nat.le_refl _, by omega⟩ (fun k hk ih => ?_))) ⟨rfl, rfl, rfl, rfl, trivial⟩ ((Grew.refl _))
        obtain ⟨hk1, hk2⟩ := hk
        rcases Nat.lt_or_ge n k with hkn | hkn
        · have h4l := len_ct (ps := x15) y6
          refine Run.seq ?_
          refine Run.seq ?_
          refine Run.region ?_
          refine RunL.ok (OpOk.move rfl) rfl ?_
          refine RunL.ok (OpOk.move rfl) rfl ?_
          refine RunL.ok (OpOk.asF (OpOk.leq rfl rfl) (by omega)) rfl ?_
          refine RunL.nil ?_
          refine Run.condF rfl ?_
          refine Run.exit rfl ?_
          refine Run.seq ?_
          refine Run.region ?_
          refine RunL.ok (OpOk.move rfl) rfl ?_
          refine RunL.know (fun w s => (s.conv (frl (frl (frl (frl (frl rfl)))))).ownsP0) (fun alt1 => ?_)
          refine RunL.know (fun w s => (s.conv rfl).ownsP0) (fun alt2 => ?_)
          refine RunL.mem (frc (frl (frl (frl (frl (frl rfl))))) (frc (frl (frl (frl (frl (frl rfl))))) (frc (frl (frl (frl (frl (frl rfl))))) (frc (frl (frl (frl (frl (frl rfl))))) (frc (frl (frl (frl (frl (frl rfl))))) rfl))))) ?_
          refine RunL.call cal36 rfl (s36 (by assumption) (by omega)) rfl (fun vt3 At3 ht3 => ?_)
          obtain ⟨t4, ⟨t5, ⟨t6, rfl⟩⟩⟩ := ht3
          refine RunL.ok (OpOk.move rfl) rfl ?_
          refine RunL.know (fun w s => (s.conv rfl).ownsP0) (fun alt7 => ?_)
          refine RunL.mem (frc (frl (frl (frl (frl (frl (frl (frl (frl rfl)))))))) (frc (frl (frl (frl (frl (frl (frl (frl (frl rfl)))))))) (frc (frl (frl (frl (frl (frl (frl (frl (frl rfl)))))))) (frc (frl (frl (frl (frl (frl (frl (frl (frl rfl)))))))) (frc (frl (frl (frl (frl (frl (frl (frl (frl rfl)))))))) rfl))))) ?_
          refine RunL.call cal36 rfl (s36 (by assumption) (by omega)) rfl (fun vt8 At8 ht8 => ?_)
          obtain ⟨t9, ⟨t10, ⟨t11, rfl⟩⟩⟩ := ht8
          refine RunL.know (fun w s => (s.conv rfl).ownsP0) (fun alt12 => ?_)
          refine RunL.know (fun w s => (s.conv (frl (frl (frl (frl (frl (frl (frl (frl (frl rfl)))))))))).ownRd0) (fun rdt13 => ?_)
          refine RunL.know (fun w s => (s.conv (frl rfl)).ownRd0) (fun rdt14 => ?_)
          refine RunL.call cal38 rfl (s38 (Rd.right rdt13).left.left.left.left.left.left.left.left.left (Rd.right rdt14).left (Alls.right alt7).left.left.left.left.left.left.left.left (Alls.right alt12)) rfl (fun vt15 At15 ht15 => ?_)
          obtain ⟨rfl, rfl⟩ := ht15
          refine RunL.ok (OpOk.assign rfl) rfl ?_
          refine RunL.nil ?_
          refine Run.ret1 Try.func7 rfl rfl ?_
          have e : t4.map ct = t9.map ct := by rw [t6, t11, hM, y6]; exact x17
          rw [decide_eq_true e]
          exact ⟨rfl, ⟨_, (asg (asg (asg (asg (asg (asg (asg (asg (asg (asg (asg (asg (asg (asg (asg (asg as1))))))))))))))))⟩⟩
        · refine Run.seq ?_
          refine Run.seq ?_
          refine Run.region ?_
          refine RunL.ok (OpOk.move rfl) rfl ?_
          refine RunL.ok (OpOk.move rfl) rfl ?_
          refine RunL.ok (OpOk.asT (OpOk.leq rfl rfl) (by omega)) rfl ?_
          refine RunL.nil ?_
          refine Run.condT rfl ?_
          refine Run.skip ?_
          refine Run.seq ?_
          refine Run.block ?_
          refine Run.seq ?_
          refine Run.region ?_
          refine RunL.ok (OpOk.move rfl) rfl ?_
          refine RunL.ok (OpOk.move rfl) rfl ?_
          refine RunL.know (fun w s => (s.conv (frl (frl (frl (frl (frl rfl)))))).ownsP0) (fun alt1 => ?_)
          refine RunL.know (fun w s => (s.conv rfl).ownsP0) (fun alt2 => ?_)
          refine RunL.mem (frc (frl (frl (frl (frl (frl rfl))))) (frc (frl (frl (frl (frl (frl rfl))))) (frc (frl (frl (frl (frl (frl rfl))))) (frc (frl (frl (frl (frl (frl rfl))))) (frc (frl (frl (frl (frl (frl rfl))))) rfl))))) ?_
          refine RunL.call cal37 rfl (s37a (by assumption) (by omega)) rfl (fun vt3 At3 ht3 => ?_)
          obtain ⟨rfl, rfl⟩ := ht3
          refine RunL.ok (OpOk.move rfl) rfl ?_
          refine RunL.ok (OpOk.move rfl) rfl ?_
          refine RunL.mem (frc (frl (frl (frl (frl (frl rfl))))) (frc (frl (frl (frl (frl (frl rfl))))) (frc (frl (frl (frl (frl (frl rfl))))) (frc (frl (frl (frl (frl (frl rfl))))) (frc (frl (frl (frl (frl (frl rfl))))) rfl))))) ?_
          refine RunL.call cal37 rfl (s37a (by assumption) (by omega)) rfl (fun vt4 At4 ht4 => ?_)
          obtain ⟨rfl, rfl⟩ := ht4
          refine RunL.ok (OpOk.as (c := false) (OpOk.neq rfl rfl) (by rw [decide_eq_true (by omega)]; rfl)) rfl ?_
          refine RunL.nil ?_
          refine Run.condF rfl ?_
          refine Run.skip ?_
          refine Run.inBlock ?_
          refine Run.region ?_
          refine RunL.ok (OpOk.move rfl) rfl ?_
          refine RunL.ok (OpOk.addN _ 1 rfl rfl rfl rfl (by omega)) rfl ?_
          refine RunL.ok (OpOk.assign rfl) rfl ?_
          refine RunL.nil ?_
          refine Run.jump ((ih (k + 1) ⟨by omega, by omega⟩ (by omega))) ⟨rfl, rfl, rfl, rfl, trivial⟩ ((Grew.refl _))
    · refine RunL.call cal34 rfl (s34b (Rd.right rdx19).left (Alls.right alx18) (by assumption) (by assumption) (by assumption) (by assumption) (by assumption) (by assumption) (by assumption) (by assumption)) rfl (fun vy2 Ay2 hy2 => ?_)
      obtain ⟨y3, ⟨rfl, rfl⟩⟩ := hy2
      refine RunL.ok (OpOk.assign rfl) rfl ?_
      refine RunL.nil ?_
      refine Run.seq ?_
      refine Run.region ?_
      refine RunL.ok (OpOk.assign rfl) rfl ?_
      refine RunL.nil ?_
      refine Run.seq ?_
      refine Run.seq ?_
      refine Run.region ?_
      refine RunL.ok (OpOk.assign rfl) rfl ?_
      refine RunL.nil ?_
      refine Run.block ?_
      refine Run.jump ((Run.loopJ (X := Nat × Asn × Int × Value × List Int × Value × List Po × List (Int × Int)) (fun x => [(12, .int .i64 (x.1 : Int)), (11, .int .i64 x.2.2.1), (10, .int .i64 e), (8, .pointer (some ⟨x11, 0, none⟩)), (6, .pointer (some ⟨x5, 0, none⟩)), (5, .int .i64 (n : Int)), (1, u)]) (fun x => old w0 * x.2.1 * pts x5 (.cells #[x6, .map (some x7), (Value.slice none 0 0)] 109 (0, 0)) * own 3 1 x6 (n + 1) (I ((List.replicate (n + 1) 0))) * setA x7 ((List.nil : List (Int × Int))) * own 63 3 (Value.slice none 0 0) ((List.nil : List Po)).length (Fl encT63 ((List.nil : List Po))) * ownsP ((List.nil : List Po)) * pts x11 (.cells #[x.2.2.2.1, .map (some x13), x.2.2.2.2.2.1] 109 (0, 0)) * own 3 1 x.2.2.2.1 (n + 1) (I (x.2.2.2.2.1)) * setA x13 (x.2.2.2.2.2.2.2) * own 63 3 x.2.2.2.2.2.1 (x.2.2.2.2.2.2.1).length (Fl encT63 (x.2.2.2.2.2.2.1)) * ownsP (x.2.2.2.2.2.2.1)) (fun x => x.1 ≤ ps.length ∧ ((x.2.2.1 = 0 ∧ x.2.2.2.2.1.length = n + 1 ∧ (∀ z ∈ x.2.2.2.2.1, inI z) ∧ x.2.2.2.2.2.2.1.map ct = (ps.take x.1).map ct ∧ x.2.2.2.2.2.2.2 = (ps.take x.1).map keyP ∧ postF (n + 1) [] x.2.2.2.2.1 x.2.2.2.2.2.2.2 (ps.drop x.1) = (e, b2)) ∨ x.2.2.1 = e)) (fun x => ps.length - x.1) (0, _, 0, x12, List.replicate (n + 1) 0, .slice none 0 0, [], []) ⟨Nat.zero_le _, .inl ⟨rfl, hzl, hz, by simp, by simp, hp⟩⟩ (fun x hx ih => ?_))) ⟨rfl, rfl, rfl, rfl, rfl, rfl, rfl, trivial⟩ (Grew.of (Eq.trans (frc rfl (frc rfl (frc (frl (frl (frl (frl (frl (frl (frl rfl))))))) (frc (frl (frl (frl (frl (frl (frl (frl rfl))))))) (frc (frl (frl (frl (frl (frl (frl (frl rfl))))))) (frc (frl (frl (frl (frl (frl (frl (frl rfl))))))) (frc (frl (frl (frl (frl (frl (frl (frl rfl))))))) rfl))))))) (congrArg (· * _) (congrArg (· * _) (congrArg (· * _) (congrArg (· * _) (congrArg (· * _) (congrArg (· * _) (congrArg (· * _) (congrArg (· * _) (congrArg (· * _) (congrArg (· * _) (asg (asg (asg (asg as1))))))))))))))) (Grew.refl _))
      obtain ⟨i, J, e1, bv, bl, pv, M, kk⟩ := x
      simp only at hx ih ⊢
      obtain ⟨hi, hx⟩ := hx
      rcases hx with ⟨rfl, hbl, hbi, hM, hkk, hps⟩ | rfl
      · have hMlen := len_ct hM
        rw [List.length_take] at hMlen
        rcases Nat.lt_or_ge i ps.length with hlt | hge
        · have rdc : Rd w0 (old w0) (cutV u i (i + 1) 3) 3 (i + 1 - i) (Fl encT63 [ps.getD i default]) := by
            have := Rd.cutFl (enc := encT63) (s := 3) (fun _ => rfl) rd (show i ≤ i + 1 by omega) hlt
            have e : (ps.drop i).take (i + 1 - i) = [ps.getD i default] := by rw [Nat.add_sub_cancel_left]; exact take_one hlt
            rwa [e] at this
          have al1 : Alls (GP w0) (old w0) [ps.getD i default] := Alls.cons (al.get hlt) Alls.nil
          have hm1 : ∀ q ∈ [ps.getD i default], q.2.2.2.length ≤ 8796093022208 := fun q hq => by
            obtain rfl := List.mem_singleton.1 hq
            exact hm _ (getD_mem hlt)
          have hin1 : ∀ q ∈ [ps.getD i default], ∀ s ∈ q.2.2.2, inI s.2 := fun q hq => by
            obtain rfl := List.mem_singleton.1 hq
            exact hin _ (getD_mem hlt)
          rw [drop_next hlt] at hps
          rcases hs : postF (n + 1) kk bl [] [ps.getD i default] with ⟨e1, b1⟩
          rcases Decidable.em (e1 = 0) with he1 | he1
          · subst he1
            have hst := postF_step (ks := []) (fr := kk) (ps.drop (i + 1)) hs
            rw [hst] at hps
            obtain ⟨hb1l, hb1i⟩ := postF_len hs
            refine Run.seq ?_
            refine Run.seq ?_
            refine Run.region ?_
            refine RunL.ok (OpOk.move rfl) rfl ?_
            refine RunL.ok (OpOk.move rfl) rfl ?_
            refine RunL.ok (OpOk.lenR rfl rfl rd.left.left.left.left.left.left.left.left.left.left.left rfl) rfl ?_
            refine RunL.ok (OpOk.asT (OpOk.lss rfl rfl) (by omega)) rfl ?_
            refine RunL.ok (OpOk.move rfl) rfl ?_
            refine RunL.on rfl rfl ?_
            refine RunL.ok (OpOk.move rfl) rfl ?_
            refine RunL.on rfl rfl ?_
            refine RunL.ok (OpOk.asT (OpOk.eql rfl rfl) (by omega)) rfl ?_
            refine RunL.ok (OpOk.pickT rfl rfl) rfl ?_
            refine RunL.nil ?_
            refine Run.condT rfl ?_
            refine Run.skip ?_
            refine Run.seq ?_
            refine Run.block ?_
            refine Run.region ?_
            refine RunL.ok (OpOk.move rfl) rfl ?_
            refine RunL.ok (OpOk.move rfl) rfl ?_
            refine RunL.ok (OpOk.move rfl) rfl ?_
            refine RunL.ok (OpOk.move rfl) rfl ?_
            refine RunL.ok (OpOk.addN _ 1 rfl rfl rfl rfl (by omega)) rfl ?_
            refine RunL.ok (OpOk.cut rfl ti63 rfl rd.left.left.left.left.left.left.left.left.left.left.left ⟨_, rfl⟩ ⟨_, rfl⟩ (by omega) (by omega)) rfl ?_
            refine RunL.know (fun w s => (s.conv rfl).ownsP0) (fun alz1 => ?_)
            refine RunL.call cal35 rfl (s35 rdc.left.left.left.left.left.left.left.left.left.left.left al1.left.left.left.left.left.left.left.left.left.left.left (by assumption) (by simp)) rfl (fun vz2 Az2 hz2 => ?_)
            obtain ⟨z3, ⟨z4, ⟨z5, rfl⟩⟩⟩ := hz2
            refine RunL.know (fun w s => (s.conv rfl).ownsP0) (fun alz6 => ?_)
            refine RunL.know (fun w s => (s.conv (frl rfl)).ownRd0) (fun rdz7 => ?_)
            refine RunL.mem (frc (frl (frl (frl rfl))) (frc (frl (frl (frl rfl))) (frc (frl (frl (frl rfl))) (frc (frl (frl (frl rfl))) (frc (frl (frl (frl rfl))) rfl))))) ?_
            have hs4 := (postF_ct (n := n + 1) (ks := kk) (bal := bl) (fr := []) z5).trans hs
            have hl4 := len_ct z5
            have hin4 := hin_ct z5 hin1
            have hm4 := hm_ct z5 hm1
            have hk4 := keyP_ct z5
            simp only [List.length_singleton] at hl4
            refine RunL.call cal34 rfl (s34a (Rd.right rdz7).left (Alls.right alz6) (by assumption) (by assumption) (by assumption) (by assumption) (by assumption) (by assumption) (by omega)) rfl (fun vt1 At1 ht1 => ?_)
            obtain ⟨t2, ⟨t3, ⟨t4, ⟨t5, ⟨rfl, ⟨t6, rfl⟩⟩⟩⟩⟩⟩ := ht1
            refine RunL.ok (OpOk.assign rfl) rfl ?_
            refine RunL.nil ?_
            refine Run.inBlock ?_
            refine Run.region ?_
            refine RunL.ok (OpOk.move rfl) rfl ?_
            refine RunL.ok (OpOk.addN _ 1 rfl rfl rfl rfl (by omega)) rfl ?_
            refine RunL.ok (OpOk.assign rfl) rfl ?_
            refine RunL.nil ?_
            rw [hk4]
            refine Run.jump ((ih (i + 1, _, 0, t2, b1, t3, t4, kk ++ [keyP (ps.getD i default)]) ⟨by dsimp only; omega, .inl ⟨rfl, by dsimp only; omega, hb1i hbi, by dsimp only; rw [t6, hM, z5, take_next hlt, List.map_append], by dsimp only; rw [hkk, take_next hlt, List.map_append]; rfl, hps⟩⟩ (by dsimp only; omega))) ⟨rfl, rfl, rfl, rfl, rfl, rfl, rfl, trivial⟩ (Grew.of (Eq.trans (frc rfl (frc rfl (frc rfl (frc rfl (frc rfl (frc (frl (frl (frl (frl rfl)))) (frc (frl (frl (frl (frl rfl)))) (frc (frl (frl (frl (frl rfl)))) (frc (frl (frl (frl (frl rfl)))) (frc (frl (frl (frl (frl rfl)))) rfl)))))))))) (congrArg (· * _) (congrArg (· * _) (congrArg (· * _) (congrArg (· * _) (congrArg (· * _) (congrArg (· * _) (congrArg (· * _) (congrArg (· * _) (congrArg (· * _) (congrArg (· * _) (asg (asg (asg (asg as1))))))))))))))) (Grew.refl _))
          · have hfl := postF_fail (ks := []) (fr := kk) (ps.drop (i + 1)) hs he1
            rw [hps] at hfl
            refine Run.seq ?_
            refine Run.seq ?_
            refine Run.region ?_
            refine RunL.ok (OpOk.move rfl) rfl ?_
            refine RunL.ok (OpOk.move rfl) rfl ?_
            refine RunL.ok (OpOk.lenR rfl rfl rd.left.left.left.left.left.left.left.left.left.left.left rfl) rfl ?_
            refine RunL.ok (OpOk.asT (OpOk.lss rfl rfl) (by omega)) rfl ?_
            refine RunL.ok (OpOk.move rfl) rfl ?_
            refine RunL.on rfl rfl ?_
            refine RunL.ok (OpOk.move rfl) rfl ?_
            refine RunL.on rfl rfl ?_
            refine RunL.ok (OpOk.asT (OpOk.eql rfl rfl) (by omega)) rfl ?_
            refine RunL.ok (OpOk.pickT rfl rfl) rfl ?_
            refine RunL.nil ?_
            refine Run.condT rfl ?_
            refine Run.skip ?_
            refine Run.seq ?_
            refine Run.block ?_
            refine Run.region ?_
            refine RunL.ok (OpOk.move rfl) rfl ?_
            refine RunL.ok (OpOk.move rfl) rfl ?_
            refine RunL.ok (OpOk.move rfl) rfl ?_
            refine RunL.ok (OpOk.move rfl) rfl ?_
            refine RunL.ok (OpOk.addN _ 1 rfl rfl rfl rfl (by omega)) rfl ?_
            refine RunL.ok (OpOk.cut rfl ti63 rfl rd.left.left.left.left.left.left.left.left.left.left.left ⟨_, rfl⟩ ⟨_, rfl⟩ (by omega) (by omega)) rfl ?_
            refine RunL.know (fun w s => (s.conv rfl).ownsP0) (fun alz1 => ?_)
            refine RunL.call cal35 rfl (s35 rdc.left.left.left.left.left.left.left.left.left.left.left al1.left.left.left.left.left.left.left.left.left.left.left (by assumption) (by simp)) rfl (fun vz2 Az2 hz2 => ?_)
            obtain ⟨z3, ⟨z4, ⟨z5, rfl⟩⟩⟩ := hz2
            refine RunL.know (fun w s => (s.conv rfl).ownsP0) (fun alz6 => ?_)
            refine RunL.know (fun w s => (s.conv (frl rfl)).ownRd0) (fun rdz7 => ?_)
            refine RunL.mem (frc (frl (frl (frl rfl))) (frc (frl (frl (frl rfl))) (frc (frl (frl (frl rfl))) (frc (frl (frl (frl rfl))) (frc (frl (frl (frl rfl))) rfl))))) ?_
            have hs4 := (postF_ct (n := n + 1) (ks := kk) (bal := bl) (fr := []) z5).trans hs
            have hl4 := len_ct z5
            have hin4 := hin_ct z5 hin1
            have hm4 := hm_ct z5 hm1
            simp only [List.length_singleton] at hl4
            refine RunL.call cal34 rfl (s34b (Rd.right rdz7).left (Alls.right alz6) (by assumption) (by assumption) (by assumption) (by assumption) (by assumption) (by assumption) (by assumption) (by omega)) rfl (fun vt2 At2 ht2 => ?_)
            obtain ⟨t3, ⟨rfl, rfl⟩⟩ := ht2
            refine RunL.ok (OpOk.assign rfl) rfl ?_
            refine RunL.nil ?_
            refine Run.inBlock ?_
            refine Run.region ?_
            refine RunL.ok (OpOk.move rfl) rfl ?_
            refine RunL.ok (OpOk.addN _ 1 rfl rfl rfl rfl (by omega)) rfl ?_
            refine RunL.ok (OpOk.assign rfl) rfl ?_
            refine RunL.nil ?_
            refine Run.jump ((ih (i + 1, _, e1, bv, bl, pv, M, kk) ⟨by dsimp only; omega, .inr hfl.symm⟩ (by dsimp only; omega))) ⟨rfl, rfl, rfl, rfl, rfl, rfl, rfl, trivial⟩ (Grew.of (Eq.trans (frc rfl (frc rfl (frc rfl (frc rfl (frc rfl (frc (frl (frl (frl (frl rfl)))) (frc (frl (frl (frl (frl rfl)))) (frc (frl (frl (frl (frl rfl)))) (frc (frl (frl (frl (frl rfl)))) (frc (frl (frl (frl (frl rfl)))) rfl)))))))))) (congrArg (· * _) (congrArg (· * _) (congrArg (· * _) (congrArg (· * _) (congrArg (· * _) (congrArg (· * _) (congrArg (· * _) (congrArg (· * _) (congrArg (· * _) (congrArg (· * _) (asg (asg (asg (asg as1))))))))))))))) (Grew.refl _))
        · obtain rfl : i = ps.length := by omega
          rw [List.drop_length] at hps
          exact absurd (congrArg Prod.fst hps).symm he
      · clear ih
        have hnil : ∀ q ∈ ([] : List Po), q.2.2.2.length ≤ 8796093022208 := fun q hq => by cases hq
        refine Run.seq ?_
        refine Run.seq ?_
        refine Run.region ?_
        refine RunL.ok (OpOk.move rfl) rfl ?_
        refine RunL.ok (OpOk.move rfl) rfl ?_
        refine RunL.ok (OpOk.lenR rfl rfl rd.left.left.left.left.left.left.left.left.left.left.left rfl) rfl ?_
        refine RunL.ok (OpOk.lss rfl rfl) rfl ?_
        refine RunL.ok (OpOk.move rfl) rfl ?_
        refine RunL.splitD (t := 59) rfl (fun z1 => ?_) (fun z1 => ?_)
        · refine RunL.on rfl rfl ?_
          refine RunL.ok (OpOk.move rfl) rfl ?_
          refine RunL.on rfl rfl ?_
          refine RunL.ok (OpOk.asF (OpOk.eql rfl rfl) (by omega)) rfl ?_
          refine RunL.ok (OpOk.pickT rfl rfl) rfl ?_
          refine RunL.nil ?_
          refine Run.condF rfl ?_
          refine Run.exit rfl ?_
          refine Run.seq ?_
          refine Run.seq ?_
          refine Run.region ?_
          refine RunL.ok (OpOk.move rfl) rfl ?_
          refine RunL.ok (OpOk.move rfl) rfl ?_
          refine RunL.ok (OpOk.as (c := false) (OpOk.neq rfl rfl) (by rw [decide_eq_true (by omega)]; rfl)) rfl ?_
          refine RunL.nil ?_
          refine Run.condF rfl ?_
          refine Run.skip ?_
          refine Run.seq ?_
          refine Run.seq ?_
          refine Run.region ?_
          refine RunL.ok (OpOk.move rfl) rfl ?_
          refine RunL.ok (OpOk.as (c := true) (OpOk.neq rfl rfl) (by rw [decide_eq_false (by omega)]; rfl)) rfl ?_
          refine RunL.nil ?_
          refine Run.condT rfl ?_
          refine Run.seq ?_
          refine Run.region ?_
          refine RunL.ok (OpOk.move rfl) rfl ?_
          refine RunL.know (fun w s => (s.conv rfl).ownsP0) (fun alz2 => ?_)
          refine RunL.mem (frc (frl (frl (frl (frl (frl rfl))))) (frc (frl (frl (frl (frl (frl rfl))))) (frc (frl (frl (frl (frl (frl rfl))))) (frc (frl (frl (frl (frl (frl rfl))))) (frc (frl (frl (frl (frl (frl rfl))))) rfl))))) ?_
          refine RunL.call cal36 rfl (s36 (by assumption) (by omega)) rfl (fun vz3 Az3 hz3 => ?_)
          obtain ⟨z4, ⟨z5, ⟨z6, rfl⟩⟩⟩ := hz3
          refine RunL.know (fun w s => (s.conv (frl rfl)).ownRd0) (fun rdz7 => ?_)
          refine RunL.ok (OpOk.lenR rfl rfl (Rd.right rdz7).left rfl) rfl ?_
          refine RunL.ok (OpOk.eql rfl rfl) rfl ?_
          refine RunL.ok (OpOk.assign rfl) rfl ?_
          refine RunL.nil ?_
          refine Run.ret1 Try.func7 rfl rfl ?_
          have hl0 := len_ct (ps := []) z6
          simp only [List.length_nil] at hl0
          rw [decide_eq_true (by omega : (z4.length : Int) = 0)]
          exact ⟨rfl, ⟨_, (asg (asg (asg (asg (asg (asg (asg (asg (asg (asg (asg (asg (asg as1)))))))))))))⟩⟩
        refine RunL.off rfl rfl rfl rfl ?_
        refine RunL.off rfl rfl rfl rfl ?_
        refine RunL.ok (OpOk.pickF rfl rfl) rfl ?_
        refine RunL.nil ?_
        refine Run.condF rfl ?_
        refine Run.exit rfl ?_
        refine Run.seq ?_
        refine Run.seq ?_
        refine Run.region ?_
        refine RunL.ok (OpOk.move rfl) rfl ?_
        refine RunL.ok (OpOk.move rfl) rfl ?_
        refine RunL.ok (OpOk.as (c := false) (OpOk.neq rfl rfl) (by rw [decide_eq_true (by omega)]; rfl)) rfl ?_
        refine RunL.nil ?_
        refine Run.condF rfl ?_
        refine Run.skip ?_
        refine Run.seq ?_
        refine Run.seq ?_
        refine Run.region ?_
        refine RunL.ok (OpOk.move rfl) rfl ?_
        refine RunL.ok (OpOk.as (c := true) (OpOk.neq rfl rfl) (by rw [decide_eq_false (by omega)]; rfl)) rfl ?_
        refine RunL.nil ?_
        refine Run.condT rfl ?_
        refine Run.seq ?_
        refine Run.region ?_
        refine RunL.ok (OpOk.move rfl) rfl ?_
        refine RunL.know (fun w s => (s.conv rfl).ownsP0) (fun alz8 => ?_)
        refine RunL.mem (frc (frl (frl (frl (frl (frl rfl))))) (frc (frl (frl (frl (frl (frl rfl))))) (frc (frl (frl (frl (frl (frl rfl))))) (frc (frl (frl (frl (frl (frl rfl))))) (frc (frl (frl (frl (frl (frl rfl))))) rfl))))) ?_
        refine RunL.call cal36 rfl (s36 (by assumption) (by omega)) rfl (fun vz9 Az9 hz9 => ?_)
        obtain ⟨z10, ⟨z11, ⟨z12, rfl⟩⟩⟩ := hz9
        refine RunL.know (fun w s => (s.conv (frl rfl)).ownRd0) (fun rdz13 => ?_)
        refine RunL.ok (OpOk.lenR rfl rfl (Rd.right rdz13).left rfl) rfl ?_
        refine RunL.ok (OpOk.eql rfl rfl) rfl ?_
        refine RunL.ok (OpOk.assign rfl) rfl ?_
        refine RunL.nil ?_
        refine Run.ret1 Try.func7 rfl rfl ?_
        have hl0 := len_ct (ps := []) z12
        simp only [List.length_nil] at hl0
        rw [decide_eq_true (by omega : (z10.length : Int) = 0)]
        exact ⟨rfl, ⟨_, (asg (asg (asg (asg (asg (asg (asg (asg (asg (asg (asg (asg (asg as1)))))))))))))⟩⟩
end
end Go.Proofs.Ytegbfnibjgpbpaa
