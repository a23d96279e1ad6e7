/- The law LedgerEven, walked. -/
import Derived.Test.YtegbfnibjgpbpaaLg9
namespace Go.Proofs.Ytegbfnibjgpbpaa
open Go Go.Proofs
set_option maxRecDepth 100000
set_option maxHeartbeats 4000000
set_option linter.unusedSimpArgs false
structure PsG (w0 : World) (y : Value × List Po) : Prop where
  rd : Rd w0 (old w0) y.1 3 y.2.length (Fl encT63 y.2)
  al : Alls (GP w0) (old w0) y.2
  hin : ∀ q ∈ y.2, ∀ s ∈ q.2.2.2, inI s.2
  hm : ∀ q ∈ y.2, q.2.2.2.length ≤ 1048576
  len : y.2.length ≤ 1048576
theorem nodup_at {l : List Po} (h : (l.map keyP).Nodup) {k : Nat} (hk : k < l.length) : ((l.getD k default).1, (l.getD k default).2.1) ∉ (l.take k).map keyP := by
  intro hm
  have e : l = l.take k ++ l.getD k default :: l.drop (k + 1) := by rw [← drop_next hk, List.take_append_drop]
  rw [e, List.map_append, List.nodup_append] at h
  exact h.2.2 _ hm _ (by rw [List.map_cons]; exact List.mem_cons_self) rfl
theorem takeI_next {l : List Int} {i : Nat} (h : i < l.length) : l.take (i + 1) = l.take i ++ [l.getD i 0] := take_next h
section
variable {w0 : World} {A : Asn}
theorem ledgerEven_spec {ops : Int} {u : Value} {P : List (Value × List Po)} (rd : Rd w0 (old w0) u 1 P.length (Fl encV P)) (hok : ∀ y ∈ P, PsG w0 y) :
    Spec Try.prog w0 13 [.int .i64 ops, u] (old w0) (fun v' A' => v' = .bool true ∧ Grew (old w0) A') := by
  obtain ⟨ht1, ht2⟩ := tmod4 ops
  have hmx := rd.max
  refine Spec.of_run [(0, .int .i64 ops), (1, u)] Try.func13 rfl (Nat.le_of_ble_eq_true rfl) (by repeat (first | exact trivial | refine ⟨rfl, ?_⟩)) ?_
  refine Run.seq ?_
  refine Run.region ?_
  refine RunL.ok (OpOk.assign rfl) rfl ?_
  refine RunL.nil ?_
  refine Run.seq ?_
  refine Run.seq ?_
  refine Run.region ?_
  refine RunL.call cal32 rfl (s32) rfl (fun vx1 Ax1 hx1 => ?_)
  obtain ⟨x2, ⟨rfl, rfl⟩⟩ := hx1
  refine RunL.ok (OpOk.not rfl) rfl ?_
  refine RunL.nil ?_
  refine Run.condF rfl ?_
  refine Run.skip ?_
  refine Run.seq ?_
  refine Run.region ?_
  refine RunL.ok (OpOk.move rfl) rfl ?_
  refine RunL.ok (OpOk.rem rfl rfl (by decide) rfl) rfl ?_
  refine RunL.ok (OpOk.add rfl rfl (wrapI (by omega) (by omega))) rfl ?_
  refine RunL.ok (OpOk.rem rfl rfl (by decide) (tmodI (by omega))) rfl ?_
  refine RunL.ok (OpOk.add rfl rfl (wrapI (by omega) (by omega))) rfl ?_
  refine RunL.ok (OpOk.assign rfl) rfl ?_
  refine RunL.nil ?_
  refine Run.seq ?_
  refine Run.region ?_
  refine RunL.ok (OpOk.move rfl) rfl ?_
  refine RunL.call cal33 rfl (s33c (by omega) (by omega)) rfl (fun vx4 Ax4 hx4 => ?_)
  obtain ⟨x5, ⟨x6, ⟨x7, ⟨rfl, rfl⟩⟩⟩⟩ := hx4
  refine RunL.ok (OpOk.move rfl) rfl ?_
  refine RunL.ok (OpOk.ext20 rfl) rfl ?_
  refine RunL.ok (OpOk.ext21 rfl) rfl ?_
  refine RunL.ok (OpOk.assign rfl) rfl ?_
  refine RunL.ok (OpOk.assign rfl) rfl ?_
  refine RunL.nil ?_
  refine Run.seq ?_
  refine Run.seq ?_
  refine Run.region ?_
  refine RunL.ok (OpOk.move rfl) rfl ?_
  refine RunL.ok (OpOk.eqlPN rfl rfl) rfl ?_
  refine RunL.ok (OpOk.move rfl) rfl ?_
  refine RunL.on rfl rfl ?_
  refine RunL.ok (OpOk.move rfl) rfl ?_
  refine RunL.on rfl rfl ?_
  refine RunL.ok (OpOk.as (c := false) (OpOk.neq rfl rfl) (by rw [decide_eq_true (by omega)]; rfl)) rfl ?_
  refine RunL.ok (OpOk.pickF rfl rfl) rfl ?_
  refine RunL.nil ?_
  refine Run.condF rfl ?_
  refine Run.skip ?_
  refine Run.seq ?_
  refine Run.seq ?_
  refine Run.region ?_
  refine RunL.ok (OpOk.assign rfl) rfl ?_
  refine RunL.nil ?_
  refine Run.block ?_
  have hn1 : 1 ≤ 1 + (ops.tmod 4 + 4) % 4 := by omega
  have hn4 : 1 + (ops.tmod 4 + 4) % 4 ≤ 4 := by omega
  generalize hn : 1 + (ops.tmod 4 + 4) % 4 = n0 at *
  obtain ⟨n, rfl⟩ := Int.eq_ofNat_of_zero_le (show 0 ≤ n0 by omega)
  simp only [Int.toNat_natCast] at *
  have hN5 : n + 1 ≤ 5 := by omega
  have hz := zeros_in (n + 1)
  have hzl : (List.replicate (n + 1) (0 : Int)).length = n + 1 := by simp
  have hzs : (List.replicate (n + 1) (0 : Int)).sum = 0 := by simp
  have hz0 : (List.replicate (n + 1) (0 : Int)).getD 0 0 = 0 := by simp
  refine Run.jump ((Run.loopJ (X := Nat × Asn × Value × List Int × List (Int × Int) × Value × List Po) (fun x => [(8, .int .i64 (x.1 : Int)), (6, .pointer (some ⟨x5, 0, none⟩)), (5, .int .i64 (n : Int)), (1, u)]) (fun x => old w0 * x.2.1 * pts x5 (.cells #[x.2.2.1, .map (some x7), x.2.2.2.2.2.1] 109 (0, 0)) * own 3 1 x.2.2.1 (n + 1) (I (x.2.2.2.1)) * setA x7 (x.2.2.2.2.1) * own 63 3 x.2.2.2.2.2.1 (x.2.2.2.2.2.2).length (Fl encT63 (x.2.2.2.2.2.2)) * ownsP (x.2.2.2.2.2.2)) (fun x => x.1 ≤ P.length ∧ x.1 ≤ 60 ∧ x.2.2.2.1.length = n + 1 ∧ (∀ z ∈ x.2.2.2.1, inI z) ∧ x.2.2.2.1.sum = 0 ∧ x.2.2.2.1.getD 0 0 = 0 ∧ x.2.2.2.2.1 = x.2.2.2.2.2.2.map keyP ∧ x.2.2.2.2.1.Nodup ∧ x.2.2.2.2.2.2.length ≤ 1048576 * x.1 ∧ ∀ q ∈ x.2.2.2.2.2.2, q.2.2.2.length ≤ 8796093022208) (fun x => P.length - x.1) (0, _, x6, List.replicate (n + 1) 0, [], .slice none 0 0, []) ⟨Nat.zero_le _, Nat.zero_le _, hzl, hz, hzs, hz0, rfl, by simp, by simp, by simp⟩ (fun x hx ih => ?_))) ⟨rfl, rfl, rfl, rfl, trivial⟩ (Grew.of (congrArg (· * _) (congrArg (· * _) (congrArg (· * _) (congrArg (· * _) (congrArg (· * _) as1))))) (Grew.refl _))
  obtain ⟨i, J, av, bl, ks, pv, L⟩ := x
  simp only at hx ih ⊢
  obtain ⟨hi, hi6, hbl, hbi, hbs, hb0, hks, hnd, hLl, hLm⟩ := hx
  have hLl2 : L.length ≤ 1099511627776 := by omega
  rcases Nat.lt_or_ge i P.length with hlt | hge
  · rcases Nat.lt_or_ge i 60 with h60 | h60
    · have ho := hok _ (getD_mem hlt)
      obtain ⟨o, hoe⟩ : ∃ o, P.getD i default = o := ⟨_, rfl⟩
      rw [hoe] at ho
      obtain ⟨pu, ps⟩ := o
      have hrd := ho.rd
      have hal := ho.al
      have hin := ho.hin
      have hm1 := ho.hm
      have hlen := ho.len
      dsimp only at hrd hal hin hm1 hlen
      have hm : ∀ q ∈ ps, q.2.2.2.length ≤ 8796093022208 := fun q hq => Nat.le_trans (hm1 q hq) (by decide)
      have hpl : ps.length ≤ 1099511627776 := by omega
      have hv := Fl_V P i hlt
      rw [hoe] at hv
      dsimp only at hv
      refine Run.seq ?_
      refine Run.seq ?_
      refine Run.region ?_
      refine RunL.ok (OpOk.move rfl) rfl ?_
      refine RunL.ok (OpOk.move rfl) rfl ?_
      refine RunL.ok (OpOk.lenR rfl rfl rd.left.left.left.left.left.left rfl) rfl ?_
      refine RunL.ok (OpOk.asT (OpOk.lss rfl rfl) (by omega)) rfl ?_
      refine RunL.ok (OpOk.move rfl) rfl ?_
      refine RunL.on rfl rfl ?_
      refine RunL.ok (OpOk.move rfl) rfl ?_
      refine RunL.on rfl rfl ?_
      refine RunL.ok (OpOk.asT (OpOk.lss rfl rfl) (by omega)) rfl ?_
      refine RunL.ok (OpOk.pickT rfl rfl) rfl ?_
      refine RunL.nil ?_
      refine Run.condT rfl ?_
      refine Run.skip ?_
      refine Run.seq ?_
      refine Run.block ?_
      refine Run.seq ?_
      refine Run.region ?_
      refine RunL.ok (OpOk.move rfl) rfl ?_
      refine RunL.know (fun w s => (s.conv rfl).ownsP0) (fun aly1 => ?_)
      refine RunL.call cal36 rfl (s36 (by assumption) (by assumption)) rfl (fun vy2 Ay2 hy2 => ?_)
      obtain ⟨y3, ⟨y4, ⟨y5, rfl⟩⟩⟩ := hy2
      refine RunL.ok (OpOk.assign rfl) rfl ?_
      refine RunL.nil ?_
      refine Run.seq ?_
      refine Run.region ?_
      refine RunL.ok (OpOk.assign rfl) rfl ?_
      refine RunL.nil ?_
      refine Run.seq ?_
      refine Run.seq ?_
      refine Run.region ?_
      refine RunL.ok (OpOk.assign rfl) rfl ?_
      refine RunL.nil ?_
      refine Run.block ?_
      refine Run.ent (Ent.ownNil' _ 3 1 (I []) rfl) ?_
      refine Run.jump ((Run.loopJ (X := Nat × Value) (fun x => [(11, .int .i64 (x.1 : Int)), (10, x.2), (9, vy2), (8, .int .i64 (i : Int)), (6, .pointer (some ⟨x5, 0, none⟩)), (5, .int .i64 (n : Int)), (1, u)]) (fun x => old w0 * J * y4 * pts x5 (.cells #[av, .map (some x7), pv] 109 (0, 0)) * own 3 1 av (n + 1) (I (bl)) * setA x7 (ks) * own 63 3 pv (L).length (Fl encT63 (L)) * ownsP (L) * own 63 3 vy2 y3.length (Fl encT63 y3) * ownsP y3 * own 3 1 x.2 x.1 (I (bl.take x.1))) (fun x => x.1 ≤ n + 1) (fun x => n + 1 - x.1) (0, .slice none 0 0) (Nat.zero_le _) (fun x hx ih2 => ?_))) ⟨rfl, rfl, rfl, rfl, rfl, rfl, rfl, trivial⟩ (Grew.of (frc rfl rfl) (Grew.refl _))
      obtain ⟨k, v10⟩ := x
      simp only at hx ih2 ⊢
      rcases Nat.lt_or_ge k (n + 1) with hk | hk
      · have hnx := takeI_next (l := bl) (i := k) (by omega)
        rcases Nat.eq_zero_or_pos k with hk0 | hk0
        · subst hk0
          rw [hb0, List.take_zero, List.nil_append] at hnx
          refine Run.seq ?_
          refine Run.seq ?_
          refine Run.region ?_
          refine RunL.ok (OpOk.move rfl) rfl ?_
          refine RunL.ok (OpOk.move rfl) rfl ?_
          refine RunL.ok (OpOk.asT (OpOk.leq rfl rfl) (by omega)) rfl ?_
          refine RunL.nil ?_
          refine Run.condT rfl ?_
          refine Run.skip ?_
          refine Run.seq ?_
          refine Run.block ?_
          refine Run.region ?_
          refine RunL.ok (OpOk.move rfl) rfl ?_
          refine RunL.ok (OpOk.move rfl) rfl ?_
          refine RunL.ok (OpOk.move rfl) rfl ?_
          refine RunL.know (fun w s => (s.conv (frl rfl)).ownsP0) (fun alz1 => ?_)
          refine RunL.mem (frc (frl (frl (frl rfl))) (frc (frl (frl (frl rfl))) (frc (frl (frl (frl rfl))) (frc (frl (frl (frl rfl))) (frc (frl (frl (frl rfl))) rfl))))) ?_
          refine RunL.call cal37 rfl (s37c (by omega)) rfl (fun vz4 Az4 hz4 => ?_)
          obtain ⟨rfl, rfl⟩ := hz4
          refine RunL.litI (xs := [0]) rfl ti3 rfl rfl rfl (by decide) rfl (fun vz5 rdz5 => ?_)
          refine RunL.know (fun w s => (s.conv rfl).ownRd0) (fun rdz7 => ?_)
          refine RunL.appendI0 rfl ti3 rfl rfl rfl (frl (frl (frl (frl (frl (frl rfl)))))) (Rd.right rdz7) (by omega) rfl rfl (fun vz6 rdz6 => ?_)
          refine RunL.ok (OpOk.assign rfl) rfl ?_
          refine RunL.nil ?_
          refine Run.inBlock ?_
          refine Run.region ?_
          refine RunL.ok (OpOk.move rfl) rfl ?_
          refine RunL.ok (OpOk.addN _ 1 rfl rfl rfl rfl (by omega)) rfl ?_
          refine RunL.ok (OpOk.assign rfl) rfl ?_
          refine RunL.nil ?_
          rw [← hnx]
          refine Run.jump ((ih2 (0 + 1, _) (by dsimp only; omega) (by dsimp only; omega))) ⟨rfl, rfl, rfl, rfl, rfl, rfl, rfl, trivial⟩ (Grew.of (frc (frl rfl) (frc rfl (frc (frl (frl (frl (frl (frl rfl))))) (frc (frl (frl (frl (frl (frl rfl))))) rfl)))) (Grew.mul (Grew.refl _) _))
        · refine Run.seq ?_
          refine Run.seq ?_
          refine Run.region ?_
          refine RunL.ok (OpOk.move rfl) rfl ?_
          refine RunL.ok (OpOk.move rfl) rfl ?_
          refine RunL.ok (OpOk.asT (OpOk.leq rfl rfl) (by omega)) rfl ?_
          refine RunL.nil ?_
          refine Run.condT rfl ?_
          refine Run.skip ?_
          refine Run.seq ?_
          refine Run.block ?_
          refine Run.region ?_
          refine RunL.ok (OpOk.move rfl) rfl ?_
          refine RunL.ok (OpOk.move rfl) rfl ?_
          refine RunL.ok (OpOk.move rfl) rfl ?_
          refine RunL.know (fun w s => (s.conv (frl rfl)).ownsP0) (fun alz1 => ?_)
          refine RunL.mem (frc (frl (frl (frl rfl))) (frc (frl (frl (frl rfl))) (frc (frl (frl (frl rfl))) (frc (frl (frl (frl rfl))) (frc (frl (frl (frl rfl))) rfl))))) ?_
          refine RunL.call cal37 rfl (s37a (by assumption) (by assumption)) rfl (fun vz2 Az2 hz2 => ?_)
          obtain ⟨rfl, rfl⟩ := hz2
          refine RunL.litI (xs := [bl.getD k 0]) rfl ti3 rfl rfl rfl (by decide) rfl (fun vz3 rdz3 => ?_)
          refine RunL.know (fun w s => (s.conv rfl).ownRd0) (fun rdz5 => ?_)
          refine RunL.appendI rfl ti3 rfl rfl rfl (frl (frl (frl (frl (frl (frl rfl)))))) (Rd.right rdz5) (by omega) rfl rfl (fun vz4 rdz4 => ?_)
          refine RunL.ok (OpOk.assign rfl) rfl ?_
          refine RunL.nil ?_
          refine Run.inBlock ?_
          refine Run.region ?_
          refine RunL.ok (OpOk.move rfl) rfl ?_
          refine RunL.ok (OpOk.addN _ 1 rfl rfl rfl rfl (by omega)) rfl ?_
          refine RunL.ok (OpOk.assign rfl) rfl ?_
          refine RunL.nil ?_
          rw [← hnx]
          refine Run.jump ((ih2 (k + 1, _) (by dsimp only; omega) (by dsimp only; omega))) ⟨rfl, rfl, rfl, rfl, rfl, rfl, rfl, trivial⟩ (Grew.of (frc (frl rfl) (frc rfl (frc (frl (frl (frl (frl (frl rfl))))) (frc (frl (frl (frl (frl (frl rfl))))) rfl)))) (Grew.mul (Grew.refl _) _))
      · obtain rfl : k = n + 1 := by omega
        clear ih2
        rw [List.take_of_length_le (by omega)]
        rcases hp : postF (n + 1) ks bl [] ps with ⟨e, b2⟩
        refine Run.seq ?_
        refine Run.seq ?_
        refine Run.region ?_
        refine RunL.ok (OpOk.move rfl) rfl ?_
        refine RunL.ok (OpOk.move rfl) rfl ?_
        refine RunL.ok (OpOk.asF (OpOk.leq rfl rfl) (by omega)) rfl ?_
        refine RunL.nil ?_
        refine Run.condF rfl ?_
        refine Run.exit rfl ?_
        refine Run.seq ?_
        refine Run.region ?_
        refine RunL.ok (OpOk.move rfl) rfl ?_
        refine RunL.ok (OpOk.move rfl) rfl ?_
        refine RunL.ok (OpOk.move rfl) rfl ?_
        refine RunL.ok (OpOk.idx1N rfl ti50 rfl rd.left.left.left.left.left.left.left.left.left.left rfl (by omega)) rfl ?_
        refine RunL.ok (OpOk.load rfl rfl rfl (Rd.cell rd.left.left.left.left.left.left.left.left.left.left (by first | assumption | rfl))) rfl ?_
        refine RunL.know (fun w s => (s.conv (frl rfl)).ownsP0) (fun alz1 => ?_)
        refine RunL.call cal35 rfl (s35 hrd.left.left.left.left.left.left.left.left.left.left hal.left.left.left.left.left.left.left.left.left.left (by assumption) (by assumption)) rfl (fun vz2 Az2 hz2 => ?_)
        obtain ⟨z3, ⟨z4, ⟨z5, rfl⟩⟩⟩ := hz2
        refine RunL.know (fun w s => (s.conv rfl).ownsP0) (fun alz6 => ?_)
        refine RunL.know (fun w s => (s.conv (frl rfl)).ownRd0) (fun rdz7 => ?_)
        refine RunL.mem (frc (frl (frl (frl (frl (frl (frl rfl)))))) (frc (frl (frl (frl (frl (frl (frl rfl)))))) (frc (frl (frl (frl (frl (frl (frl rfl)))))) (frc (frl (frl (frl (frl (frl (frl rfl)))))) (frc (frl (frl (frl (frl (frl (frl rfl)))))) rfl))))) ?_
        have hs4 := (postF_ct (n := n + 1) (ks := ks) (bal := bl) (fr := []) z5).trans hp
        have hl4 := len_ct z5
        have hin4 := hin_ct z5 hin
        have hm4 := hm_ct z5 hm
        have hk4 := keyP_ct z5
        have hyl := len_ct y5
        have hym := hm_ct y5 hLm
        have hLs : L.length + z3.length ≤ 1099511627776 := by omega
        rcases Decidable.em (e = 0) with he | he
        · subst he
          obtain ⟨hb2l, hb2i⟩ := postF_len hp
          obtain ⟨hb2s, hb20⟩ := postF_sum hp hbl
          have hb2k := postF_keys hp (by simpa using hnd)
          rw [List.nil_append] at hb2k
          replace hb2i := hb2i hbi
          rw [hbs] at hb2s
          rw [hb0] at hb20
          have hb2L : b2.length = n + 1 := hb2l.trans hbl
          have hLn : L.length + ps.length ≤ 1048576 * (i + 1) := by omega
          refine RunL.call cal34 rfl (s34a (Rd.right rdz7).left (Alls.right alz6) (by assumption) (by assumption) (by assumption) (by assumption) (by assumption) (by assumption) (by assumption)) rfl (fun vt1 At1 ht1 => ?_)
          obtain ⟨t2, ⟨t3, ⟨t4, ⟨t5, ⟨rfl, ⟨t6, rfl⟩⟩⟩⟩⟩⟩ := ht1
          refine RunL.ok (OpOk.assign rfl) rfl ?_
          refine RunL.nil ?_
          refine Run.seq ?_
          refine Run.region ?_
          refine RunL.ok (OpOk.move rfl) rfl ?_
          refine RunL.know (fun w s => (s.conv rfl).ownsP0) (fun alt7 => ?_)
          rw [← List.map_append] at t6
          have ht4l := len_ct t6
          rw [List.length_append] at ht4l
          have ht4m := hm_ct t6 (fun q hq => (List.mem_append.1 hq).elim (hLm q) (hm4 q))
          have ht4k := keyP_ct t6
          rw [List.map_append] at ht4k
          refine RunL.call cal36 rfl (s36 (by assumption) (by omega)) rfl (fun vq1 Aq1 hq1 => ?_)
          obtain ⟨q2, ⟨q3, ⟨q4, rfl⟩⟩⟩ := hq1
          refine RunL.ok (OpOk.assign rfl) rfl ?_
          refine RunL.nil ?_
          refine Run.seq ?_
          refine Run.seq ?_
          refine Run.region ?_
          refine RunL.ok (OpOk.move rfl) rfl ?_
          refine RunL.ok (OpOk.as (c := false) (OpOk.neq rfl rfl) (by rw [decide_eq_true (by omega)]; rfl)) rfl ?_
          refine RunL.ok (OpOk.move rfl) rfl ?_
          refine RunL.off rfl rfl rfl rfl ?_
          refine RunL.off rfl rfl rfl rfl ?_
          refine RunL.off rfl rfl rfl rfl ?_
          refine RunL.off rfl rfl rfl rfl ?_
          refine RunL.ok (OpOk.pickF rfl rfl) rfl ?_
          refine RunL.ok (OpOk.move rfl) rfl ?_
          refine RunL.on rfl rfl ?_
          refine RunL.ok (OpOk.move rfl) rfl ?_
          refine RunL.on rfl rfl ?_
          refine RunL.ok (OpOk.asT (OpOk.eql rfl rfl) (by omega)) rfl ?_
          refine RunL.on rfl rfl ?_
          refine RunL.ok (OpOk.move rfl) rfl ?_
          refine RunL.on rfl rfl ?_
          refine RunL.ok (OpOk.move rfl) rfl ?_
          refine RunL.on rfl rfl ?_
          refine RunL.ok (OpOk.move rfl) rfl ?_
          refine RunL.on rfl rfl ?_
          refine RunL.ok (OpOk.move rfl) rfl ?_
          refine RunL.on rfl rfl ?_
          refine RunL.ok (OpOk.move rfl) rfl ?_
          refine RunL.on rfl rfl ?_
          refine RunL.ok (OpOk.idx1N rfl ti50 rfl rd.left.left.left.left.left.left.left.left.left.left.left.left.left.left.left.left.left rfl (by omega)) rfl ?_
          refine RunL.on rfl rfl ?_
          refine RunL.ok (OpOk.load rfl rfl rfl (Rd.cell rd.left.left.left.left.left.left.left.left.left.left.left.left.left.left.left.left.left (by first | assumption | rfl))) rfl ?_
          refine RunL.on rfl rfl ?_
          refine RunL.appendF rfl ti63 rfl rfl rfl (frl (frl (frl (frl (frl (frl (frl (frl (frl (frl (frl (frl (frl (frl rfl)))))))))))))) hrd.left.left.left.left.left.left.left.left.left.left.left.left.left.left.left.left.left rfl (by decide) (by omega) (by simp only [maxLen]; omega) rfl (fun vq5 rdq5 => ?_)
          refine RunL.on rfl rfl ?_
          refine RunL.know (fun w s => (s.conv (frl rfl)).ownsP0) (fun alq6 => ?_)
          refine RunL.know (fun w s => (s.conv (frl (frl rfl))).ownRd0) (fun rdq7 => ?_)
          refine RunL.know (fun w s => (s.conv rfl).ownRd0) (fun rdq8 => ?_)
          have alA : Alls (GP w0) (ownsP y3 * old w0) (y3 ++ ps) := Alls.append alz1.left hal.right
          have hEq : q2.map ct = (y3 ++ ps).map ct := by rw [q4, t6, List.map_append, List.map_append, y5, z5]
          refine RunL.call cal38 rfl (s38 (Rd.right rdq7).left.left (Rd.right rdq8) (Alls.right alq6).left (Alls.conv alA.left.left.left.left.left.left.left.left.left.left.left.left.left.left.left.left ((frc rfl (frc rfl (frc rfl (frc rfl (frc rfl (frc rfl (frc rfl (frc rfl (frc rfl (frc rfl (frc rfl (frc rfl (frc rfl (frc rfl (frc (frl rfl) (frc (frl rfl) (frc (sep_comm _ _) rfl))))))))))))))))) : _ = _).symm)) rfl (fun vs1 As1 hs1 => ?_)
          obtain ⟨rfl, rfl⟩ := hs1
          refine RunL.on rfl rfl ?_
          refine RunL.ok (OpOk.not rfl) rfl ?_
          refine RunL.on rfl rfl ?_
          refine RunL.ok (OpOk.pickT rfl rfl) rfl ?_
          refine RunL.ok (OpOk.pickF rfl rfl) rfl ?_
          refine RunL.nil ?_
          refine Run.condNF rfl (by first | omega | with_reducible rfl | assumption) ?_
          refine Run.skip ?_
          refine Run.seq ?_
          refine Run.region ?_
          refine RunL.ok (OpOk.assign rfl) rfl ?_
          refine RunL.nil ?_
          refine Run.seq ?_
          refine Run.seq ?_
          refine Run.region ?_
          refine RunL.ok (OpOk.assign rfl) rfl ?_
          refine RunL.nil ?_
          refine Run.block ?_
          refine Run.jump ((Run.loopJ (X := Nat × Asn) (fun x => [(15, .int .i64 (x.1 : Int)), (14, .int .i64 (sumW (b2.take x.1))), (12, .int .i64 0), (10, v10), (8, .int .i64 (i : Int)), (6, .pointer (some ⟨x5, 0, none⟩)), (5, .int .i64 (n : Int)), (1, u)]) (fun x => old w0 * x.2 * pts x5 (.cells #[t2, .map (some x7), t3] 109 (0, 0)) * own 3 1 t2 (n + 1) (I (b2)) * setA x7 ((ks ++ List.map keyP z3)) * own 63 3 t3 (t4).length (Fl encT63 (t4)) * ownsP (t4) * own 3 1 v10 (n + 1) (I bl)) (fun x => x.1 ≤ n + 1) (fun x => n + 1 - x.1) (0, _) (Nat.zero_le _) (fun x hx ih3 => ?_))) ⟨rfl, rfl, rfl, rfl, rfl, rfl, rfl, rfl, trivial⟩ (Grew.of (Eq.trans (frc (frl (frl (frl (frl (frl (frl (frl (frl (frl (frl (frl (frl (frl rfl))))))))))))) (frc (frl (frl (frl rfl))) (frc (frl (frl (frl rfl))) (frc (frl (frl (frl rfl))) (frc (frl (frl (frl rfl))) (frc (frl (frl (frl rfl))) rfl)))))) (congrArg (· * _) (congrArg (· * _) (congrArg (· * _) (congrArg (· * _) (congrArg (· * _) (congrArg (· * _) (asg (asg (asg (asg (asg (asg (asg (asg (asg (asg as1))))))))))))))))) (Grew.refl _))
          obtain ⟨k, J3⟩ := x
          simp only at hx ih3 ⊢
          rcases Nat.lt_or_ge k (n + 1) with hk | hk
          · have hw := sumW_next (l := b2) (i := k) (by omega)
            rcases Nat.eq_zero_or_pos k with hk0 | hk0
            · subst hk0
              have hw00 : sumW (b2.take 0) = 0 := rfl
              have hw01 : sumW (b2.take (0 + 1)) = 0 := by rw [hw, (by assumption : b2.getD 0 0 = 0)]; rfl
              have hw02 : sumW (b2.take 0) + 0 = sumW (b2.take (0 + 1)) := by rw [hw01]; rfl
              refine Run.seq ?_
              refine Run.seq ?_
              refine Run.region ?_
              refine RunL.ok (OpOk.move rfl) rfl ?_
              refine RunL.ok (OpOk.move rfl) rfl ?_
              refine RunL.ok (OpOk.asT (OpOk.leq rfl rfl) (by omega)) rfl ?_
              refine RunL.nil ?_
              refine Run.condT rfl ?_
              refine Run.skip ?_
              refine Run.seq ?_
              refine Run.block ?_
              refine Run.seq ?_
              refine Run.region ?_
              refine RunL.ok (OpOk.move rfl) rfl ?_
              refine RunL.ok (OpOk.move rfl) rfl ?_
              refine RunL.ok (OpOk.move rfl) rfl ?_
              refine RunL.mem (frc (frl rfl) (frc (frl rfl) (frc (frl rfl) (frc (frl rfl) (frc (frl rfl) rfl))))) ?_
              refine RunL.call cal37 rfl (s37c (by omega)) rfl (fun vr3 Ar3 hr3 => ?_)
              obtain ⟨rfl, rfl⟩ := hr3
              refine RunL.ok (OpOk.add rfl rfl (wrapI (by omega) (by omega))) rfl ?_
              refine RunL.ok (OpOk.assign rfl) rfl ?_
              refine RunL.nil ?_
              refine Run.seq ?_
              refine Run.know (fun w s => (s.conv (frl (frl (frl (frl (frl rfl)))))).ownRd0) (fun rdr4 => ?_)
              refine Run.know (fun w s => (s.conv (frl (frl (frl rfl)))).ownRd0) (fun rdr5 => ?_)
              refine Run.know (fun w s => (s.conv (frl rfl)).ownRd0) (fun rdr6 => ?_)
              (apply Run.drawD [] (by rfl) (Eq.trans rfl (asg (asg (asg (asg rfl))))); case hchk => kernel_rfl)
              refine Sd.quiet 0 _ _ rfl rfl rfl rfl rfl (QOp.ok (fun X => OpOk.move rfl)) ?_
              refine Sd.quiet 1 _ _ rfl rfl rfl rfl rfl (QOp.ok (fun X => OpOk.as (c := false) (OpOk.neq rfl rfl) (by rw [decide_eq_true (by omega)]; rfl))) ?_
              refine Sd.quiet 2 _ _ rfl rfl rfl rfl rfl (QOp.ok (fun X => OpOk.move rfl)) ?_
              refine Sd.skip 3 _ rfl rfl rfl rfl rfl ?_
              refine Sd.skip 4 _ rfl rfl rfl rfl rfl ?_
              refine Sd.skip 5 _ rfl rfl rfl rfl rfl ?_
              refine Sd.skip 6 _ rfl rfl rfl rfl rfl ?_
              refine Sd.skip 7 _ rfl rfl rfl rfl rfl ?_
              refine Sd.skip 8 _ rfl rfl rfl rfl rfl ?_
              refine Sd.skip 9 _ rfl rfl rfl rfl rfl ?_
              refine Sd.skip 10 _ rfl rfl rfl rfl rfl ?_
              refine Sd.quiet 11 _ _ rfl rfl rfl rfl rfl (QOp.ok (fun X => OpOk.pickF rfl rfl)) ?_
              (apply Sd.tail; case hall => kernel_rfl)
              refine RunL.mem (fl2 (sep_emp _) (flS (flS (flS (flS rfl))))) ?_
              refine RunL.nil ?_
              refine Run.condF rfl ?_
              refine Run.skip ?_
              refine Run.inBlock ?_
              refine Run.region ?_
              refine RunL.ok (OpOk.move rfl) rfl ?_
              refine RunL.ok (OpOk.addN _ 1 rfl rfl rfl rfl (by omega)) rfl ?_
              refine RunL.ok (OpOk.assign rfl) rfl ?_
              refine RunL.nil ?_
              rw [hw02]
              refine Run.jump ((ih3 (0 + 1, _) (by dsimp only; omega) (by dsimp only; omega))) ⟨rfl, rfl, rfl, rfl, rfl, rfl, rfl, rfl, trivial⟩ (Grew.of (Eq.trans (frc (frl (frl (frl (frl (frl rfl))))) rfl) (congrArg (· * _) (congrArg (· * _) (congrArg (· * _) (congrArg (· * _) (congrArg (· * _) (congrArg (· * _) as1))))))) (Grew.refl _))
            · refine Run.seq ?_
              refine Run.seq ?_
              refine Run.region ?_
              refine RunL.ok (OpOk.move rfl) rfl ?_
              refine RunL.ok (OpOk.move rfl) rfl ?_
              refine RunL.ok (OpOk.asT (OpOk.leq rfl rfl) (by omega)) rfl ?_
              refine RunL.nil ?_
              refine Run.condT rfl ?_
              refine Run.skip ?_
              refine Run.seq ?_
              refine Run.block ?_
              refine Run.seq ?_
              refine Run.region ?_
              refine RunL.ok (OpOk.move rfl) rfl ?_
              refine RunL.ok (OpOk.move rfl) rfl ?_
              refine RunL.ok (OpOk.move rfl) rfl ?_
              refine RunL.mem (frc (frl rfl) (frc (frl rfl) (frc (frl rfl) (frc (frl rfl) (frc (frl rfl) rfl))))) ?_
              refine RunL.call cal37 rfl (s37a (by assumption) (by assumption)) rfl (fun vr1 Ar1 hr1 => ?_)
              obtain ⟨rfl, rfl⟩ := hr1
              refine RunL.ok (OpOk.add rfl rfl rfl) rfl ?_
              refine RunL.ok (OpOk.assign rfl) rfl ?_
              refine RunL.nil ?_
              refine Run.seq ?_
              refine Run.know (fun w s => (s.conv (frl (frl (frl (frl (frl rfl)))))).ownRd0) (fun rdr2 => ?_)
              refine Run.know (fun w s => (s.conv (frl (frl (frl rfl)))).ownRd0) (fun rdr3 => ?_)
              refine Run.know (fun w s => (s.conv (frl rfl)).ownRd0) (fun rdr4 => ?_)
              (apply Run.drawD [] (by rfl) (Eq.trans rfl (asg (asg (asg (asg rfl))))); case hchk => kernel_rfl)
              refine Sd.quiet 0 _ _ rfl rfl rfl rfl rfl (QOp.ok (fun X => OpOk.move rfl)) ?_
              refine Sd.quiet 1 _ _ rfl rfl rfl rfl rfl (QOp.ok (fun X => OpOk.as (c := false) (OpOk.neq rfl rfl) (by rw [decide_eq_true (by omega)]; rfl))) ?_
              refine Sd.quiet 2 _ _ rfl rfl rfl rfl rfl (QOp.ok (fun X => OpOk.move rfl)) ?_
              refine Sd.skip 3 _ rfl rfl rfl rfl rfl ?_
              refine Sd.skip 4 _ rfl rfl rfl rfl rfl ?_
              refine Sd.skip 5 _ rfl rfl rfl rfl rfl ?_
              refine Sd.skip 6 _ rfl rfl rfl rfl rfl ?_
              refine Sd.skip 7 _ rfl rfl rfl rfl rfl ?_
              refine Sd.skip 8 _ rfl rfl rfl rfl rfl ?_
              refine Sd.skip 9 _ rfl rfl rfl rfl rfl ?_
              refine Sd.skip 10 _ rfl rfl rfl rfl rfl ?_
              refine Sd.quiet 11 _ _ rfl rfl rfl rfl rfl (QOp.ok (fun X => OpOk.pickF rfl rfl)) ?_
              (apply Sd.tail; case hall => kernel_rfl)
              refine RunL.mem (fl2 (sep_emp _) (flS (flS (flS (flS rfl))))) ?_
              refine RunL.nil ?_
              refine Run.condF rfl ?_
              refine Run.skip ?_
              refine Run.inBlock ?_
              refine Run.region ?_
              refine RunL.ok (OpOk.move rfl) rfl ?_
              refine RunL.ok (OpOk.addN _ 1 rfl rfl rfl rfl (by omega)) rfl ?_
              refine RunL.ok (OpOk.assign rfl) rfl ?_
              refine RunL.nil ?_
              rw [← hw]
              refine Run.jump ((ih3 (k + 1, _) (by dsimp only; omega) (by dsimp only; omega))) ⟨rfl, rfl, rfl, rfl, rfl, rfl, rfl, rfl, trivial⟩ (Grew.of (Eq.trans (frc (frl (frl (frl (frl (frl rfl))))) rfl) (congrArg (· * _) (congrArg (· * _) (congrArg (· * _) (congrArg (· * _) (congrArg (· * _) (congrArg (· * _) as1))))))) (Grew.refl _))
          · obtain rfl : k = n + 1 := by omega
            clear ih3
            rw [List.take_of_length_le (by omega), sumW_zero (by assumption)]
            refine Run.seq ?_
            refine Run.seq ?_
            refine Run.region ?_
            refine RunL.ok (OpOk.move rfl) rfl ?_
            refine RunL.ok (OpOk.move rfl) rfl ?_
            refine RunL.ok (OpOk.asF (OpOk.leq rfl rfl) (by omega)) rfl ?_
            refine RunL.nil ?_
            refine Run.condF rfl ?_
            refine Run.exit rfl ?_
            refine Run.seq ?_
            refine Run.region ?_
            refine RunL.ok (OpOk.move rfl) rfl ?_
            refine RunL.ok (OpOk.as (c := false) (OpOk.neq rfl rfl) (by rw [decide_eq_true (by omega)]; rfl)) rfl ?_
            refine RunL.ok (OpOk.move rfl) rfl ?_
            refine RunL.on rfl rfl ?_
            refine RunL.ok (OpOk.move rfl) rfl ?_
            refine RunL.on rfl rfl ?_
            refine RunL.mem (frc (frl rfl) (frc (frl rfl) (frc (frl rfl) (frc (frl rfl) (frc (frl rfl) rfl))))) ?_
            refine RunL.call cal54 rfl (s54 (by assumption) (by assumption) (by assumption)) rfl (fun vr1 Ar1 hr1 => ?_)
            obtain ⟨rfl, rfl⟩ := hr1
            refine RunL.on rfl rfl ?_
            refine RunL.ok (OpOk.as (c := false) (OpOk.neq rfl rfl) (by rw [decide_eq_true (by omega)]; rfl)) rfl ?_
            refine RunL.ok (OpOk.pickF rfl rfl) rfl ?_
            refine RunL.nil ?_
            refine Run.condF rfl ?_
            refine Run.skip ?_
            refine Run.inBlock ?_
            refine Run.region ?_
            refine RunL.ok (OpOk.move rfl) rfl ?_
            refine RunL.ok (OpOk.addN _ 1 rfl rfl rfl rfl (by omega)) rfl ?_
            refine RunL.ok (OpOk.assign rfl) rfl ?_
            refine RunL.nil ?_
            refine Run.jump ((ih (i + 1, _, t2, b2, ks ++ List.map keyP z3, t3, t4) ⟨by dsimp only; omega, by dsimp only; omega, hb2l.trans hbl, hb2i, hb2s, hb20, by dsimp only; rw [ht4k, hks], by dsimp only; rw [hk4]; exact hb2k, by dsimp only; omega, ht4m⟩ (by dsimp only; omega))) ⟨rfl, rfl, rfl, rfl, trivial⟩ (Grew.of (congrArg (· * _) (congrArg (· * _) (congrArg (· * _) (congrArg (· * _) (congrArg (· * _) (asg as1)))))) (Grew.refl _))
        · refine RunL.call cal34 rfl (s34b (Rd.right rdz7).left (Alls.right alz6) (by assumption) (by assumption) (by assumption) (by assumption) (by assumption) (by assumption) (by assumption) (by assumption)) rfl (fun vt2 At2 ht2 => ?_)
          obtain ⟨t3, ⟨rfl, rfl⟩⟩ := ht2
          refine RunL.ok (OpOk.assign rfl) rfl ?_
          refine RunL.nil ?_
          refine Run.seq ?_
          refine Run.region ?_
          refine RunL.ok (OpOk.move rfl) rfl ?_
          refine RunL.call cal36 rfl (s36 (by assumption) (by assumption)) rfl (fun vt4 At4 ht4 => ?_)
          obtain ⟨t5, ⟨t6, ⟨t7, rfl⟩⟩⟩ := ht4
          refine RunL.ok (OpOk.assign rfl) rfl ?_
          refine RunL.nil ?_
          refine Run.seq ?_
          refine Run.seq ?_
          refine Run.region ?_
          refine RunL.ok (OpOk.move rfl) rfl ?_
          refine RunL.ok (OpOk.as (c := true) (OpOk.neq rfl rfl) (by rw [decide_eq_false (by omega)]; rfl)) rfl ?_
          refine RunL.ok (OpOk.move rfl) rfl ?_
          refine RunL.on rfl rfl ?_
          refine RunL.ok (OpOk.move rfl) rfl ?_
          refine RunL.on rfl rfl ?_
          refine RunL.ok (OpOk.move rfl) rfl ?_
          refine RunL.on rfl rfl ?_
          refine RunL.know (fun w s => (s.conv rfl).ownsP0) (fun alt8 => ?_)
          refine RunL.know (fun w s => (s.conv (frl rfl)).ownRd0) (fun rdt9 => ?_)
          refine RunL.know (fun w s => (s.conv (frl (frl (frl (frl (frl (frl (frl (frl (frl (frl (frl (frl (frl (frl rfl))))))))))))))).ownRd0) (fun rdt10 => ?_)
          refine RunL.call cal38 rfl (s38 (Rd.right rdt9).left (Rd.right rdt10).left.left.left.left.left.left.left.left.left.left.left.left.left.left (Alls.right alt8) (Alls.right alz1).left.left.left.left.left.left.left.left.left.left.left.left.left) rfl (fun vt11 At11 ht11 => ?_)
          obtain ⟨rfl, rfl⟩ := ht11
          refine RunL.on rfl rfl ?_
          refine RunL.ok (OpOk.not rfl) rfl ?_
          refine RunL.ok (OpOk.pickT rfl rfl) rfl ?_
          refine RunL.ok (OpOk.move rfl) rfl ?_
          refine RunL.splitN (t := 76) rfl (fun t12 => ?_) (fun t12 => ?_)
          · refine RunL.off rfl rfl rfl rfl ?_
            refine RunL.off rfl rfl rfl rfl ?_
            refine RunL.off rfl rfl rfl rfl ?_
            refine RunL.off rfl rfl rfl rfl ?_
            refine RunL.off rfl rfl rfl rfl ?_
            refine RunL.off rfl rfl rfl rfl ?_
            refine RunL.off rfl rfl rfl rfl ?_
            refine RunL.off rfl rfl rfl rfl ?_
            refine RunL.off rfl rfl rfl rfl ?_
            refine RunL.off rfl rfl rfl rfl ?_
            refine RunL.off rfl rfl rfl rfl ?_
            refine RunL.off rfl rfl rfl rfl ?_
            refine RunL.off rfl rfl rfl rfl ?_
            refine RunL.ok (OpOk.pickT rfl rfl) rfl ?_
            refine RunL.nil ?_
            refine Run.condT rfl ?_
            refine Run.seq ?_
            refine Run.region ?_
            refine RunL.ok (OpOk.assign rfl) rfl ?_
            refine RunL.nil ?_
            refine Run.ret1 Try.func13 rfl rfl ?_
            exact absurd (t7.trans y5.symm) t12
          refine RunL.on rfl rfl ?_
          refine RunL.ok (OpOk.move rfl) rfl ?_
          refine RunL.on rfl rfl ?_
          refine RunL.ok (OpOk.asF (OpOk.eql rfl rfl) (by omega)) rfl ?_
          refine RunL.on rfl rfl ?_
          refine RunL.ok (OpOk.move rfl) rfl ?_
          refine RunL.off rfl rfl rfl rfl ?_
          refine RunL.off rfl rfl rfl rfl ?_
          refine RunL.off rfl rfl rfl rfl ?_
          refine RunL.off rfl rfl rfl rfl ?_
          refine RunL.off rfl rfl rfl rfl ?_
          refine RunL.off rfl rfl rfl rfl ?_
          refine RunL.off rfl rfl rfl rfl ?_
          refine RunL.off rfl rfl rfl rfl ?_
          refine RunL.off rfl rfl rfl rfl ?_
          refine RunL.on rfl rfl ?_
          refine RunL.ok (OpOk.pickF rfl rfl) rfl ?_
          refine RunL.ok (OpOk.pickF rfl rfl) rfl ?_
          refine RunL.nil ?_
          refine Run.condF rfl ?_
          refine Run.skip ?_
          refine Run.seq ?_
          refine Run.region ?_
          refine RunL.ok (OpOk.assign rfl) rfl ?_
          refine RunL.nil ?_
          refine Run.seq ?_
          refine Run.seq ?_
          refine Run.region ?_
          refine RunL.ok (OpOk.assign rfl) rfl ?_
          refine RunL.nil ?_
          refine Run.block ?_
          refine Run.jump ((Run.loopJ (X := Nat × Asn) (fun x => [(15, .int .i64 (x.1 : Int)), (14, .int .i64 (sumW (bl.take x.1))), (12, .int .i64 e), (10, v10), (8, .int .i64 (i : Int)), (6, .pointer (some ⟨x5, 0, none⟩)), (5, .int .i64 (n : Int)), (1, u)]) (fun x => old w0 * x.2 * pts x5 (.cells #[av, .map (some x7), pv] 109 (0, 0)) * own 3 1 av (n + 1) (I (bl)) * setA x7 (ks) * own 63 3 pv (L).length (Fl encT63 (L)) * ownsP (L) * own 3 1 v10 (n + 1) (I bl)) (fun x => x.1 ≤ n + 1) (fun x => n + 1 - x.1) (0, _) (Nat.zero_le _) (fun x hx ih3 => ?_))) ⟨rfl, rfl, rfl, rfl, rfl, rfl, rfl, rfl, trivial⟩ (Grew.of (Eq.trans (frc (frl (frl (frl (frl (frl (frl (frl (frl (frl (frl (frl (frl rfl)))))))))))) (frc (frl (frl rfl)) (frc (frl (frl rfl)) (frc (frl (frl rfl)) (frc (frl (frl rfl)) (frc (frl (frl rfl)) rfl)))))) (congrArg (· * _) (congrArg (· * _) (congrArg (· * _) (congrArg (· * _) (congrArg (· * _) (congrArg (· * _) (asg (asg (asg (asg (asg (asg (asg (asg (asg (asg as1))))))))))))))))) (Grew.refl _))
          obtain ⟨k, J3⟩ := x
          simp only at hx ih3 ⊢
          rcases Nat.lt_or_ge k (n + 1) with hk | hk
          · have hw := sumW_next (l := bl) (i := k) (by omega)
            rcases Nat.eq_zero_or_pos k with hk0 | hk0
            · subst hk0
              have hw00 : sumW (bl.take 0) = 0 := rfl
              have hw01 : sumW (bl.take (0 + 1)) = 0 := by rw [hw, (by assumption : bl.getD 0 0 = 0)]; rfl
              have hw02 : sumW (bl.take 0) + 0 = sumW (bl.take (0 + 1)) := by rw [hw01]; rfl
              refine Run.seq ?_
              refine Run.seq ?_
              refine Run.region ?_
              refine RunL.ok (OpOk.move rfl) rfl ?_
              refine RunL.ok (OpOk.move rfl) rfl ?_
              refine RunL.ok (OpOk.asT (OpOk.leq rfl rfl) (by omega)) rfl ?_
              refine RunL.nil ?_
              refine Run.condT rfl ?_
              refine Run.skip ?_
              refine Run.seq ?_
              refine Run.block ?_
              refine Run.seq ?_
              refine Run.region ?_
              refine RunL.ok (OpOk.move rfl) rfl ?_
              refine RunL.ok (OpOk.move rfl) rfl ?_
              refine RunL.ok (OpOk.move rfl) rfl ?_
              refine RunL.mem (frc (frl rfl) (frc (frl rfl) (frc (frl rfl) (frc (frl rfl) (frc (frl rfl) rfl))))) ?_
              refine RunL.call cal37 rfl (s37c (by omega)) rfl (fun vr3 Ar3 hr3 => ?_)
              obtain ⟨rfl, rfl⟩ := hr3
              refine RunL.ok (OpOk.add rfl rfl (wrapI (by omega) (by omega))) rfl ?_
              refine RunL.ok (OpOk.assign rfl) rfl ?_
              refine RunL.nil ?_
              refine Run.seq ?_
              refine Run.know (fun w s => (s.conv (frl (frl (frl (frl (frl rfl)))))).ownRd0) (fun rdr4 => ?_)
              refine Run.know (fun w s => (s.conv (frl (frl (frl rfl)))).ownRd0) (fun rdr5 => ?_)
              refine Run.know (fun w s => (s.conv (frl rfl)).ownRd0) (fun rdr6 => ?_)
              (apply Run.drawD [] (by rfl) (Eq.trans rfl (asg (asg (asg (asg rfl))))); case hchk => kernel_rfl)
              refine Sd.quiet 0 _ _ rfl rfl rfl rfl rfl (QOp.ok (fun X => OpOk.move rfl)) ?_
              refine Sd.quiet 1 _ _ rfl rfl rfl rfl rfl (QOp.ok (fun X => OpOk.as (c := true) (OpOk.neq rfl rfl) (by rw [decide_eq_false (by omega)]; rfl))) ?_
              refine Sd.quiet 2 _ _ rfl rfl rfl rfl rfl (QOp.ok (fun X => OpOk.move rfl)) ?_
              refine Sd.quiet 3 _ _ rfl rfl rfl rfl rfl (QOp.ok (fun X => OpOk.move rfl)) ?_
              refine Sd.quiet 4 _ _ rfl rfl rfl rfl rfl (QOp.ok (fun X => OpOk.move rfl)) ?_
              refine Sd.quiet 6 _ _ rfl rfl rfl rfl rfl (QOp.ok (fun X => OpOk.move rfl)) ?_
              refine Sd.quiet 7 _ _ rfl rfl rfl rfl rfl (QOp.ok (fun X => OpOk.move rfl)) ?_
              refine Sd.quiet 8 _ _ rfl rfl rfl rfl rfl (QOp.ok (fun X => OpOk.idx1N rfl ti3 rfl (Rd.right rdr4).left.left rfl (by omega))) ?_
              refine Sd.quiet 9 _ _ rfl rfl rfl rfl rfl (QOp.ok (fun X => OpOk.load rfl rfl rfl (Rd.getIE (by assumption) (Rd.right rdr4).left.left (by omega)))) ?_
              (refine Sd.exec 5 rfl rfl rfl rfl rfl ?hrest (by rfl) (fun Xr7 Kr7 hKr7 => ?_); case hrest => kernel_rfl)
              refine RunL.mem (fl2 (sep_emp _) (flS (flS (flS (flS rfl))))) ?_
              refine RunL.call cal37 rfl (s37c (by omega)) rfl (fun vr10 Ar10 hr10 => ?_)
              obtain ⟨rfl, rfl⟩ := hr10
              refine Sd.ret hKr7 (Eq.trans rfl (gp2 (sep_emp _).symm (asg (asg (asg (asg rfl)))))) ⟨_, (emp_sep _).symm⟩ ?_
              refine Sd.quiet 10 _ _ rfl rfl rfl rfl rfl (QOp.ok (fun X => OpOk.as (c := false) (OpOk.neq rfl rfl) (by rw [decide_eq_true (by omega)]; rfl))) ?_
              refine Sd.quiet 11 _ _ rfl rfl rfl rfl rfl (QOp.ok (fun X => OpOk.pickT rfl rfl)) ?_
              (apply Sd.tail; case hall => kernel_rfl)
              refine RunL.mem (fl2 (flS (flS (flS (flS rfl)))) (sep_emp _)) ?_
              refine RunL.nil ?_
              refine Run.condF rfl ?_
              refine Run.skip ?_
              refine Run.inBlock ?_
              refine Run.region ?_
              refine RunL.ok (OpOk.move rfl) rfl ?_
              refine RunL.ok (OpOk.addN _ 1 rfl rfl rfl rfl (by omega)) rfl ?_
              refine RunL.ok (OpOk.assign rfl) rfl ?_
              refine RunL.nil ?_
              rw [hw02]
              refine Run.jump ((ih3 (0 + 1, _) (by dsimp only; omega) (by dsimp only; omega))) ⟨rfl, rfl, rfl, rfl, rfl, rfl, rfl, rfl, trivial⟩ (Grew.of (Eq.trans (frc (frl (frl (frl (frl (frl rfl))))) rfl) (congrArg (· * _) (congrArg (· * _) (congrArg (· * _) (congrArg (· * _) (congrArg (· * _) (congrArg (· * _) as1))))))) (Grew.refl _))
            · refine Run.seq ?_
              refine Run.seq ?_
              refine Run.region ?_
              refine RunL.ok (OpOk.move rfl) rfl ?_
              refine RunL.ok (OpOk.move rfl) rfl ?_
              refine RunL.ok (OpOk.asT (OpOk.leq rfl rfl) (by omega)) rfl ?_
              refine RunL.nil ?_
              refine Run.condT rfl ?_
              refine Run.skip ?_
              refine Run.seq ?_
              refine Run.block ?_
              refine Run.seq ?_
              refine Run.region ?_
              refine RunL.ok (OpOk.move rfl) rfl ?_
              refine RunL.ok (OpOk.move rfl) rfl ?_
              refine RunL.ok (OpOk.move rfl) rfl ?_
              refine RunL.mem (frc (frl rfl) (frc (frl rfl) (frc (frl rfl) (frc (frl rfl) (frc (frl rfl) rfl))))) ?_
              refine RunL.call cal37 rfl (s37a (by assumption) (by assumption)) rfl (fun vr1 Ar1 hr1 => ?_)
              obtain ⟨rfl, rfl⟩ := hr1
              refine RunL.ok (OpOk.add rfl rfl rfl) rfl ?_
              refine RunL.ok (OpOk.assign rfl) rfl ?_
              refine RunL.nil ?_
              refine Run.seq ?_
              refine Run.know (fun w s => (s.conv (frl (frl (frl (frl (frl rfl)))))).ownRd0) (fun rdr2 => ?_)
              refine Run.know (fun w s => (s.conv (frl (frl (frl rfl)))).ownRd0) (fun rdr3 => ?_)
              refine Run.know (fun w s => (s.conv (frl rfl)).ownRd0) (fun rdr4 => ?_)
              (apply Run.drawD [] (by rfl) (Eq.trans rfl (asg (asg (asg (asg rfl))))); case hchk => kernel_rfl)
              refine Sd.quiet 0 _ _ rfl rfl rfl rfl rfl (QOp.ok (fun X => OpOk.move rfl)) ?_
              refine Sd.quiet 1 _ _ rfl rfl rfl rfl rfl (QOp.ok (fun X => OpOk.as (c := true) (OpOk.neq rfl rfl) (by rw [decide_eq_false (by omega)]; rfl))) ?_
              refine Sd.quiet 2 _ _ rfl rfl rfl rfl rfl (QOp.ok (fun X => OpOk.move rfl)) ?_
              refine Sd.quiet 3 _ _ rfl rfl rfl rfl rfl (QOp.ok (fun X => OpOk.move rfl)) ?_
              refine Sd.quiet 4 _ _ rfl rfl rfl rfl rfl (QOp.ok (fun X => OpOk.move rfl)) ?_
              refine Sd.quiet 6 _ _ rfl rfl rfl rfl rfl (QOp.ok (fun X => OpOk.move rfl)) ?_
              refine Sd.quiet 7 _ _ rfl rfl rfl rfl rfl (QOp.ok (fun X => OpOk.move rfl)) ?_
              refine Sd.quiet 8 _ _ rfl rfl rfl rfl rfl (QOp.ok (fun X => OpOk.idx1N rfl ti3 rfl (Rd.right rdr2).left.left rfl (by omega))) ?_
              refine Sd.quiet 9 _ _ rfl rfl rfl rfl rfl (QOp.ok (fun X => OpOk.load rfl rfl rfl (Rd.getI (Rd.right rdr2).left.left (by omega)))) ?_
              (refine Sd.exec 5 rfl rfl rfl rfl rfl ?hrest (by rfl) (fun Xr5 Kr5 hKr5 => ?_); case hrest => kernel_rfl)
              refine RunL.mem (fl2 (sep_emp _) (flS (flS (flS (flS rfl))))) ?_
              refine RunL.call cal37 rfl (s37a (by assumption) (by assumption)) rfl (fun vr6 Ar6 hr6 => ?_)
              obtain ⟨rfl, rfl⟩ := hr6
              refine Sd.ret hKr5 (Eq.trans rfl (gp2 (sep_emp _).symm (asg (asg (asg (asg rfl)))))) ⟨_, (emp_sep _).symm⟩ ?_
              refine Sd.quiet 10 _ _ rfl rfl rfl rfl rfl (QOp.ok (fun X => OpOk.as (c := false) (OpOk.neq rfl rfl) (by rw [decide_eq_true (by omega)]; rfl))) ?_
              refine Sd.quiet 11 _ _ rfl rfl rfl rfl rfl (QOp.ok (fun X => OpOk.pickT rfl rfl)) ?_
              (apply Sd.tail; case hall => kernel_rfl)
              refine RunL.mem (fl2 (flS (flS (flS (flS rfl)))) (sep_emp _)) ?_
              refine RunL.nil ?_
              refine Run.condF rfl ?_
              refine Run.skip ?_
              refine Run.inBlock ?_
              refine Run.region ?_
              refine RunL.ok (OpOk.move rfl) rfl ?_
              refine RunL.ok (OpOk.addN _ 1 rfl rfl rfl rfl (by omega)) rfl ?_
              refine RunL.ok (OpOk.assign rfl) rfl ?_
              refine RunL.nil ?_
              rw [← hw]
              refine Run.jump ((ih3 (k + 1, _) (by dsimp only; omega) (by dsimp only; omega))) ⟨rfl, rfl, rfl, rfl, rfl, rfl, rfl, rfl, trivial⟩ (Grew.of (Eq.trans (frc (frl (frl (frl (frl (frl rfl))))) rfl) (congrArg (· * _) (congrArg (· * _) (congrArg (· * _) (congrArg (· * _) (congrArg (· * _) (congrArg (· * _) as1))))))) (Grew.refl _))
          · obtain rfl : k = n + 1 := by omega
            clear ih3
            rw [List.take_of_length_le (by omega), sumW_zero (by assumption)]
            refine Run.seq ?_
            refine Run.seq ?_
            refine Run.region ?_
            refine RunL.ok (OpOk.move rfl) rfl ?_
            refine RunL.ok (OpOk.move rfl) rfl ?_
            refine RunL.ok (OpOk.asF (OpOk.leq rfl rfl) (by omega)) rfl ?_
            refine RunL.nil ?_
            refine Run.condF rfl ?_
            refine Run.exit rfl ?_
            refine Run.seq ?_
            refine Run.region ?_
            refine RunL.ok (OpOk.move rfl) rfl ?_
            refine RunL.ok (OpOk.as (c := false) (OpOk.neq rfl rfl) (by rw [decide_eq_true (by omega)]; rfl)) rfl ?_
            refine RunL.ok (OpOk.move rfl) rfl ?_
            refine RunL.on rfl rfl ?_
            refine RunL.ok (OpOk.move rfl) rfl ?_
            refine RunL.on rfl rfl ?_
            refine RunL.mem (frc (frl rfl) (frc (frl rfl) (frc (frl rfl) (frc (frl rfl) (frc (frl rfl) rfl))))) ?_
            refine RunL.call cal54 rfl (s54 (by assumption) (by assumption) (by assumption)) rfl (fun vr1 Ar1 hr1 => ?_)
            obtain ⟨rfl, rfl⟩ := hr1
            refine RunL.on rfl rfl ?_
            refine RunL.ok (OpOk.as (c := false) (OpOk.neq rfl rfl) (by rw [decide_eq_true (by omega)]; rfl)) rfl ?_
            refine RunL.ok (OpOk.pickF rfl rfl) rfl ?_
            refine RunL.nil ?_
            refine Run.condF rfl ?_
            refine Run.skip ?_
            refine Run.inBlock ?_
            refine Run.region ?_
            refine RunL.ok (OpOk.move rfl) rfl ?_
            refine RunL.ok (OpOk.addN _ 1 rfl rfl rfl rfl (by omega)) rfl ?_
            refine RunL.ok (OpOk.assign rfl) rfl ?_
            refine RunL.nil ?_
            refine Run.jump ((ih (i + 1, _, av, bl, ks, pv, L) ⟨by dsimp only; omega, by dsimp only; omega, hbl, hbi, hbs, hb0, hks, hnd, by dsimp only; omega, hLm⟩ (by dsimp only; omega))) ⟨rfl, rfl, rfl, rfl, trivial⟩ (Grew.of (congrArg (· * _) (congrArg (· * _) (congrArg (· * _) (congrArg (· * _) (congrArg (· * _) (asg as1)))))) (Grew.refl _))
    · clear ih
      refine Run.seq ?_
      refine Run.seq ?_
      refine Run.region ?_
      refine RunL.ok (OpOk.move rfl) rfl ?_
      refine RunL.ok (OpOk.move rfl) rfl ?_
      refine RunL.ok (OpOk.lenR rfl rfl rd.left.left.left.left.left.left rfl) rfl ?_
      refine RunL.ok (OpOk.asT (OpOk.lss rfl rfl) (by omega)) rfl ?_
      refine RunL.ok (OpOk.move rfl) rfl ?_
      refine RunL.on rfl rfl ?_
      refine RunL.ok (OpOk.move rfl) rfl ?_
      refine RunL.on rfl rfl ?_
      refine RunL.ok (OpOk.asF (OpOk.lss rfl rfl) (by omega)) rfl ?_
      refine RunL.ok (OpOk.pickT rfl rfl) rfl ?_
      refine RunL.nil ?_
      refine Run.condF rfl ?_
      refine Run.exit rfl ?_
      refine Run.seq ?_
      refine Run.region ?_
      refine RunL.ok (OpOk.move rfl) rfl ?_
      refine RunL.know (fun w s => (s.conv rfl).ownsP0) (fun aly1 => ?_)
      refine RunL.call cal36 rfl (s36 (by assumption) (by assumption)) rfl (fun vy2 Ay2 hy2 => ?_)
      obtain ⟨y3, ⟨y4, ⟨y5, rfl⟩⟩⟩ := hy2
      refine RunL.ok (OpOk.assign rfl) rfl ?_
      refine RunL.nil ?_
      refine Run.seq ?_
      refine Run.seq ?_
      refine Run.region ?_
      refine RunL.ok (OpOk.assign rfl) rfl ?_
      refine RunL.nil ?_
      refine Run.block ?_
      have hyk := keyP_ct y5
      have hnd2 : (y3.map keyP).Nodup := by rw [hyk, ← hks]; exact hnd
      have hyl := len_ct y5
      refine Run.jump ((Run.loopJ (X := Nat) (fun k => [(17, .int .i64 (k : Int)), (16, vy2), (6, .pointer (some ⟨x5, 0, none⟩))]) (fun _ => old w0 * J * y4 * pts x5 (.cells #[av, .map (some x7), pv] 109 (0, 0)) * own 3 1 av (n + 1) (I (bl)) * setA x7 (ks) * own 63 3 pv (L).length (Fl encT63 (L)) * ownsP (L) * own 63 3 vy2 y3.length (Fl encT63 y3) * ownsP y3) (fun k => k ≤ y3.length) (fun k => y3.length - k) 0 (Nat.zero_le _) (fun k hk ih2 => ?_))) ⟨rfl, rfl, rfl, trivial⟩ ((Grew.refl _))
      refine Run.know (fun w s => Sat.ownRd0 (s.conv (sep_last _ _ _))) (fun rdM => ?_)
      rcases Nat.lt_or_ge k y3.length with hk1 | hk1
      · have rdc := Rd.cutFl (enc := encT63) (s := 3) (fun _ => rfl) rdM (Nat.zero_le k) (show k ≤ y3.length by omega)
        rw [Nat.sub_zero, List.drop_zero] at rdc
        have hn1 := nodup_at hnd2 hk1
        have hn2 : ((y3.getD k default).1, (y3.getD k default).2.1) ∈ ks := by
          rw [hks, ← hyk]
          exact List.mem_map.2 ⟨_, getD_mem hk1, rfl⟩
        refine Run.seq ?_
        refine Run.seq ?_
        refine Run.region ?_
        refine RunL.ok (OpOk.move rfl) rfl ?_
        refine RunL.ok (OpOk.move rfl) rfl ?_
        refine RunL.ok (OpOk.lenR rfl rfl (Rd.right rdM).left rfl) rfl ?_
        refine RunL.ok (OpOk.asT (OpOk.lss rfl rfl) (by omega)) rfl ?_
        refine RunL.ok (OpOk.move rfl) rfl ?_
        refine RunL.on rfl rfl ?_
        refine RunL.ok (OpOk.move rfl) rfl ?_
        refine RunL.on rfl rfl ?_
        refine RunL.ok (OpOk.lss rfl rfl) rfl ?_
        refine RunL.ok (OpOk.pickT rfl rfl) rfl ?_
        refine RunL.nil ?_
        refine Run.condD rfl (fun q1 => ?_) (fun q1 => ?_)
        · refine Run.skip ?_
          refine Run.seq ?_
          refine Run.block ?_
          refine Run.seq ?_
          refine Run.know (fun w s => (s.conv (frl (frl (frl (frl (frl rfl)))))).ownRd0) (fun rdq2 => ?_)
          refine Run.know (fun w s => (s.conv (frl (frl (frl rfl)))).ownRd0) (fun rdq3 => ?_)
          (apply Run.drawD [] (by rfl) (Eq.trans (frc (frl (frl rfl)) (frc (frl (frl rfl)) (frc (frl (frl rfl)) (frc (frl (frl rfl)) (frc (frl (frl rfl)) rfl))))) (asg (asg (asg (asg rfl))))); case hchk => kernel_rfl)
          refine Sd.quiet 0 _ _ rfl rfl rfl rfl rfl (QOp.ok (fun X => OpOk.move rfl)) ?_
          refine Sd.quiet 1 _ _ rfl rfl rfl rfl rfl (QOp.ok (fun X => OpOk.move rfl)) ?_
          refine Sd.quiet 2 _ _ rfl rfl rfl rfl rfl (QOp.ok (fun X => OpOk.cut rfl ti63 rfl (Rd.right rdM).left.left.left rfl ⟨_, rfl⟩ (by omega) (by omega))) ?_
          refine Sd.quiet 3 _ _ rfl rfl rfl rfl rfl (QOp.ok (fun X => OpOk.move rfl)) ?_
          refine Sd.quiet 4 _ _ rfl rfl rfl rfl rfl (QOp.ok (fun X => OpOk.move rfl)) ?_
          refine Sd.quiet 5 _ _ rfl rfl rfl rfl rfl (QOp.ok (fun X => OpOk.idxN rfl ti63 rfl (Rd.right rdM).left.left.left rfl (by omega))) ?_
          refine Sd.quiet 6 _ _ rfl rfl rfl rfl rfl (QOp.ok (fun X => OpOk.fieldAddrA fld63_0 rfl)) ?_
          refine Sd.quiet 7 _ _ rfl rfl rfl rfl rfl (QOp.ok (fun X => OpOk.loadFl1 default rfl rfl rfl (Rd.right rdM).left.left.left (fun _ => rfl) rfl (by omega) rfl)) ?_
          refine Sd.quiet 8 _ _ rfl rfl rfl rfl rfl (QOp.ok (fun X => OpOk.move rfl)) ?_
          refine Sd.quiet 9 _ _ rfl rfl rfl rfl rfl (QOp.ok (fun X => OpOk.move rfl)) ?_
          refine Sd.quiet 10 _ _ rfl rfl rfl rfl rfl (QOp.ok (fun X => OpOk.idxN rfl ti63 rfl (Rd.right rdM).left.left.left rfl (by omega))) ?_
          refine Sd.quiet 11 _ _ rfl rfl rfl rfl rfl (QOp.ok (fun X => OpOk.fieldAddrA fld63_1 rfl)) ?_
          refine Sd.quiet 12 _ _ rfl rfl rfl rfl rfl (QOp.ok (fun X => OpOk.loadFl1 default rfl rfl rfl (Rd.right rdM).left.left.left (fun _ => rfl) rfl (by omega) rfl)) ?_
          refine Sd.quiet 13 _ _ rfl rfl rfl rfl rfl (QOp.call cal56 rfl (fun X => s56 (Rd.right rdc).left.left.left)) ?_
          refine Sd.quiet 14 _ _ rfl rfl rfl rfl rfl (QOp.ok (fun X => OpOk.move rfl)) ?_
          refine Sd.splitBF (decide_eq_false (by first | omega | assumption)) ?_
          refine Sd.quiet 15 _ _ rfl rfl rfl rfl rfl (QOp.ok (fun X => OpOk.move rfl)) ?_
          refine Sd.quiet 16 _ _ rfl rfl rfl rfl rfl (QOp.ok (fun X => OpOk.move rfl)) ?_
          refine Sd.quiet 17 _ _ rfl rfl rfl rfl rfl (QOp.ok (fun X => OpOk.move rfl)) ?_
          refine Sd.quiet 18 _ _ rfl rfl rfl rfl rfl (QOp.ok (fun X => OpOk.idxN rfl ti63 rfl (Rd.right rdM).left.left.left rfl (by omega))) ?_
          refine Sd.quiet 19 _ _ rfl rfl rfl rfl rfl (QOp.ok (fun X => OpOk.fieldAddrA fld63_0 rfl)) ?_
          refine Sd.quiet 20 _ _ rfl rfl rfl rfl rfl (QOp.ok (fun X => OpOk.loadFl1 default rfl rfl rfl (Rd.right rdM).left.left.left (fun _ => rfl) rfl (by omega) rfl)) ?_
          refine Sd.quiet 21 _ _ rfl rfl rfl rfl rfl (QOp.ok (fun X => OpOk.move rfl)) ?_
          refine Sd.quiet 22 _ _ rfl rfl rfl rfl rfl (QOp.ok (fun X => OpOk.move rfl)) ?_
          refine Sd.quiet 23 _ _ rfl rfl rfl rfl rfl (QOp.ok (fun X => OpOk.idxN rfl ti63 rfl (Rd.right rdM).left.left.left rfl (by omega))) ?_
          refine Sd.quiet 24 _ _ rfl rfl rfl rfl rfl (QOp.ok (fun X => OpOk.fieldAddrA fld63_1 rfl)) ?_
          refine Sd.quiet 25 _ _ rfl rfl rfl rfl rfl (QOp.ok (fun X => OpOk.loadFl1 default rfl rfl rfl (Rd.right rdM).left.left.left (fun _ => rfl) rfl (by omega) rfl)) ?_
          (refine Sd.exec 26 rfl rfl rfl rfl rfl ?hrest (by rfl) (fun Xq4 Kq4 hKq4 => ?_); case hrest => kernel_rfl)
          refine RunL.mem (fl2 (sep_emp _) (flS (flS (flS (flS rfl))))) ?_
          refine RunL.know (fun w s => (s.conv (frl (frl (frl (frl (frl (frl rfl))))))).ownsP0) (fun alq5 => ?_)
          refine RunL.call cal39 rfl (s39) rfl (fun vq6 Aq6 hq6 => ?_)
          obtain ⟨rfl, rfl⟩ := hq6
          refine Sd.ret hKq4 (Eq.trans rfl (gp2 (sep_emp _).symm (asg (asg (asg (asg rfl)))))) ⟨_, (emp_sep _).symm⟩ ?_
          refine Sd.quiet 27 _ _ rfl rfl rfl rfl rfl (QOp.ok (fun X => OpOk.not rfl)) ?_
          refine Sd.quiet 28 _ _ rfl rfl rfl rfl rfl (QOp.ok (fun X => OpOk.pickF rfl rfl)) ?_
          (apply Sd.tail; case hall => kernel_rfl)
          refine RunL.mem (fl2 (flS (flS (flS (flS rfl)))) (sep_emp _)) ?_
          refine RunL.nil ?_
          refine Run.condNF rfl (by first | omega | with_reducible rfl | assumption) ?_
          refine Run.skip ?_
          refine Run.inBlock ?_
          refine Run.region ?_
          refine RunL.ok (OpOk.move rfl) rfl ?_
          refine RunL.ok (OpOk.addN _ 1 rfl rfl rfl rfl (by omega)) rfl ?_
          refine RunL.ok (OpOk.assign rfl) rfl ?_
          refine RunL.nil ?_
          refine Run.jump ((ih2 (k + 1) (by omega) (by omega))) ⟨rfl, rfl, rfl, trivial⟩ (Grew.of (frc (frl (frl (frl (frl (frl rfl))))) (frc (frl (frl (frl (frl (frl rfl))))) rfl)) (Grew.refl _))
        refine Run.exit rfl ?_
        refine Run.seq ?_
        refine Run.region ?_
        refine RunL.ok (OpOk.assign rfl) rfl ?_
        refine RunL.nil ?_
        refine Run.ret1 Try.func13 rfl rfl ?_
        exact ⟨rfl, ⟨_, (asg (asg (asg (asg (asg (asg (asg (asg as1))))))))⟩⟩
      · clear ih2
        refine Run.seq ?_
        refine Run.seq ?_
        refine Run.region ?_
        refine RunL.ok (OpOk.move rfl) rfl ?_
        refine RunL.ok (OpOk.move rfl) rfl ?_
        refine RunL.ok (OpOk.lenR rfl rfl (Rd.right rdM).left rfl) rfl ?_
        refine RunL.ok (OpOk.asF (OpOk.lss rfl rfl) (by omega)) rfl ?_
        refine RunL.ok (OpOk.move rfl) rfl ?_
        refine RunL.off rfl rfl rfl rfl ?_
        refine RunL.off rfl rfl rfl rfl ?_
        refine RunL.ok (OpOk.pickF rfl rfl) rfl ?_
        refine RunL.nil ?_
        refine Run.condF rfl ?_
        refine Run.exit rfl ?_
        refine Run.seq ?_
        refine Run.region ?_
        refine RunL.ok (OpOk.assign rfl) rfl ?_
        refine RunL.nil ?_
        refine Run.ret1 Try.func13 rfl rfl ?_
        exact ⟨rfl, ⟨_, (asg (asg (asg (asg (asg (asg (asg (asg as1))))))))⟩⟩
  · clear ih
    refine Run.seq ?_
    refine Run.seq ?_
    refine Run.region ?_
    refine RunL.ok (OpOk.move rfl) rfl ?_
    refine RunL.ok (OpOk.move rfl) rfl ?_
    refine RunL.ok (OpOk.lenR rfl rfl rd.left.left.left.left.left.left rfl) rfl ?_
    refine RunL.ok (OpOk.asF (OpOk.lss rfl rfl) (by omega)) rfl ?_
    refine RunL.ok (OpOk.move rfl) rfl ?_
    refine RunL.off rfl rfl rfl rfl ?_
    refine RunL.off rfl rfl rfl rfl ?_
    refine RunL.ok (OpOk.pickF rfl rfl) rfl ?_
    refine RunL.nil ?_
    refine Run.condF rfl ?_
    refine Run.exit rfl ?_
    refine Run.seq ?_
    refine Run.region ?_
    refine RunL.ok (OpOk.move rfl) rfl ?_
    refine RunL.know (fun w s => (s.conv rfl).ownsP0) (fun aly1 => ?_)
    refine RunL.call cal36 rfl (s36 (by assumption) (by assumption)) rfl (fun vy2 Ay2 hy2 => ?_)
    obtain ⟨y3, ⟨y4, ⟨y5, rfl⟩⟩⟩ := hy2
    refine RunL.ok (OpOk.assign rfl) rfl ?_
    refine RunL.nil ?_
    refine Run.seq ?_
    refine Run.seq ?_
    refine Run.region ?_
    refine RunL.ok (OpOk.assign rfl) rfl ?_
    refine RunL.nil ?_
    refine Run.block ?_
    have hyk := keyP_ct y5
    have hnd2 : (y3.map keyP).Nodup := by rw [hyk, ← hks]; exact hnd
    have hyl := len_ct y5
    refine Run.jump ((Run.loopJ (X := Nat) (fun k => [(17, .int .i64 (k : Int)), (16, vy2), (6, .pointer (some ⟨x5, 0, none⟩))]) (fun _ => old w0 * J * y4 * pts x5 (.cells #[av, .map (some x7), pv] 109 (0, 0)) * own 3 1 av (n + 1) (I (bl)) * setA x7 (ks) * own 63 3 pv (L).length (Fl encT63 (L)) * ownsP (L) * own 63 3 vy2 y3.length (Fl encT63 y3) * ownsP y3) (fun k => k ≤ y3.length) (fun k => y3.length - k) 0 (Nat.zero_le _) (fun k hk ih2 => ?_))) ⟨rfl, rfl, rfl, trivial⟩ ((Grew.refl _))
    refine Run.know (fun w s => Sat.ownRd0 (s.conv (sep_last _ _ _))) (fun rdM => ?_)
    rcases Nat.lt_or_ge k y3.length with hk1 | hk1
    · have rdc := Rd.cutFl (enc := encT63) (s := 3) (fun _ => rfl) rdM (Nat.zero_le k) (show k ≤ y3.length by omega)
      rw [Nat.sub_zero, List.drop_zero] at rdc
      have hn1 := nodup_at hnd2 hk1
      have hn2 : ((y3.getD k default).1, (y3.getD k default).2.1) ∈ ks := by
        rw [hks, ← hyk]
        exact List.mem_map.2 ⟨_, getD_mem hk1, rfl⟩
      refine Run.seq ?_
      refine Run.seq ?_
      refine Run.region ?_
      refine RunL.ok (OpOk.move rfl) rfl ?_
      refine RunL.ok (OpOk.move rfl) rfl ?_
      refine RunL.ok (OpOk.lenR rfl rfl (Rd.right rdM).left rfl) rfl ?_
      refine RunL.ok (OpOk.asT (OpOk.lss rfl rfl) (by omega)) rfl ?_
      refine RunL.ok (OpOk.move rfl) rfl ?_
      refine RunL.on rfl rfl ?_
      refine RunL.ok (OpOk.move rfl) rfl ?_
      refine RunL.on rfl rfl ?_
      refine RunL.ok (OpOk.lss rfl rfl) rfl ?_
      refine RunL.ok (OpOk.pickT rfl rfl) rfl ?_
      refine RunL.nil ?_
      refine Run.condD rfl (fun q1 => ?_) (fun q1 => ?_)
      · refine Run.skip ?_
        refine Run.seq ?_
        refine Run.block ?_
        refine Run.seq ?_
        refine Run.know (fun w s => (s.conv (frl (frl (frl (frl (frl rfl)))))).ownRd0) (fun rdq2 => ?_)
        refine Run.know (fun w s => (s.conv (frl (frl (frl rfl)))).ownRd0) (fun rdq3 => ?_)
        (apply Run.drawD [] (by rfl) (Eq.trans (frc (frl (frl rfl)) (frc (frl (frl rfl)) (frc (frl (frl rfl)) (frc (frl (frl rfl)) (frc (frl (frl rfl)) rfl))))) (asg (asg (asg (asg rfl))))); case hchk => kernel_rfl)
        refine Sd.quiet 0 _ _ rfl rfl rfl rfl rfl (QOp.ok (fun X => OpOk.move rfl)) ?_
        refine Sd.quiet 1 _ _ rfl rfl rfl rfl rfl (QOp.ok (fun X => OpOk.move rfl)) ?_
        refine Sd.quiet 2 _ _ rfl rfl rfl rfl rfl (QOp.ok (fun X => OpOk.cut rfl ti63 rfl (Rd.right rdM).left.left.left rfl ⟨_, rfl⟩ (by omega) (by omega))) ?_
        refine Sd.quiet 3 _ _ rfl rfl rfl rfl rfl (QOp.ok (fun X => OpOk.move rfl)) ?_
        refine Sd.quiet 4 _ _ rfl rfl rfl rfl rfl (QOp.ok (fun X => OpOk.move rfl)) ?_
        refine Sd.quiet 5 _ _ rfl rfl rfl rfl rfl (QOp.ok (fun X => OpOk.idxN rfl ti63 rfl (Rd.right rdM).left.left.left rfl (by omega))) ?_
        refine Sd.quiet 6 _ _ rfl rfl rfl rfl rfl (QOp.ok (fun X => OpOk.fieldAddrA fld63_0 rfl)) ?_
        refine Sd.quiet 7 _ _ rfl rfl rfl rfl rfl (QOp.ok (fun X => OpOk.loadFl1 default rfl rfl rfl (Rd.right rdM).left.left.left (fun _ => rfl) rfl (by omega) rfl)) ?_
        refine Sd.quiet 8 _ _ rfl rfl rfl rfl rfl (QOp.ok (fun X => OpOk.move rfl)) ?_
        refine Sd.quiet 9 _ _ rfl rfl rfl rfl rfl (QOp.ok (fun X => OpOk.move rfl)) ?_
        refine Sd.quiet 10 _ _ rfl rfl rfl rfl rfl (QOp.ok (fun X => OpOk.idxN rfl ti63 rfl (Rd.right rdM).left.left.left rfl (by omega))) ?_
        refine Sd.quiet 11 _ _ rfl rfl rfl rfl rfl (QOp.ok (fun X => OpOk.fieldAddrA fld63_1 rfl)) ?_
        refine Sd.quiet 12 _ _ rfl rfl rfl rfl rfl (QOp.ok (fun X => OpOk.loadFl1 default rfl rfl rfl (Rd.right rdM).left.left.left (fun _ => rfl) rfl (by omega) rfl)) ?_
        refine Sd.quiet 13 _ _ rfl rfl rfl rfl rfl (QOp.call cal56 rfl (fun X => s56 (Rd.right rdc).left.left.left)) ?_
        refine Sd.quiet 14 _ _ rfl rfl rfl rfl rfl (QOp.ok (fun X => OpOk.move rfl)) ?_
        refine Sd.splitBF (decide_eq_false (by first | omega | assumption)) ?_
        refine Sd.quiet 15 _ _ rfl rfl rfl rfl rfl (QOp.ok (fun X => OpOk.move rfl)) ?_
        refine Sd.quiet 16 _ _ rfl rfl rfl rfl rfl (QOp.ok (fun X => OpOk.move rfl)) ?_
        refine Sd.quiet 17 _ _ rfl rfl rfl rfl rfl (QOp.ok (fun X => OpOk.move rfl)) ?_
        refine Sd.quiet 18 _ _ rfl rfl rfl rfl rfl (QOp.ok (fun X => OpOk.idxN rfl ti63 rfl (Rd.right rdM).left.left.left rfl (by omega))) ?_
        refine Sd.quiet 19 _ _ rfl rfl rfl rfl rfl (QOp.ok (fun X => OpOk.fieldAddrA fld63_0 rfl)) ?_
        refine Sd.quiet 20 _ _ rfl rfl rfl rfl rfl (QOp.ok (fun X => OpOk.loadFl1 default rfl rfl rfl (Rd.right rdM).left.left.left (fun _ => rfl) rfl (by omega) rfl)) ?_
        refine Sd.quiet 21 _ _ rfl rfl rfl rfl rfl (QOp.ok (fun X => OpOk.move rfl)) ?_
        refine Sd.quiet 22 _ _ rfl rfl rfl rfl rfl (QOp.ok (fun X => OpOk.move rfl)) ?_
        refine Sd.quiet 23 _ _ rfl rfl rfl rfl rfl (QOp.ok (fun X => OpOk.idxN rfl ti63 rfl (Rd.right rdM).left.left.left rfl (by omega))) ?_
        refine Sd.quiet 24 _ _ rfl rfl rfl rfl rfl (QOp.ok (fun X => OpOk.fieldAddrA fld63_1 rfl)) ?_
        refine Sd.quiet 25 _ _ rfl rfl rfl rfl rfl (QOp.ok (fun X => OpOk.loadFl1 default rfl rfl rfl (Rd.right rdM).left.left.left (fun _ => rfl) rfl (by omega) rfl)) ?_
        (refine Sd.exec 26 rfl rfl rfl rfl rfl ?hrest (by rfl) (fun Xq4 Kq4 hKq4 => ?_); case hrest => kernel_rfl)
        refine RunL.mem (fl2 (sep_emp _) (flS (flS (flS (flS rfl))))) ?_
        refine RunL.know (fun w s => (s.conv (frl (frl (frl (frl (frl (frl rfl))))))).ownsP0) (fun alq5 => ?_)
        refine RunL.call cal39 rfl (s39) rfl (fun vq6 Aq6 hq6 => ?_)
        obtain ⟨rfl, rfl⟩ := hq6
        refine Sd.ret hKq4 (Eq.trans rfl (gp2 (sep_emp _).symm (asg (asg (asg (asg rfl)))))) ⟨_, (emp_sep _).symm⟩ ?_
        refine Sd.quiet 27 _ _ rfl rfl rfl rfl rfl (QOp.ok (fun X => OpOk.not rfl)) ?_
        refine Sd.quiet 28 _ _ rfl rfl rfl rfl rfl (QOp.ok (fun X => OpOk.pickF rfl rfl)) ?_
        (apply Sd.tail; case hall => kernel_rfl)
        refine RunL.mem (fl2 (flS (flS (flS (flS rfl)))) (sep_emp _)) ?_
        refine RunL.nil ?_
        refine Run.condNF rfl (by first | omega | with_reducible rfl | assumption) ?_
        refine Run.skip ?_
        refine Run.inBlock ?_
        refine Run.region ?_
        refine RunL.ok (OpOk.move rfl) rfl ?_
        refine RunL.ok (OpOk.addN _ 1 rfl rfl rfl rfl (by omega)) rfl ?_
        refine RunL.ok (OpOk.assign rfl) rfl ?_
        refine RunL.nil ?_
        refine Run.jump ((ih2 (k + 1) (by omega) (by omega))) ⟨rfl, rfl, rfl, trivial⟩ (Grew.of (frc (frl (frl (frl (frl (frl rfl))))) (frc (frl (frl (frl (frl (frl rfl))))) rfl)) (Grew.refl _))
      refine Run.exit rfl ?_
      refine Run.seq ?_
      refine Run.region ?_
      refine RunL.ok (OpOk.assign rfl) rfl ?_
      refine RunL.nil ?_
      refine Run.ret1 Try.func13 rfl rfl ?_
      exact ⟨rfl, ⟨_, (asg (asg (asg (asg (asg (asg (asg (asg as1))))))))⟩⟩
    · clear ih2
      refine Run.seq ?_
      refine Run.seq ?_
      refine Run.region ?_
      refine RunL.ok (OpOk.move rfl) rfl ?_
      refine RunL.ok (OpOk.move rfl) rfl ?_
      refine RunL.ok (OpOk.lenR rfl rfl (Rd.right rdM).left rfl) rfl ?_
      refine RunL.ok (OpOk.asF (OpOk.lss rfl rfl) (by omega)) rfl ?_
      refine RunL.ok (OpOk.move rfl) rfl ?_
      refine RunL.off rfl rfl rfl rfl ?_
      refine RunL.off rfl rfl rfl rfl ?_
      refine RunL.ok (OpOk.pickF rfl rfl) rfl ?_
      refine RunL.nil ?_
      refine Run.condF rfl ?_
      refine Run.exit rfl ?_
      refine Run.seq ?_
      refine Run.region ?_
      refine RunL.ok (OpOk.assign rfl) rfl ?_
      refine RunL.nil ?_
      refine Run.ret1 Try.func13 rfl rfl ?_
      exact ⟨rfl, ⟨_, (asg (asg (asg (asg (asg (asg (asg (asg as1))))))))⟩⟩
end
end Go.Proofs.Ytegbfnibjgpbpaa
