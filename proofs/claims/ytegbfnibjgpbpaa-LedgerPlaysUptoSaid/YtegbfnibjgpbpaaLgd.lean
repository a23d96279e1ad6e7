/- The law LedgerPlays, walked. -/
import Derived.Test.YtegbfnibjgpbpaaLgc
import Derived.Test.YtegbfnibjgpbpaaLga
import Derived.Test.YtegbfnibjgpbpaaSto
namespace Go.Proofs.Ytegbfnibjgpbpaa
open Go Go.Proofs
set_option maxRecDepth 100000
set_option maxHeartbeats 4000000
set_option linter.unusedSimpArgs false
section
variable {w0 : World} {A : Asn}
theorem ledgerPlays_spec {ops : Int} {u : Value} {P : List (Value × List Po)} (rd : Rd w0 (old w0) u 1 P.length (Fl encV P)) (hok : ∀ y ∈ P, PsG w0 y) :
    Spec Try.prog w0 12 [.int .i64 ops, u] (old w0) (fun v' A' => v' = .bool true ∧ Grew (old w0) A') := by
  have hmx := rd.max
  rcases Decidable.em (ops < 1 ∨ 4 < ops) with hbad | hgood
  · refine Spec.of_run [(0, .int .i64 ops), (1, u)] Try.func12 rfl (Nat.le_of_ble_eq_true rfl) (by repeat (first | exact trivial | refine ⟨rfl, ?_⟩)) ?_
    refine Run.seq ?_
    refine Run.region ?_
    refine RunL.ok (OpOk.assign rfl) rfl ?_
    refine RunL.nil ?_
    refine Run.seq ?_
    refine Run.seq ?_
    refine Run.region ?_
    refine RunL.call cal32 rfl (s32) rfl (fun vx1 Ax1 hx1 => ?_)
    obtain ⟨x2, ⟨rfl, rfl⟩⟩ := hx1
    refine RunL.ok (OpOk.not rfl) rfl ?_
    refine RunL.nil ?_
    refine Run.condF rfl ?_
    refine Run.skip ?_
    refine Run.seq ?_
    refine Run.region ?_
    refine RunL.ok (OpOk.move rfl) rfl ?_
    refine RunL.call cal33 rfl (s33a (by assumption)) rfl (fun vx3 Ax3 hx3 => ?_)
    obtain ⟨rfl, rfl⟩ := hx3
    refine RunL.ok (OpOk.move rfl) rfl ?_
    refine RunL.ok (OpOk.ext20 rfl) rfl ?_
    refine RunL.ok (OpOk.ext21 rfl) rfl ?_
    refine RunL.ok (OpOk.assign rfl) rfl ?_
    refine RunL.ok (OpOk.assign rfl) rfl ?_
    refine RunL.nil ?_
    refine Run.seq ?_
    refine Run.seq ?_
    refine Run.region ?_
    refine RunL.ok (OpOk.move rfl) rfl ?_
    refine RunL.ok (OpOk.lss rfl rfl) rfl ?_
    refine RunL.ok (OpOk.move rfl) rfl ?_
    refine RunL.splitD (t := 30) rfl (fun x4 => ?_) (fun x4 => ?_)
    · refine RunL.off rfl rfl rfl rfl ?_
      refine RunL.off rfl rfl rfl rfl ?_
      refine RunL.ok (OpOk.pickT rfl rfl) rfl ?_
      refine RunL.nil ?_
      refine Run.condT rfl ?_
      refine Run.seq ?_
      refine Run.region ?_
      refine RunL.ok (OpOk.move rfl) rfl ?_
      refine RunL.ok (OpOk.eqlPN rfl rfl) rfl ?_
      refine RunL.ok (OpOk.move rfl) rfl ?_
      refine RunL.on rfl rfl ?_
      refine RunL.ok (OpOk.move rfl) rfl ?_
      refine RunL.on rfl rfl ?_
      refine RunL.ok (OpOk.asT (OpOk.eql rfl rfl) (by omega)) rfl ?_
      refine RunL.ok (OpOk.pickT rfl rfl) rfl ?_
      refine RunL.ok (OpOk.assign rfl) rfl ?_
      refine RunL.nil ?_
      refine Run.ret1 Try.func12 rfl rfl ?_
      exact ⟨rfl, ⟨_, as1⟩⟩
    refine RunL.on rfl rfl ?_
    refine RunL.ok (OpOk.move rfl) rfl ?_
    refine RunL.on rfl rfl ?_
    refine RunL.ok (OpOk.asT (OpOk.gtr rfl rfl) (by omega)) rfl ?_
    refine RunL.ok (OpOk.pickF rfl rfl) rfl ?_
    refine RunL.nil ?_
    refine Run.condT rfl ?_
    refine Run.seq ?_
    refine Run.region ?_
    refine RunL.ok (OpOk.move rfl) rfl ?_
    refine RunL.ok (OpOk.eqlPN rfl rfl) rfl ?_
    refine RunL.ok (OpOk.move rfl) rfl ?_
    refine RunL.on rfl rfl ?_
    refine RunL.ok (OpOk.move rfl) rfl ?_
    refine RunL.on rfl rfl ?_
    refine RunL.ok (OpOk.asT (OpOk.eql rfl rfl) (by omega)) rfl ?_
    refine RunL.ok (OpOk.pickT rfl rfl) rfl ?_
    refine RunL.ok (OpOk.assign rfl) rfl ?_
    refine RunL.nil ?_
    refine Run.ret1 Try.func12 rfl rfl ?_
    exact ⟨rfl, ⟨_, as1⟩⟩
  · obtain ⟨n, rfl⟩ := Int.eq_ofNat_of_zero_le (show 0 ≤ ops by omega)
    have hN5 : n + 1 ≤ 5 := by omega
    have h1 : 1 ≤ (n : Int) := by omega
    have h4 : (n : Int) ≤ 4 := by omega
    have hz := zeros_in (n + 1)
    have hzl : (List.replicate (n + 1) (0 : Int)).length = n + 1 := by simp
    have hzs : (List.replicate (n + 1) (0 : Int)).sum = 0 := by simp
    have hz0 : (List.replicate (n + 1) (0 : Int)).getD 0 0 = 0 := by simp
    have hzr : Rel (n + 1) (List.replicate (n + 1) (0 : Int)) [] := fun k h1 h2 => by
      rw [List.getD_eq_getElem?_getD, List.getElem?_replicate, if_pos h2]; rfl
    refine Spec.of_run [(0, .int .i64 (n : Int)), (1, u)] Try.func12 rfl (Nat.le_of_ble_eq_true rfl) (by repeat (first | exact trivial | refine ⟨rfl, ?_⟩)) ?_
    refine Run.seq ?_
    refine Run.region ?_
    refine RunL.ok (OpOk.assign rfl) rfl ?_
    refine RunL.nil ?_
    refine Run.seq ?_
    refine Run.seq ?_
    refine Run.region ?_
    refine RunL.call cal32 rfl (s32) rfl (fun vx1 Ax1 hx1 => ?_)
    obtain ⟨x2, ⟨rfl, rfl⟩⟩ := hx1
    refine RunL.ok (OpOk.not rfl) rfl ?_
    refine RunL.nil ?_
    refine Run.condF rfl ?_
    refine Run.skip ?_
    refine Run.seq ?_
    refine Run.region ?_
    refine RunL.ok (OpOk.move rfl) rfl ?_
    refine RunL.call cal33 rfl (s33c (by assumption) (by assumption)) rfl (fun vx4 Ax4 hx4 => ?_)
    obtain ⟨x5, ⟨x6, ⟨x7, ⟨rfl, rfl⟩⟩⟩⟩ := hx4
    refine RunL.ok (OpOk.move rfl) rfl ?_
    refine RunL.ok (OpOk.ext20 rfl) rfl ?_
    refine RunL.ok (OpOk.ext21 rfl) rfl ?_
    refine RunL.ok (OpOk.assign rfl) rfl ?_
    refine RunL.ok (OpOk.assign rfl) rfl ?_
    refine RunL.nil ?_
    refine Run.seq ?_
    refine Run.seq ?_
    refine Run.region ?_
    refine RunL.ok (OpOk.move rfl) rfl ?_
    refine RunL.ok (OpOk.asF (OpOk.lss rfl rfl) (by omega)) rfl ?_
    refine RunL.ok (OpOk.move rfl) rfl ?_
    refine RunL.on rfl rfl ?_
    refine RunL.ok (OpOk.move rfl) rfl ?_
    refine RunL.on rfl rfl ?_
    refine RunL.ok (OpOk.asF (OpOk.gtr rfl rfl) (by omega)) rfl ?_
    refine RunL.ok (OpOk.pickF rfl rfl) rfl ?_
    refine RunL.nil ?_
    refine Run.condF rfl ?_
    refine Run.skip ?_
    refine Run.seq ?_
    refine Run.seq ?_
    refine Run.region ?_
    refine RunL.ok (OpOk.move rfl) rfl ?_
    refine RunL.ok (OpOk.eqlPN rfl rfl) rfl ?_
    refine RunL.ok (OpOk.move rfl) rfl ?_
    refine RunL.on rfl rfl ?_
    refine RunL.ok (OpOk.move rfl) rfl ?_
    refine RunL.on rfl rfl ?_
    refine RunL.ok (OpOk.as (c := false) (OpOk.neq rfl rfl) (by rw [decide_eq_true (by omega)]; rfl)) rfl ?_
    refine RunL.ok (OpOk.pickF rfl rfl) rfl ?_
    refine RunL.nil ?_
    refine Run.condF rfl ?_
    refine Run.skip ?_
    refine Run.seq ?_
    refine Run.region ?_
    refine RunL.ok (OpOk.assign rfl) rfl ?_
    refine RunL.nil ?_
    refine Run.seq ?_
    refine Run.seq ?_
    refine Run.region ?_
    refine RunL.ok (OpOk.assign rfl) rfl ?_
    refine RunL.nil ?_
    refine Run.block ?_
    simp only [Int.toNat_natCast] at *
    refine Run.ent (Ent.ownNil' _ 63 3 (Fl encT63 ([] : List Po)) rfl) ?_
    refine Run.jump ((Run.loopJ (X := Nat × Asn × Value × List Int × List (Int × Int) × Value × List Po × Value × List Po) (fun x => [(8, .int .i64 (x.1 : Int)), (7, x.2.2.2.2.2.2.2.1), (5, .pointer (some ⟨x5, 0, none⟩)), (0, .int .i64 (n : Int)), (1, u)]) (fun x => old w0 * x.2.1 * pts x5 (.cells #[x.2.2.1, .map (some x7), x.2.2.2.2.2.1] 109 (0, 0)) * own 3 1 x.2.2.1 (n + 1) (I (x.2.2.2.1)) * setA x7 (x.2.2.2.2.1) * own 63 3 x.2.2.2.2.2.1 (x.2.2.2.2.2.2.1).length (Fl encT63 (x.2.2.2.2.2.2.1)) * ownsP (x.2.2.2.2.2.2.1) * own 63 3 x.2.2.2.2.2.2.2.1 x.2.2.2.2.2.2.2.2.length (Fl encT63 x.2.2.2.2.2.2.2.2)) (fun x => x.1 ≤ P.length ∧ x.1 ≤ 30 ∧ x.2.2.2.1.length = n + 1 ∧ (∀ z ∈ x.2.2.2.1, inI z) ∧ x.2.2.2.1.sum = 0 ∧ x.2.2.2.1.getD 0 0 = 0 ∧ x.2.2.2.2.1 = x.2.2.2.2.2.2.2.2.map keyP ∧ x.2.2.2.2.2.2.1.map ct = x.2.2.2.2.2.2.2.2.map ct ∧ x.2.2.2.2.2.2.2.2.length ≤ 20 * x.1 ∧ Alls (GP w0) (old w0) x.2.2.2.2.2.2.2.2 ∧ (∀ q ∈ x.2.2.2.2.2.2.2.2, ∀ s ∈ q.2.2.2, inI s.2) ∧ (∀ q ∈ x.2.2.2.2.2.2.2.2, q.2.2.2.length ≤ 1048576) ∧ Rel (n + 1) x.2.2.2.1 x.2.2.2.2.2.2.2.2) (fun x => P.length - x.1) (0, _, x6, List.replicate (n + 1) 0, [], .slice none 0 0, [], .slice none 0 0, []) ⟨Nat.zero_le _, Nat.zero_le _, hzl, hz, hzs, hz0, rfl, rfl, Nat.zero_le _, Alls.nil, fun q hq => by (cases hq), fun q hq => by (cases hq), hzr⟩ (fun x hx ih => ?_))) ⟨rfl, rfl, rfl, rfl, rfl, trivial⟩ (Grew.of (Eq.trans (frc (frl (frl rfl)) (frc (frl rfl) (frc rfl rfl))) (congrArg (· * _) (congrArg (· * _) (congrArg (· * _) (congrArg (· * _) (congrArg (· * _) (congrArg (· * _) as1))))))) (Grew.refl _))
    obtain ⟨i, J, av, bl, ks, pv, L, v7, all⟩ := x
    simp only at hx ih ⊢
    obtain ⟨hi, hi3, hbl, hbi, hbs, hb0, hks, hLc, hAl, haa, hain, ham, hrel⟩ := hx
    rcases Nat.lt_or_ge i P.length with hlt | hge
    · rcases Nat.lt_or_ge i 30 with h30 | h30
      · have ho := hok _ (getD_mem hlt)
        obtain ⟨o, hoe⟩ : ∃ o, P.getD i default = o := ⟨_, rfl⟩
        rw [hoe] at ho
        obtain ⟨pu, ps⟩ := o
        have hrd := ho.rd
        have hal := ho.al
        have hin := ho.hin
        have hm1 := ho.hm
        have hlen := ho.len
        dsimp only at hrd hal hin hm1 hlen
        have hm : ∀ q ∈ ps, q.2.2.2.length ≤ 8796093022208 := fun q hq => Nat.le_trans (hm1 q hq) (by decide)
        have hv := Fl_V P i hlt
        rw [hoe] at hv
        dsimp only at hv
        rcases Nat.lt_or_ge 20 ps.length with hbig | hsm
        · refine Run.seq ?_
          refine Run.seq ?_
          refine Run.region ?_
          refine RunL.ok (OpOk.move rfl) rfl ?_
          refine RunL.ok (OpOk.move rfl) rfl ?_
          refine RunL.ok (OpOk.lenR rfl rfl rd.left.left.left.left.left.left.left rfl) rfl ?_
          refine RunL.ok (OpOk.asT (OpOk.lss rfl rfl) (by omega)) rfl ?_
          refine RunL.ok (OpOk.move rfl) rfl ?_
          refine RunL.on rfl rfl ?_
          refine RunL.ok (OpOk.move rfl) rfl ?_
          refine RunL.on rfl rfl ?_
          refine RunL.ok (OpOk.asT (OpOk.lss rfl rfl) (by omega)) rfl ?_
          refine RunL.ok (OpOk.pickT rfl rfl) rfl ?_
          refine RunL.nil ?_
          refine Run.condT rfl ?_
          refine Run.skip ?_
          refine Run.seq ?_
          refine Run.block ?_
          refine Run.seq ?_
          refine Run.seq ?_
          refine Run.region ?_
          refine RunL.ok (OpOk.move rfl) rfl ?_
          refine RunL.ok (OpOk.move rfl) rfl ?_
          refine RunL.ok (OpOk.idx1N rfl ti50 rfl rd.left.left.left.left.left.left.left rfl (by omega)) rfl ?_
          refine RunL.ok (OpOk.load rfl rfl rfl (Rd.cell rd.left.left.left.left.left.left.left (by first | assumption | rfl))) rfl ?_
          refine RunL.ok (OpOk.lenR rfl rfl hrd.left.left.left.left.left.left.left rfl) rfl ?_
          refine RunL.ok (OpOk.asT (OpOk.gtr rfl rfl) (by omega)) rfl ?_
          refine RunL.nil ?_
          refine Run.condT rfl ?_
          refine Run.exit rfl ?_
          refine Run.region ?_
          refine RunL.ok (OpOk.move rfl) rfl ?_
          refine RunL.ok (OpOk.addN _ 1 rfl rfl rfl rfl (by omega)) rfl ?_
          refine RunL.ok (OpOk.assign rfl) rfl ?_
          refine RunL.nil ?_
          refine Run.jump ((ih (i + 1, _, av, bl, ks, pv, L, v7, all) ⟨by dsimp only; omega, by dsimp only; omega, hbl, hbi, hbs, hb0, hks, hLc, by dsimp only; omega, haa, hain, ham, hrel⟩ (by dsimp only; omega))) ⟨rfl, rfl, rfl, rfl, rfl, trivial⟩ (Grew.of (congrArg (· * _) (congrArg (· * _) (congrArg (· * _) (congrArg (· * _) (congrArg (· * _) (congrArg (· * _) as1)))))) (Grew.refl _))
        · rcases hp : postF (n + 1) ks bl [] ps with ⟨e, b2⟩
          obtain ⟨all2, hall2⟩ : ∃ x, x = if e = 0 then all ++ ps else all := ⟨_, rfl⟩
          obtain ⟨b3, hb3⟩ : ∃ x, x = if e = 0 then b2 else bl := ⟨_, rfl⟩
          have hsub : ∀ q ∈ all2, q ∈ all ++ ps := fun q hq => by
            rw [hall2] at hq
            split at hq
            · exact hq
            · exact List.mem_append_left _ hq
          have hinA : ∀ q ∈ all ++ ps, ∀ s ∈ q.2.2.2, inI s.2 := fun q hq => (List.mem_append.1 hq).elim (hain q) (hin q)
          have hmA : ∀ q ∈ all ++ ps, q.2.2.2.length ≤ 1048576 := fun q hq => (List.mem_append.1 hq).elim (ham q) (hm1 q)
          have hinB : ∀ q ∈ all2, ∀ s ∈ q.2.2.2, inI s.2 := fun q hq => hinA q (hsub q hq)
          have hmB : ∀ q ∈ all2, q.2.2.2.length ≤ 1048576 := fun q hq => hmA q (hsub q hq)
          have haB : Alls (GP w0) (old w0) all2 := by
            rw [hall2]
            split
            · exact Alls.append haa hal
            · exact haa
          have hlB : all2.length ≤ 20 * (i + 1) := by
            rw [hall2]
            split
            · rw [List.length_append]; omega
            · omega
          have hB : b3.length = n + 1 ∧ (∀ z ∈ b3, inI z) ∧ b3.sum = 0 ∧ b3.getD 0 0 = 0 ∧ Rel (n + 1) b3 all2 := by
            rw [hb3, hall2]
            rcases Decidable.em (e = 0) with he | he
            · subst he
              rw [if_pos rfl, if_pos rfl]
              obtain ⟨hb2l, hb2i⟩ := postF_len hp
              obtain ⟨hb2s, hb20⟩ := postF_sum hp hbl
              exact ⟨hb2l.trans hbl, hb2i hbi, hb2s.trans hbs, hb20.trans hb0, postF_rel hp hbl hrel⟩
            · rw [if_neg he, if_neg he]
              exact ⟨hbl, hbi, hbs, hb0, hrel⟩
          obtain ⟨hb3l, hb3i, hb3s, hb30, hrel3⟩ := hB
          have hk3 : all2.map keyP = if e = 0 then ks ++ ps.map keyP else ks := by
            rw [hall2, hks]
            split
            · rw [List.map_append]
            · rfl
          have hc3 : all2.map ct = if e = 0 then L.map ct ++ ps.map ct else L.map ct := by
            rw [hall2, hLc]
            split
            · rw [List.map_append]
            · rfl
          have hLA : all.length + ps.length ≤ 1048576 := by omega
          have hLB : all2.length ≤ 1048576 := by omega
          have hLl := len_ct hLc
          refine Run.seq ?_
          refine Run.seq ?_
          refine Run.region ?_
          refine RunL.ok (OpOk.move rfl) rfl ?_
          refine RunL.ok (OpOk.move rfl) rfl ?_
          refine RunL.ok (OpOk.lenR rfl rfl rd.left.left.left.left.left.left.left rfl) rfl ?_
          refine RunL.ok (OpOk.asT (OpOk.lss rfl rfl) (by omega)) rfl ?_
          refine RunL.ok (OpOk.move rfl) rfl ?_
          refine RunL.on rfl rfl ?_
          refine RunL.ok (OpOk.move rfl) rfl ?_
          refine RunL.on rfl rfl ?_
          refine RunL.ok (OpOk.asT (OpOk.lss rfl rfl) (by omega)) rfl ?_
          refine RunL.ok (OpOk.pickT rfl rfl) rfl ?_
          refine RunL.nil ?_
          refine Run.condT rfl ?_
          refine Run.skip ?_
          refine Run.seq ?_
          refine Run.block ?_
          refine Run.seq ?_
          refine Run.seq ?_
          refine Run.region ?_
          refine RunL.ok (OpOk.move rfl) rfl ?_
          refine RunL.ok (OpOk.move rfl) rfl ?_
          refine RunL.ok (OpOk.idx1N rfl ti50 rfl rd.left.left.left.left.left.left.left rfl (by omega)) rfl ?_
          refine RunL.ok (OpOk.load rfl rfl rfl (Rd.cell rd.left.left.left.left.left.left.left (by first | assumption | rfl))) rfl ?_
          refine RunL.ok (OpOk.lenR rfl rfl hrd.left.left.left.left.left.left.left rfl) rfl ?_
          refine RunL.ok (OpOk.asF (OpOk.gtr rfl rfl) (by omega)) rfl ?_
          refine RunL.nil ?_
          refine Run.condF rfl ?_
          refine Run.skip ?_
          refine Run.seq ?_
          refine Run.region ?_
          refine RunL.ok (OpOk.move rfl) rfl ?_
          refine RunL.ok (OpOk.move rfl) rfl ?_
          refine RunL.ok (OpOk.idx1N rfl ti50 rfl rd.left.left.left.left.left.left.left rfl (by omega)) rfl ?_
          refine RunL.ok (OpOk.load rfl rfl rfl (Rd.cell rd.left.left.left.left.left.left.left (by first | assumption | rfl))) rfl ?_
          refine RunL.know (fun w s => (s.conv (frl rfl)).ownsP0) (fun aly1 => ?_)
          refine RunL.call cal35 rfl (s35 hrd.left.left.left.left.left.left.left hal.left.left.left.left.left.left.left (by assumption) (by omega)) rfl (fun vy2 Ay2 hy2 => ?_)
          obtain ⟨y3, ⟨y4, ⟨y5, rfl⟩⟩⟩ := hy2
          refine RunL.ok (OpOk.assign rfl) rfl ?_
          refine RunL.nil ?_
          refine Run.seq ?_
          refine Run.region ?_
          refine RunL.ok (OpOk.move rfl) rfl ?_
          refine RunL.ok (OpOk.move rfl) rfl ?_
          refine RunL.ok (OpOk.move rfl) rfl ?_
          refine RunL.ok (OpOk.move rfl) rfl ?_
          refine RunL.ok (OpOk.idx1N rfl ti50 rfl rd.left.left.left.left.left.left.left.left.left.left rfl (by omega)) rfl ?_
          refine RunL.ok (OpOk.load rfl rfl rfl (Rd.cell rd.left.left.left.left.left.left.left.left.left.left (by first | assumption | rfl))) rfl ?_
          refine RunL.know (fun w s => (s.conv rfl).ownsP0) (fun aly6 => ?_)
          refine RunL.know (fun w s => (s.conv (frl (frl (frl rfl)))).ownRd0) (fun rdy7 => ?_)
          refine RunL.mem (frc (frl (frl (frl rfl))) rfl) ?_
          refine RunL.call cal53 rfl (s53 hrd.left.left.left.left.left.left.left.left.left haa.left.left.left.left.left.left.left.left.left hal.left.left.left.left.left.left.left.left.left (by assumption) (by assumption) (by assumption) (by assumption) (by assumption) (by assumption) (by assumption) (by assumption) (by assumption)) rfl (fun vy8 Ay8 hy8 => ?_)
          obtain ⟨y9, ⟨y10, ⟨rfl, rfl⟩⟩⟩ := hy8
          refine RunL.ok (OpOk.move rfl) rfl ?_
          refine RunL.ok (OpOk.ext20 rfl) rfl ?_
          refine RunL.ok (OpOk.ext21 rfl) rfl ?_
          refine RunL.ok (OpOk.assign rfl) rfl ?_
          refine RunL.ok (OpOk.assign rfl) rfl ?_
          refine RunL.nil ?_
          refine Run.seq ?_
          refine Run.seq ?_
          refine Run.region ?_
          refine RunL.ok (OpOk.move rfl) rfl ?_
          refine RunL.ok (OpOk.move rfl) rfl ?_
          refine RunL.know (fun w s => (s.conv (frl (frl (frl rfl)))).ownRd0) (fun rdy11 => ?_)
          refine RunL.mem (frc (frl (frl (frl (frl (frl rfl))))) (frc (frl (frl (frl (frl (frl rfl))))) (frc (frl (frl (frl (frl (frl rfl))))) (frc (frl (frl (frl (frl (frl rfl))))) (frc (frl (frl (frl (frl (frl rfl))))) rfl))))) ?_
          have hpy := (postF_ct (n := n + 1) (ks := ks) (bal := bl) (fr := []) y5).trans hp
          have hyl := len_ct y5
          have hyin := hin_ct y5 hin
          have hym := hm_ct y5 hm
          have hkk : all2.map keyP = if e = 0 then ks ++ y3.map keyP else ks := by rw [keyP_ct y5]; exact hk3
          have hcc : all2.map ct = if e = 0 then L.map ct ++ y3.map ct else L.map ct := by rw [y5]; exact hc3
          have hLs : L.length + y3.length ≤ 1099511627776 := by omega
          refine RunL.call cal34 rfl (s34 (Rd.right rdy11).left.left.left (Alls.right aly6).left.left (by assumption) (by assumption) (by assumption) (by assumption) (by assumption) (by assumption) (by assumption) (by assumption) (by assumption) (by assumption)) rfl (fun vz3 Az3 hz3 => ?_)
          obtain ⟨z4, ⟨z5, ⟨z6, ⟨z7, ⟨rfl, ⟨z8, rfl⟩⟩⟩⟩⟩⟩ := hz3
          refine RunL.ok (OpOk.move rfl) rfl ?_
          refine RunL.ok (OpOk.as (c := false) (OpOk.neq rfl rfl) (by rw [decide_eq_true (by omega)]; rfl)) rfl ?_
          refine RunL.ok (OpOk.move rfl) rfl ?_
          refine RunL.on rfl rfl ?_
          refine RunL.ok (OpOk.move rfl) rfl ?_
          refine RunL.on rfl rfl ?_
          refine RunL.ok (OpOk.move rfl) rfl ?_
          refine RunL.on rfl rfl ?_
          refine RunL.ok (OpOk.move rfl) rfl ?_
          refine RunL.on rfl rfl ?_
          refine RunL.ok (OpOk.idx1N rfl ti50 rfl rd.left.left.left.left.left.left.left.left.left.left.left.left rfl (by omega)) rfl ?_
          refine RunL.on rfl rfl ?_
          refine RunL.ok (OpOk.load rfl rfl rfl (Rd.cell rd.left.left.left.left.left.left.left.left.left.left.left.left (by first | assumption | rfl))) rfl ?_
          refine RunL.on rfl rfl ?_
          refine RunL.know (fun w s => (s.conv rfl).ownsP0) (fun alz9 => ?_)
          refine RunL.call cal38 rfl (s38 (Rd.right rdy11).left.left.left.left.left.left.left.left.left hrd.left.left.left.left.left.left.left.left.left.left.left.left (Alls.right aly6).left.left.left.left.left.left.left.left hal.left.left.left.left.left.left.left.left.left.left.left.left) rfl (fun vz10 Az10 hz10 => ?_)
          obtain ⟨rfl, rfl⟩ := hz10
          refine RunL.on rfl rfl ?_
          refine RunL.ok (OpOk.not rfl) rfl ?_
          refine RunL.ok (OpOk.pickF rfl rfl) rfl ?_
          refine RunL.nil ?_
          refine Run.condNF rfl (by first | omega | with_reducible rfl | assumption) ?_
          refine Run.skip ?_
          refine Run.seq ?_
          refine Run.region ?_
          refine RunL.ok (OpOk.move rfl) rfl ?_
          refine RunL.ok (OpOk.assign rfl) rfl ?_
          refine RunL.nil ?_
          refine Run.seq ?_
          refine Run.seq ?_
          refine Run.region ?_
          refine RunL.ok (OpOk.assign rfl) rfl ?_
          refine RunL.nil ?_
          refine Run.block ?_
          have hz6l := len_ct z8
          have hz6m := hm_ct z8 (fun q hq => Nat.le_trans (hmB q hq) (by decide))
          rw [show ownsP y3 = ownsP (y3.drop 0) from rfl]
          refine Run.jump ((Run.loopJ (X := Nat × Asn) (fun x => [(12, .int .i64 (x.1 : Int)), (9, vy2), (8, .int .i64 (i : Int)), (7, y9), (5, .pointer (some ⟨x5, 0, none⟩)), (0, .int .i64 (n : Int)), (1, u)]) (fun x => old w0 * pts x5 (.cells #[z4, .map (some x7), z5] 109 (0, 0)) * own 3 1 z4 (n + 1) (I (b3)) * setA x7 ((all2.map keyP)) * own 63 3 z5 (z6).length (Fl encT63 (z6)) * ownsP (z6) * own 63 3 y9 all2.length (Fl encT63 all2) * x.2 * own 63 3 vy2 y3.length (Fl encT63 y3) * ownsP (y3.drop x.1)) (fun x => x.1 ≤ y3.length) (fun x => y3.length - x.1) (0, _) (Nat.zero_le _) (fun x hx ih2 => ?_))) ⟨rfl, rfl, rfl, rfl, rfl, rfl, rfl, trivial⟩ (Grew.of (Eq.trans (frc (frl (frl (frl (frl (frl (frl (frl (frl rfl)))))))) (frc (frl (frl (frl (frl (frl (frl (frl (frl rfl)))))))) (frc (frl (frl (frl (frl (frl rfl))))) (frc (frl (frl (frl (frl (frl (frl rfl)))))) (frc (frl (frl (frl (frl (frl (frl rfl)))))) (frc (frl (frl (frl (frl (frl (frl rfl)))))) (frc (frl (frl (frl (frl (frl rfl))))) rfl))))))) (congrArg (· * _) (congrArg (· * _) (asg (asg (asg as1)))))) (Grew.refl _))
          obtain ⟨k, J2⟩ := x
          simp only at hx ih2 ⊢
          rcases Nat.lt_or_ge k y3.length with hk | hk
          · have hbd := hym _ (getD_mem hk)
            rw [ownsP_drop hk, ← sep_assoc]
            refine Run.seq ?_
            refine Run.seq ?_
            refine Run.region ?_
            refine RunL.ok (OpOk.move rfl) rfl ?_
            refine RunL.ok (OpOk.move rfl) rfl ?_
            refine RunL.ok (OpOk.lenR rfl rfl (Rd.right rdy11).left.left rfl) rfl ?_
            refine RunL.ok (OpOk.asT (OpOk.lss rfl rfl) (by omega)) rfl ?_
            refine RunL.nil ?_
            refine Run.condT rfl ?_
            refine Run.skip ?_
            refine Run.seq ?_
            refine Run.block ?_
            refine Run.seq ?_
            refine Run.region ?_
            refine RunL.ok (OpOk.assign rfl) rfl ?_
            refine RunL.nil ?_
            refine Run.block ?_
            refine Run.jump ((Run.loopJ (X := Nat × List Sh) (fun x => [(13, .int .i64 (x.1 : Int)), (12, .int .i64 (k : Int)), (9, vy2), (8, .int .i64 (i : Int)), (7, y9), (5, .pointer (some ⟨x5, 0, none⟩)), (0, .int .i64 (n : Int)), (1, u)]) (fun x => old w0 * pts x5 (.cells #[z4, .map (some x7), z5] 109 (0, 0)) * own 3 1 z4 (n + 1) (I (b3)) * setA x7 ((all2.map keyP)) * own 63 3 z5 (z6).length (Fl encT63 (z6)) * ownsP (z6) * own 63 3 y9 all2.length (Fl encT63 all2) * J2 * own 63 3 vy2 y3.length (Fl encT63 y3) * ownsP (y3.drop (k + 1)) * own 97 2 (y3.getD k default).2.2.1.1 (y3.getD k default).2.2.2.length (Fl encT97 x.2)) (fun x => x.1 ≤ (y3.getD k default).2.2.2.length ∧ x.2.length = (y3.getD k default).2.2.2.length) (fun x => (y3.getD k default).2.2.2.length - x.1) (0, (y3.getD k default).2.2.2) ⟨Nat.zero_le _, rfl⟩ (fun x hx ih3 => ?_))) ⟨rfl, rfl, rfl, rfl, rfl, rfl, rfl, rfl, trivial⟩ ((Grew.refl _))
            obtain ⟨z, sh⟩ := x
            simp only at hx ih3 ⊢
            obtain ⟨hz, hsl⟩ := hx
            rcases Nat.lt_or_ge z (y3.getD k default).2.2.2.length with hzt | hzg
            · refine Run.seq ?_
              refine Run.seq ?_
              refine Run.region ?_
              refine RunL.ok (OpOk.move rfl) rfl ?_
              refine RunL.ok (OpOk.move rfl) rfl ?_
              refine RunL.ok (OpOk.move rfl) rfl ?_
              refine RunL.ok (OpOk.idxN rfl ti63 rfl (Rd.right rdy11).left.left rfl (by omega)) rfl ?_
              refine RunL.ok (OpOk.fieldAddrA fld63_2 rfl) rfl ?_
              refine RunL.ok (OpOk.loadFl1 default rfl rfl rfl (Rd.right rdy11).left.left (fun _ => rfl) rfl (by omega) rfl) rfl ?_
              refine RunL.know (fun w s => (s.conv rfl).ownRd0) (fun rdq1 => ?_)
              refine RunL.ok (OpOk.lenR rfl rfl (Rd.right rdq1) rfl) rfl ?_
              refine RunL.ok (OpOk.asT (OpOk.lss rfl rfl) (by omega)) rfl ?_
              refine RunL.nil ?_
              refine Run.condT rfl ?_
              refine Run.skip ?_
              refine Run.seq ?_
              refine Run.block ?_
              refine Run.region ?_
              refine RunL.ok (OpOk.move rfl) rfl ?_
              refine RunL.ok (OpOk.move rfl) rfl ?_
              refine RunL.ok (OpOk.idxN rfl ti63 rfl (Rd.right rdy11).left.left rfl (by omega)) rfl ?_
              refine RunL.ok (OpOk.fieldAddrA fld63_2 rfl) rfl ?_
              refine RunL.ok (OpOk.loadFl1 default rfl rfl rfl (Rd.right rdy11).left.left (fun _ => rfl) rfl (by omega) rfl) rfl ?_
              refine RunL.ok (OpOk.move rfl) rfl ?_
              refine RunL.ok (OpOk.build rfl (fun w => run_build w 97 _ _ (by rfl))) rfl ?_
              refine RunL.ok (OpOk.idxN rfl ti97 rfl (Rd.right rdq1) rfl (by omega)) rfl ?_
              refine RunL.storeFl (enc := encT97) ((0, 0)) ti97 rfl rfl rfl (fun _ => rfl) rfl rfl (by first | omega | (simp; omega)) (by omega) ?_
              refine RunL.nil ?_
              refine Run.inBlock ?_
              refine Run.region ?_
              refine RunL.ok (OpOk.move rfl) rfl ?_
              refine RunL.ok (OpOk.addN _ 1 rfl rfl rfl rfl (by omega)) rfl ?_
              refine RunL.ok (OpOk.assign rfl) rfl ?_
              refine RunL.nil ?_
              refine Run.jump ((ih3 (z + 1, sh.set z (0, 0)) ⟨by dsimp only; omega, by dsimp only; rw [List.length_set]; exact hsl⟩ (by dsimp only; omega))) ⟨rfl, rfl, rfl, rfl, rfl, rfl, rfl, rfl, trivial⟩ ((Grew.refl _))
            · clear ih3
              refine Run.seq ?_
              refine Run.seq ?_
              refine Run.region ?_
              refine RunL.ok (OpOk.move rfl) rfl ?_
              refine RunL.ok (OpOk.move rfl) rfl ?_
              refine RunL.ok (OpOk.move rfl) rfl ?_
              refine RunL.ok (OpOk.idxN rfl ti63 rfl (Rd.right rdy11).left.left rfl (by omega)) rfl ?_
              refine RunL.ok (OpOk.fieldAddrA fld63_2 rfl) rfl ?_
              refine RunL.ok (OpOk.loadFl1 default rfl rfl rfl (Rd.right rdy11).left.left (fun _ => rfl) rfl (by omega) rfl) rfl ?_
              refine RunL.know (fun w s => (s.conv rfl).ownRd0) (fun rdq1 => ?_)
              refine RunL.ok (OpOk.lenR rfl rfl (Rd.right rdq1) rfl) rfl ?_
              refine RunL.ok (OpOk.asF (OpOk.lss rfl rfl) (by omega)) rfl ?_
              refine RunL.nil ?_
              refine Run.condF rfl ?_
              refine Run.exit rfl ?_
              refine Run.inBlock ?_
              refine Run.region ?_
              refine RunL.ok (OpOk.move rfl) rfl ?_
              refine RunL.ok (OpOk.addN _ 1 rfl rfl rfl rfl (by omega)) rfl ?_
              refine RunL.ok (OpOk.assign rfl) rfl ?_
              refine RunL.nil ?_
              refine Run.jump ((ih2 (k + 1, _) (by dsimp only; omega) (by dsimp only; omega))) ⟨rfl, rfl, rfl, rfl, rfl, rfl, rfl, trivial⟩ (Grew.of (Eq.trans (frc (frl rfl) (frc (frl rfl) rfl)) (congrArg (· * _) (congrArg (· * _) (asg as1)))) (Grew.refl _))
          · clear ih2
            refine Run.seq ?_
            refine Run.seq ?_
            refine Run.region ?_
            refine RunL.ok (OpOk.move rfl) rfl ?_
            refine RunL.ok (OpOk.move rfl) rfl ?_
            refine RunL.ok (OpOk.lenR rfl rfl (Rd.right rdy11).left rfl) rfl ?_
            refine RunL.ok (OpOk.asF (OpOk.lss rfl rfl) (by omega)) rfl ?_
            refine RunL.nil ?_
            refine Run.condF rfl ?_
            refine Run.exit rfl ?_
            refine Run.seq ?_
            refine Run.region ?_
            refine RunL.ok (OpOk.move rfl) rfl ?_
            refine RunL.know (fun w s => (s.conv rfl).ownsP0) (fun alr1 => ?_)
            refine RunL.mem (frc (frl (frl (frl (frl rfl)))) (frc (frl (frl (frl (frl rfl)))) (frc (frl (frl (frl (frl rfl)))) (frc (frl (frl (frl (frl rfl)))) (frc (frl (frl (frl (frl rfl)))) rfl))))) ?_
            refine RunL.call cal36 rfl (s36 (by assumption) (by omega)) rfl (fun vr2 Ar2 hr2 => ?_)
            obtain ⟨r3, ⟨r4, ⟨r5, rfl⟩⟩⟩ := hr2
            refine RunL.ok (OpOk.assign rfl) rfl ?_
            refine RunL.nil ?_
            refine Run.seq ?_
            refine Run.seq ?_
            refine Run.region ?_
            refine RunL.ok (OpOk.move rfl) rfl ?_
            refine RunL.ok (OpOk.move rfl) rfl ?_
            refine RunL.know (fun w s => (s.conv rfl).ownsP0) (fun alr6 => ?_)
            refine RunL.know (fun w s => (s.conv (frl rfl)).ownRd0) (fun rdr7 => ?_)
            refine RunL.know (fun w s => (s.conv (frl (frl (frl (frl (frl (frl (frl (frl (frl (frl (frl rfl)))))))))))).ownRd0) (fun rdr8 => ?_)
            refine RunL.call cal38 rfl (s38 (Rd.right rdr7).left (Rd.right rdr8).left.left.left.left.left.left.left.left.left.left.left (Alls.right alr6) haB.left.left.left.left.left.left.left.left.left.left.left.left) rfl (fun vr9 Ar9 hr9 => ?_)
            obtain ⟨rfl, rfl⟩ := hr9
            refine RunL.ok (OpOk.not rfl) rfl ?_
            refine RunL.ok (OpOk.move rfl) rfl ?_
            refine RunL.splitN (t := 122) rfl (fun r10 => ?_) (fun r10 => ?_)
            · refine RunL.off rfl rfl rfl rfl ?_
              refine RunL.off rfl rfl rfl rfl ?_
              refine RunL.off rfl rfl rfl rfl ?_
              refine RunL.ok (OpOk.pickT rfl rfl) rfl ?_
              refine RunL.nil ?_
              refine Run.condT rfl ?_
              refine Run.seq ?_
              refine Run.region ?_
              refine RunL.ok (OpOk.assign rfl) rfl ?_
              refine RunL.nil ?_
              refine Run.ret1 Try.func12 rfl rfl ?_
              exact absurd (r5.trans z8) r10
            refine RunL.on rfl rfl ?_
            refine RunL.ok (OpOk.move rfl) rfl ?_
            refine RunL.on rfl rfl ?_
            refine RunL.mem (frc (frl (frl rfl)) (frc (frl (frl rfl)) (frc (frl (frl rfl)) (frc (frl (frl rfl)) (frc (frl (frl rfl)) rfl))))) ?_
            refine RunL.call cal54 rfl (s54 (by assumption) (by assumption) (by assumption)) rfl (fun vr11 Ar11 hr11 => ?_)
            obtain ⟨rfl, rfl⟩ := hr11
            refine RunL.on rfl rfl ?_
            refine RunL.ok (OpOk.as (c := false) (OpOk.neq rfl rfl) (by rw [decide_eq_true (by omega)]; rfl)) rfl ?_
            refine RunL.ok (OpOk.pickF rfl rfl) rfl ?_
            refine RunL.nil ?_
            refine Run.condF rfl ?_
            refine Run.skip ?_
            refine Run.seq ?_
            refine Run.seq ?_
            refine Run.region ?_
            refine RunL.ok (OpOk.assign rfl) rfl ?_
            refine RunL.nil ?_
            refine Run.block ?_
            have hr3m := hm_ct r5 hz6m
            have hr3l := len_ct r5
            rw [show ownsP r3 = ownsP (r3.drop 0) from rfl]
            refine Run.jump ((Run.loopJ (X := Nat × Asn) (fun x => [(15, .int .i64 (x.1 : Int)), (14, vr2), (8, .int .i64 (i : Int)), (7, y9), (5, .pointer (some ⟨x5, 0, none⟩)), (0, .int .i64 (n : Int)), (1, u)]) (fun x => old w0 * pts x5 (.cells #[z4, .map (some x7), z5] 109 (0, 0)) * own 3 1 z4 (n + 1) (I (b3)) * setA x7 ((all2.map keyP)) * own 63 3 z5 (z6).length (Fl encT63 (z6)) * ownsP (z6) * own 63 3 y9 all2.length (Fl encT63 all2) * x.2 * own 63 3 vr2 r3.length (Fl encT63 r3) * ownsP (r3.drop x.1)) (fun x => x.1 ≤ r3.length) (fun x => r3.length - x.1) (0, _) (Nat.zero_le _) (fun x hx ih2 => ?_))) ⟨rfl, rfl, rfl, rfl, rfl, rfl, rfl, trivial⟩ (Grew.of (Eq.trans (frc (frl (frl (frl (frl (frl rfl))))) (frc (frl (frl (frl (frl (frl rfl))))) (frc (frl (frl (frl (frl (frl rfl))))) (frc (frl (frl (frl (frl (frl rfl))))) (frc (frl (frl (frl (frl (frl rfl))))) (frc (frl (frl (frl (frl (frl rfl))))) (frc (frl (frl (frl (frl (frl rfl))))) rfl))))))) (congrArg (· * _) (congrArg (· * _) (asg (asg (asg as1)))))) (Grew.refl _))
            obtain ⟨k, J2⟩ := x
            simp only at hx ih2 ⊢
            rcases Nat.lt_or_ge k r3.length with hk | hk
            · have hbd := hr3m _ (getD_mem hk)
              rw [ownsP_drop hk, ← sep_assoc]
              refine Run.seq ?_
              refine Run.seq ?_
              refine Run.region ?_
              refine RunL.ok (OpOk.move rfl) rfl ?_
              refine RunL.ok (OpOk.move rfl) rfl ?_
              refine RunL.ok (OpOk.lenR rfl rfl (Rd.right rdr7).left.left rfl) rfl ?_
              refine RunL.ok (OpOk.asT (OpOk.lss rfl rfl) (by omega)) rfl ?_
              refine RunL.nil ?_
              refine Run.condT rfl ?_
              refine Run.skip ?_
              refine Run.seq ?_
              refine Run.block ?_
              refine Run.seq ?_
              refine Run.region ?_
              refine RunL.ok (OpOk.assign rfl) rfl ?_
              refine RunL.nil ?_
              refine Run.block ?_
              refine Run.jump ((Run.loopJ (X := Nat × List Sh) (fun x => [(16, .int .i64 (x.1 : Int)), (15, .int .i64 (k : Int)), (14, vr2), (8, .int .i64 (i : Int)), (7, y9), (5, .pointer (some ⟨x5, 0, none⟩)), (0, .int .i64 (n : Int)), (1, u)]) (fun x => old w0 * pts x5 (.cells #[z4, .map (some x7), z5] 109 (0, 0)) * own 3 1 z4 (n + 1) (I (b3)) * setA x7 ((all2.map keyP)) * own 63 3 z5 (z6).length (Fl encT63 (z6)) * ownsP (z6) * own 63 3 y9 all2.length (Fl encT63 all2) * J2 * own 63 3 vr2 r3.length (Fl encT63 r3) * ownsP (r3.drop (k + 1)) * own 97 2 (r3.getD k default).2.2.1.1 (r3.getD k default).2.2.2.length (Fl encT97 x.2)) (fun x => x.1 ≤ (r3.getD k default).2.2.2.length ∧ x.2.length = (r3.getD k default).2.2.2.length) (fun x => (r3.getD k default).2.2.2.length - x.1) (0, (r3.getD k default).2.2.2) ⟨Nat.zero_le _, rfl⟩ (fun x hx ih3 => ?_))) ⟨rfl, rfl, rfl, rfl, rfl, rfl, rfl, rfl, trivial⟩ ((Grew.refl _))
              obtain ⟨z, sh⟩ := x
              simp only at hx ih3 ⊢
              obtain ⟨hz, hsl⟩ := hx
              rcases Nat.lt_or_ge z (r3.getD k default).2.2.2.length with hzt | hzg
              · refine Run.seq ?_
                refine Run.seq ?_
                refine Run.region ?_
                refine RunL.ok (OpOk.move rfl) rfl ?_
                refine RunL.ok (OpOk.move rfl) rfl ?_
                refine RunL.ok (OpOk.move rfl) rfl ?_
                refine RunL.ok (OpOk.idxN rfl ti63 rfl (Rd.right rdr7).left.left rfl (by omega)) rfl ?_
                refine RunL.ok (OpOk.fieldAddrA fld63_2 rfl) rfl ?_
                refine RunL.ok (OpOk.loadFl1 default rfl rfl rfl (Rd.right rdr7).left.left (fun _ => rfl) rfl (by omega) rfl) rfl ?_
                refine RunL.know (fun w s => (s.conv rfl).ownRd0) (fun rdq1 => ?_)
                refine RunL.ok (OpOk.lenR rfl rfl (Rd.right rdq1) rfl) rfl ?_
                refine RunL.ok (OpOk.asT (OpOk.lss rfl rfl) (by omega)) rfl ?_
                refine RunL.nil ?_
                refine Run.condT rfl ?_
                refine Run.skip ?_
                refine Run.seq ?_
                refine Run.block ?_
                refine Run.region ?_
                refine RunL.ok (OpOk.move rfl) rfl ?_
                refine RunL.ok (OpOk.move rfl) rfl ?_
                refine RunL.ok (OpOk.idxN rfl ti63 rfl (Rd.right rdr7).left.left rfl (by omega)) rfl ?_
                refine RunL.ok (OpOk.fieldAddrA fld63_2 rfl) rfl ?_
                refine RunL.ok (OpOk.loadFl1 default rfl rfl rfl (Rd.right rdr7).left.left (fun _ => rfl) rfl (by omega) rfl) rfl ?_
                refine RunL.ok (OpOk.move rfl) rfl ?_
                refine RunL.ok (OpOk.build rfl (fun w => run_build w 97 _ _ (by rfl))) rfl ?_
                refine RunL.ok (OpOk.idxN rfl ti97 rfl (Rd.right rdq1) rfl (by omega)) rfl ?_
                refine RunL.storeFl (enc := encT97) ((0, 0)) ti97 rfl rfl rfl (fun _ => rfl) rfl rfl (by first | omega | (simp; omega)) (by omega) ?_
                refine RunL.nil ?_
                refine Run.inBlock ?_
                refine Run.region ?_
                refine RunL.ok (OpOk.move rfl) rfl ?_
                refine RunL.ok (OpOk.addN _ 1 rfl rfl rfl rfl (by omega)) rfl ?_
                refine RunL.ok (OpOk.assign rfl) rfl ?_
                refine RunL.nil ?_
                refine Run.jump ((ih3 (z + 1, sh.set z (0, 0)) ⟨by dsimp only; omega, by dsimp only; rw [List.length_set]; exact hsl⟩ (by dsimp only; omega))) ⟨rfl, rfl, rfl, rfl, rfl, rfl, rfl, rfl, trivial⟩ ((Grew.refl _))
              · clear ih3
                refine Run.seq ?_
                refine Run.seq ?_
                refine Run.region ?_
                refine RunL.ok (OpOk.move rfl) rfl ?_
                refine RunL.ok (OpOk.move rfl) rfl ?_
                refine RunL.ok (OpOk.move rfl) rfl ?_
                refine RunL.ok (OpOk.idxN rfl ti63 rfl (Rd.right rdr7).left.left rfl (by omega)) rfl ?_
                refine RunL.ok (OpOk.fieldAddrA fld63_2 rfl) rfl ?_
                refine RunL.ok (OpOk.loadFl1 default rfl rfl rfl (Rd.right rdr7).left.left (fun _ => rfl) rfl (by omega) rfl) rfl ?_
                refine RunL.know (fun w s => (s.conv rfl).ownRd0) (fun rdq1 => ?_)
                refine RunL.ok (OpOk.lenR rfl rfl (Rd.right rdq1) rfl) rfl ?_
                refine RunL.ok (OpOk.asF (OpOk.lss rfl rfl) (by omega)) rfl ?_
                refine RunL.nil ?_
                refine Run.condF rfl ?_
                refine Run.exit rfl ?_
                refine Run.inBlock ?_
                refine Run.region ?_
                refine RunL.ok (OpOk.move rfl) rfl ?_
                refine RunL.ok (OpOk.addN _ 1 rfl rfl rfl rfl (by omega)) rfl ?_
                refine RunL.ok (OpOk.assign rfl) rfl ?_
                refine RunL.nil ?_
                refine Run.jump ((ih2 (k + 1, _) (by dsimp only; omega) (by dsimp only; omega))) ⟨rfl, rfl, rfl, rfl, rfl, rfl, rfl, trivial⟩ (Grew.of (Eq.trans (frc (frl rfl) (frc (frl rfl) rfl)) (congrArg (· * _) (congrArg (· * _) (asg as1)))) (Grew.refl _))
            · clear ih2
              refine Run.seq ?_
              refine Run.seq ?_
              refine Run.region ?_
              refine RunL.ok (OpOk.move rfl) rfl ?_
              refine RunL.ok (OpOk.move rfl) rfl ?_
              refine RunL.ok (OpOk.lenR rfl rfl (Rd.right rdr7).left rfl) rfl ?_
              refine RunL.ok (OpOk.asF (OpOk.lss rfl rfl) (by omega)) rfl ?_
              refine RunL.nil ?_
              refine Run.condF rfl ?_
              refine Run.exit rfl ?_
              refine Run.seq ?_
              refine Run.seq ?_
              refine Run.region ?_
              refine RunL.ok (OpOk.assign rfl) rfl ?_
              refine RunL.nil ?_
              refine Run.block ?_
              refine Run.jump ((Run.loopJ (X := Int × Asn) (fun x => [(17, .int .i64 x.1), (8, .int .i64 (i : Int)), (7, y9), (5, .pointer (some ⟨x5, 0, none⟩)), (0, .int .i64 (n : Int)), (1, u)]) (fun x => old w0 * pts x5 (.cells #[z4, .map (some x7), z5] 109 (0, 0)) * own 3 1 z4 (n + 1) (I (b3)) * setA x7 ((all2.map keyP)) * own 63 3 z5 (z6).length (Fl encT63 (z6)) * ownsP (z6) * own 63 3 y9 all2.length (Fl encT63 all2) * x.2) (fun x => -1 ≤ x.1 ∧ x.1 ≤ (n : Int) + 2) (fun x => ((n : Int) + 2 - x.1).toNat) (-1, _) ⟨by dsimp only; omega, by dsimp only; omega⟩ (fun x hx ih3 => ?_))) ⟨rfl, rfl, rfl, rfl, rfl, rfl, trivial⟩ (Grew.of (asg (asg as1)) (Grew.refl _))
              obtain ⟨op, J3⟩ := x
              simp only at hx ih3 ⊢
              obtain ⟨ho1, ho2⟩ := hx
              rcases Decidable.em (op ≤ (n : Int) + 1) with hoe | hoe
              · rcases Decidable.em (1 ≤ op ∧ op < ((n + 1 : Nat) : Int)) with hin | hout
                · obtain ⟨j, rfl⟩ := Int.eq_ofNat_of_zero_le (show 0 ≤ op by omega)
                  have hj1 : 1 ≤ j := by omega
                  have hj2 : j < n + 1 := by omega
                  have hj3 := hrel3 j hj1 hj2
                  refine Run.seq ?_
                  refine Run.seq ?_
                  refine Run.region ?_
                  refine RunL.ok (OpOk.move rfl) rfl ?_
                  refine RunL.ok (OpOk.move rfl) rfl ?_
                  refine RunL.ok (OpOk.addN _ 1 rfl rfl rfl rfl (by omega)) rfl ?_
                  refine RunL.ok (OpOk.asT (OpOk.leq rfl rfl) (by omega)) rfl ?_
                  refine RunL.nil ?_
                  refine Run.condT rfl ?_
                  refine Run.skip ?_
                  refine Run.seq ?_
                  refine Run.block ?_
                  refine Run.seq ?_
                  refine Run.region ?_
                  refine RunL.ok (OpOk.move rfl) rfl ?_
                  refine RunL.ok (OpOk.move rfl) rfl ?_
                  refine RunL.call cal55 rfl (s55a (Rd.right rdr8).left haB.left.left.left.left.left.left.left (by assumption) (by assumption) (by assumption) (by assumption)) rfl (fun vt1 At1 ht1 => ?_)
                  obtain ⟨t2, ⟨rfl, rfl⟩⟩ := ht1
                  refine RunL.ok (OpOk.move rfl) rfl ?_
                  refine RunL.ok (OpOk.ext20 rfl) rfl ?_
                  refine RunL.ok (OpOk.ext21 rfl) rfl ?_
                  refine RunL.ok (OpOk.assign rfl) rfl ?_
                  refine RunL.ok (OpOk.assign rfl) rfl ?_
                  refine RunL.nil ?_
                  refine Run.seq ?_
                  refine Run.seq ?_
                  refine Run.region ?_
                  refine RunL.ok (OpOk.move rfl) rfl ?_
                  refine RunL.ok (OpOk.asF (OpOk.lss rfl rfl) (by omega)) rfl ?_
                  refine RunL.ok (OpOk.move rfl) rfl ?_
                  refine RunL.on rfl rfl ?_
                  refine RunL.ok (OpOk.move rfl) rfl ?_
                  refine RunL.on rfl rfl ?_
                  refine RunL.ok (OpOk.move rfl) rfl ?_
                  refine RunL.on rfl rfl ?_
                  refine RunL.ok (OpOk.asF (OpOk.gtr rfl rfl) (by omega)) rfl ?_
                  refine RunL.ok (OpOk.pickF rfl rfl) rfl ?_
                  refine RunL.nil ?_
                  refine Run.condF rfl ?_
                  refine Run.skip ?_
                  refine Run.seq ?_
                  refine Run.region ?_
                  refine RunL.ok (OpOk.move rfl) rfl ?_
                  refine RunL.ok (OpOk.move rfl) rfl ?_
                  refine RunL.mem (frc (frl (frl (frl rfl))) (frc (frl (frl (frl rfl))) (frc (frl (frl (frl rfl))) (frc (frl (frl (frl rfl))) (frc (frl (frl (frl rfl))) rfl))))) ?_
                  refine RunL.call cal37 rfl (s37a (by assumption) (by assumption)) rfl (fun vt3 At3 ht3 => ?_)
                  obtain ⟨rfl, rfl⟩ := ht3
                  refine RunL.ok (OpOk.move rfl) rfl ?_
                  refine RunL.ok (OpOk.as (c := false) (OpOk.neq rfl rfl) (by rw [decide_eq_true (by omega)]; rfl)) rfl ?_
                  refine RunL.nil ?_
                  refine Run.condF rfl ?_
                  refine Run.skip ?_
                  refine Run.inBlock ?_
                  refine Run.region ?_
                  refine RunL.ok (OpOk.move rfl) rfl ?_
                  refine RunL.ok (OpOk.addN _ 1 rfl rfl rfl rfl (by omega)) rfl ?_
                  refine RunL.ok (OpOk.assign rfl) rfl ?_
                  refine RunL.nil ?_
                  refine Run.jump ((ih3 ((j : Int) + 1, _) ⟨by dsimp only; omega, by dsimp only; omega⟩ (by dsimp only; omega))) ⟨rfl, rfl, rfl, rfl, rfl, rfl, trivial⟩ (Grew.of (Eq.trans (frc (frl (frl (frl (frl (frl rfl))))) (frc (frl (frl (frl (frl (frl rfl))))) (frc (frl (frl (frl (frl (frl rfl))))) rfl))) (asg as1)) (Grew.refl _))
                · refine Run.seq ?_
                  refine Run.seq ?_
                  refine Run.region ?_
                  refine RunL.ok (OpOk.move rfl) rfl ?_
                  refine RunL.ok (OpOk.move rfl) rfl ?_
                  refine RunL.ok (OpOk.addN _ 1 rfl rfl rfl rfl (by omega)) rfl ?_
                  refine RunL.ok (OpOk.asT (OpOk.leq rfl rfl) (by omega)) rfl ?_
                  refine RunL.nil ?_
                  refine Run.condT rfl ?_
                  refine Run.skip ?_
                  refine Run.seq ?_
                  refine Run.block ?_
                  refine Run.seq ?_
                  refine Run.region ?_
                  refine RunL.ok (OpOk.move rfl) rfl ?_
                  refine RunL.ok (OpOk.move rfl) rfl ?_
                  refine RunL.call cal55 rfl (s55c (Rd.right rdr8).left haB.left.left.left.left.left.left.left (by assumption) (by assumption) (by assumption)) rfl (fun vt3 At3 ht3 => ?_)
                  obtain ⟨t4, ⟨t5, ⟨t6, ⟨rfl, ⟨t7, rfl⟩⟩⟩⟩⟩ := ht3
                  refine RunL.ok (OpOk.move rfl) rfl ?_
                  refine RunL.ok (OpOk.ext20 rfl) rfl ?_
                  refine RunL.ok (OpOk.ext21 rfl) rfl ?_
                  refine RunL.ok (OpOk.assign rfl) rfl ?_
                  refine RunL.ok (OpOk.assign rfl) rfl ?_
                  refine RunL.nil ?_
                  refine Run.seq ?_
                  refine Run.seq ?_
                  refine Run.region ?_
                  refine RunL.ok (OpOk.move rfl) rfl ?_
                  refine RunL.ok (OpOk.lss rfl rfl) rfl ?_
                  refine RunL.ok (OpOk.move rfl) rfl ?_
                  refine RunL.splitD (t := 165) rfl (fun t8 => ?_) (fun t8 => ?_)
                  · refine RunL.off rfl rfl rfl rfl ?_
                    refine RunL.off rfl rfl rfl rfl ?_
                    refine RunL.off rfl rfl rfl rfl ?_
                    refine RunL.ok (OpOk.pickT rfl rfl) rfl ?_
                    refine RunL.nil ?_
                    refine Run.condT rfl ?_
                    refine Run.region ?_
                    refine RunL.ok (OpOk.assign rfl) rfl ?_
                    refine RunL.nil ?_
                    refine Run.seq ?_
                    refine Run.region ?_
                    refine RunL.ok (OpOk.move rfl) rfl ?_
                    refine RunL.ok (OpOk.move rfl) rfl ?_
                    refine RunL.mem (frc (frl (frl (frl rfl))) (frc (frl (frl (frl rfl))) (frc (frl (frl (frl rfl))) (frc (frl (frl (frl rfl))) (frc (frl (frl (frl rfl))) rfl))))) ?_
                    refine RunL.call cal37 rfl (s37c (by assumption)) rfl (fun vt11 At11 ht11 => ?_)
                    obtain ⟨rfl, rfl⟩ := ht11
                    refine RunL.ok (OpOk.move rfl) rfl ?_
                    refine RunL.ok (OpOk.as (c := false) (OpOk.neq rfl rfl) (by rw [decide_eq_true (by omega)]; rfl)) rfl ?_
                    refine RunL.nil ?_
                    refine Run.condF rfl ?_
                    refine Run.skip ?_
                    refine Run.inBlock ?_
                    refine Run.region ?_
                    refine RunL.ok (OpOk.move rfl) rfl ?_
                    refine RunL.ok (OpOk.add rfl rfl (wrapI (by omega) (by omega))) rfl ?_
                    refine RunL.ok (OpOk.assign rfl) rfl ?_
                    refine RunL.nil ?_
                    refine Run.jump ((ih3 (op + 1, _) ⟨by dsimp only; omega, by dsimp only; omega⟩ (by dsimp only; omega))) ⟨rfl, rfl, rfl, rfl, rfl, rfl, trivial⟩ (Grew.of (Eq.trans (frc (frl (frl (frl (frl (frl rfl))))) (frc (frl (frl (frl (frl (frl rfl))))) (frc (frl (frl (frl (frl (frl rfl))))) rfl))) (asg as1)) (Grew.refl _))
                  refine RunL.on rfl rfl ?_
                  refine RunL.ok (OpOk.move rfl) rfl ?_
                  refine RunL.on rfl rfl ?_
                  refine RunL.ok (OpOk.move rfl) rfl ?_
                  refine RunL.on rfl rfl ?_
                  refine RunL.ok (OpOk.asT (OpOk.gtr rfl rfl) (by omega)) rfl ?_
                  refine RunL.ok (OpOk.pickF rfl rfl) rfl ?_
                  refine RunL.nil ?_
                  refine Run.condT rfl ?_
                  refine Run.region ?_
                  refine RunL.ok (OpOk.assign rfl) rfl ?_
                  refine RunL.nil ?_
                  refine Run.seq ?_
                  refine Run.region ?_
                  refine RunL.ok (OpOk.move rfl) rfl ?_
                  refine RunL.ok (OpOk.move rfl) rfl ?_
                  refine RunL.mem (frc (frl (frl (frl rfl))) (frc (frl (frl (frl rfl))) (frc (frl (frl (frl rfl))) (frc (frl (frl (frl rfl))) (frc (frl (frl (frl rfl))) rfl))))) ?_
                  refine RunL.call cal37 rfl (s37c (by assumption)) rfl (fun vt14 At14 ht14 => ?_)
                  obtain ⟨rfl, rfl⟩ := ht14
                  refine RunL.ok (OpOk.move rfl) rfl ?_
                  refine RunL.ok (OpOk.as (c := false) (OpOk.neq rfl rfl) (by rw [decide_eq_true (by omega)]; rfl)) rfl ?_
                  refine RunL.nil ?_
                  refine Run.condF rfl ?_
                  refine Run.skip ?_
                  refine Run.inBlock ?_
                  refine Run.region ?_
                  refine RunL.ok (OpOk.move rfl) rfl ?_
                  refine RunL.ok (OpOk.add rfl rfl (wrapI (by omega) (by omega))) rfl ?_
                  refine RunL.ok (OpOk.assign rfl) rfl ?_
                  refine RunL.nil ?_
                  refine Run.jump ((ih3 (op + 1, _) ⟨by dsimp only; omega, by dsimp only; omega⟩ (by dsimp only; omega))) ⟨rfl, rfl, rfl, rfl, rfl, rfl, trivial⟩ (Grew.of (Eq.trans (frc (frl (frl (frl (frl (frl rfl))))) (frc (frl (frl (frl (frl (frl rfl))))) (frc (frl (frl (frl (frl (frl rfl))))) rfl))) (asg as1)) (Grew.refl _))
              · clear ih3
                refine Run.seq ?_
                refine Run.seq ?_
                refine Run.region ?_
                refine RunL.ok (OpOk.move rfl) rfl ?_
                refine RunL.ok (OpOk.move rfl) rfl ?_
                refine RunL.ok (OpOk.addN _ 1 rfl rfl rfl rfl (by omega)) rfl ?_
                refine RunL.ok (OpOk.asF (OpOk.leq rfl rfl) (by omega)) rfl ?_
                refine RunL.nil ?_
                refine Run.condF rfl ?_
                refine Run.exit rfl ?_
                refine Run.seq ?_
                refine Run.region ?_
                refine RunL.ok (OpOk.assign rfl) rfl ?_
                refine RunL.nil ?_
                refine Run.block ?_
                refine Run.jump ((Run.loopJ (X := Nat × Asn) (fun x => [(20, .int .i64 (x.1 : Int)), (8, .int .i64 (i : Int)), (7, y9), (5, .pointer (some ⟨x5, 0, none⟩)), (0, .int .i64 (n : Int)), (1, u)]) (fun x => old w0 * pts x5 (.cells #[z4, .map (some x7), z5] 109 (0, 0)) * own 3 1 z4 (n + 1) (I (b3)) * setA x7 ((all2.map keyP)) * own 63 3 z5 (z6).length (Fl encT63 (z6)) * ownsP (z6) * own 63 3 y9 all2.length (Fl encT63 all2) * x.2) (fun x => x.1 ≤ ps.length) (fun x => ps.length - x.1) (0, _) (Nat.zero_le _) (fun x hx ih3 => ?_))) ⟨rfl, rfl, rfl, rfl, rfl, rfl, trivial⟩ (Grew.of as1 (Grew.refl _))
                obtain ⟨k, J4⟩ := x
                simp only at hx ih3 ⊢
                rcases Nat.lt_or_ge k ps.length with hk1 | hk1
                · rcases Decidable.em (((ps.getD k default).1, (ps.getD k default).2.1) ∈ all2.map keyP) with hh | hh
                  · refine Run.seq ?_
                    refine Run.seq ?_
                    refine Run.region ?_
                    refine RunL.ok (OpOk.move rfl) rfl ?_
                    refine RunL.ok (OpOk.move rfl) rfl ?_
                    refine RunL.ok (OpOk.move rfl) rfl ?_
                    refine RunL.ok (OpOk.idx1N rfl ti50 rfl rd.left.left.left.left.left.left.left rfl (by omega)) rfl ?_
                    refine RunL.ok (OpOk.load rfl rfl rfl (Rd.cell rd.left.left.left.left.left.left.left (by first | assumption | rfl))) rfl ?_
                    refine RunL.ok (OpOk.lenR rfl rfl hrd.left.left.left.left.left.left.left rfl) rfl ?_
                    refine RunL.ok (OpOk.asT (OpOk.lss rfl rfl) (by omega)) rfl ?_
                    refine RunL.nil ?_
                    refine Run.condT rfl ?_
                    refine Run.skip ?_
                    refine Run.seq ?_
                    refine Run.block ?_
                    refine Run.seq ?_
                    refine Run.know (fun w s => (s.conv (frl (frl (frl (frl (frl rfl)))))).ownRd0) (fun rdv1 => ?_)
                    refine Run.know (fun w s => (s.conv (frl (frl (frl rfl)))).ownRd0) (fun rdv2 => ?_)
                    (apply Run.drawD [] (by rfl) (Eq.trans (frc (frl (frl rfl)) (frc (frl (frl rfl)) (frc (frl (frl rfl)) (frc (frl (frl rfl)) (frc (frl (frl rfl)) rfl))))) (asg (asg (asg (asg rfl))))); case hchk => kernel_rfl)
                    refine Sd.quiet 0 _ _ rfl rfl rfl rfl rfl (QOp.ok (fun X => OpOk.move rfl)) ?_
                    refine Sd.quiet 1 _ _ rfl rfl rfl rfl rfl (QOp.ok (fun X => OpOk.move rfl)) ?_
                    refine Sd.quiet 2 _ _ rfl rfl rfl rfl rfl (QOp.ok (fun X => OpOk.move rfl)) ?_
                    refine Sd.quiet 3 _ _ rfl rfl rfl rfl rfl (QOp.ok (fun X => OpOk.idx1N rfl ti50 rfl rd.left.left.left.left rfl (by omega))) ?_
                    refine Sd.quiet 4 _ _ rfl rfl rfl rfl rfl (QOp.ok (fun X => OpOk.load rfl rfl rfl (Rd.cell rd.left.left.left.left (by first | assumption | rfl)))) ?_
                    refine Sd.quiet 5 _ _ rfl rfl rfl rfl rfl (QOp.ok (fun X => OpOk.move rfl)) ?_
                    refine Sd.quiet 6 _ _ rfl rfl rfl rfl rfl (QOp.ok (fun X => OpOk.idxN rfl ti63 rfl hrd.left.left.left.left rfl (by omega))) ?_
                    refine Sd.quiet 7 _ _ rfl rfl rfl rfl rfl (QOp.ok (fun X => OpOk.fieldAddrA fld63_0 rfl)) ?_
                    refine Sd.quiet 8 _ _ rfl rfl rfl rfl rfl (QOp.ok (fun X => OpOk.loadFl1 default rfl rfl rfl hrd.left.left.left.left (fun _ => rfl) rfl (by omega) rfl)) ?_
                    refine Sd.quiet 9 _ _ rfl rfl rfl rfl rfl (QOp.ok (fun X => OpOk.move rfl)) ?_
                    refine Sd.quiet 10 _ _ rfl rfl rfl rfl rfl (QOp.ok (fun X => OpOk.move rfl)) ?_
                    refine Sd.quiet 11 _ _ rfl rfl rfl rfl rfl (QOp.ok (fun X => OpOk.idx1N rfl ti50 rfl rd.left.left.left.left rfl (by omega))) ?_
                    refine Sd.quiet 12 _ _ rfl rfl rfl rfl rfl (QOp.ok (fun X => OpOk.load rfl rfl rfl (Rd.cell rd.left.left.left.left (by first | assumption | rfl)))) ?_
                    refine Sd.quiet 13 _ _ rfl rfl rfl rfl rfl (QOp.ok (fun X => OpOk.move rfl)) ?_
                    refine Sd.quiet 14 _ _ rfl rfl rfl rfl rfl (QOp.ok (fun X => OpOk.idxN rfl ti63 rfl hrd.left.left.left.left rfl (by omega))) ?_
                    refine Sd.quiet 15 _ _ rfl rfl rfl rfl rfl (QOp.ok (fun X => OpOk.fieldAddrA fld63_1 rfl)) ?_
                    refine Sd.quiet 16 _ _ rfl rfl rfl rfl rfl (QOp.ok (fun X => OpOk.loadFl1 default rfl rfl rfl hrd.left.left.left.left (fun _ => rfl) rfl (by omega) rfl)) ?_
                    refine Sd.quiet 18 _ _ rfl rfl rfl rfl rfl (QOp.ok (fun X => OpOk.move rfl)) ?_
                    refine Sd.quiet 19 _ _ rfl rfl rfl rfl rfl (QOp.ok (fun X => OpOk.move rfl)) ?_
                    refine Sd.quiet 20 _ _ rfl rfl rfl rfl rfl (QOp.ok (fun X => OpOk.move rfl)) ?_
                    refine Sd.quiet 21 _ _ rfl rfl rfl rfl rfl (QOp.ok (fun X => OpOk.idx1N rfl ti50 rfl rd.left.left.left.left rfl (by omega))) ?_
                    refine Sd.quiet 22 _ _ rfl rfl rfl rfl rfl (QOp.ok (fun X => OpOk.load rfl rfl rfl (Rd.cell rd.left.left.left.left (by first | assumption | rfl)))) ?_
                    refine Sd.quiet 23 _ _ rfl rfl rfl rfl rfl (QOp.ok (fun X => OpOk.move rfl)) ?_
                    refine Sd.quiet 24 _ _ rfl rfl rfl rfl rfl (QOp.ok (fun X => OpOk.idxN rfl ti63 rfl hrd.left.left.left.left rfl (by omega))) ?_
                    refine Sd.quiet 25 _ _ rfl rfl rfl rfl rfl (QOp.ok (fun X => OpOk.fieldAddrA fld63_0 rfl)) ?_
                    refine Sd.quiet 26 _ _ rfl rfl rfl rfl rfl (QOp.ok (fun X => OpOk.loadFl1 default rfl rfl rfl hrd.left.left.left.left (fun _ => rfl) rfl (by omega) rfl)) ?_
                    refine Sd.quiet 27 _ _ rfl rfl rfl rfl rfl (QOp.ok (fun X => OpOk.move rfl)) ?_
                    refine Sd.quiet 28 _ _ rfl rfl rfl rfl rfl (QOp.ok (fun X => OpOk.move rfl)) ?_
                    refine Sd.quiet 29 _ _ rfl rfl rfl rfl rfl (QOp.ok (fun X => OpOk.idx1N rfl ti50 rfl rd.left.left.left.left rfl (by omega))) ?_
                    refine Sd.quiet 30 _ _ rfl rfl rfl rfl rfl (QOp.ok (fun X => OpOk.load rfl rfl rfl (Rd.cell rd.left.left.left.left (by first | assumption | rfl)))) ?_
                    refine Sd.quiet 31 _ _ rfl rfl rfl rfl rfl (QOp.ok (fun X => OpOk.move rfl)) ?_
                    refine Sd.quiet 32 _ _ rfl rfl rfl rfl rfl (QOp.ok (fun X => OpOk.idxN rfl ti63 rfl hrd.left.left.left.left rfl (by omega))) ?_
                    refine Sd.quiet 33 _ _ rfl rfl rfl rfl rfl (QOp.ok (fun X => OpOk.fieldAddrA fld63_1 rfl)) ?_
                    refine Sd.quiet 34 _ _ rfl rfl rfl rfl rfl (QOp.ok (fun X => OpOk.loadFl1 default rfl rfl rfl hrd.left.left.left.left (fun _ => rfl) rfl (by omega) rfl)) ?_
                    refine Sd.quiet 35 _ _ rfl rfl rfl rfl rfl (QOp.call cal56 rfl (fun X => s56 (Rd.right rdr8).left.left.left)) ?_
                    refine Sd.splitBT (decide_eq_true (by first | omega | with_reducible rfl | assumption)) ?_
                    (refine Sd.exec 17 rfl rfl rfl rfl rfl ?hrest (by rfl) (fun Xv3 Kv3 hKv3 => ?_); case hrest => kernel_rfl)
                    refine RunL.mem (fl2 (sep_emp _) (flS (flS (flS (flS rfl))))) ?_
                    refine RunL.call cal39 rfl (s39) rfl (fun vv4 Av4 hv4 => ?_)
                    obtain ⟨rfl, rfl⟩ := hv4
                    refine Sd.ret hKv3 (Eq.trans rfl (gp2 (sep_emp _).symm (asg (asg (asg (asg rfl)))))) ⟨_, (emp_sep _).symm⟩ ?_
                    refine Sd.splitBT (decide_eq_true (by first | omega | with_reducible rfl | assumption)) ?_
                    refine Sd.quiet 36 _ _ rfl rfl rfl rfl rfl (QOp.ok (fun X => OpOk.neqB rfl rfl rfl)) ?_
                    (apply Sd.tail; case hall => kernel_rfl)
                    refine RunL.mem (fl2 (flS (flS (flS (flS rfl)))) (sep_emp _)) ?_
                    refine RunL.nil ?_
                    refine Run.condF rfl ?_
                    refine Run.skip ?_
                    refine Run.inBlock ?_
                    refine Run.region ?_
                    refine RunL.ok (OpOk.move rfl) rfl ?_
                    refine RunL.ok (OpOk.addN _ 1 rfl rfl rfl rfl (by omega)) rfl ?_
                    refine RunL.ok (OpOk.assign rfl) rfl ?_
                    refine RunL.nil ?_
                    refine Run.jump ((ih3 (k + 1, _) (by dsimp only; omega) (by dsimp only; omega))) ⟨rfl, rfl, rfl, rfl, rfl, rfl, trivial⟩ (Grew.of (Eq.trans (frc (frl (frl (frl (frl (frl rfl))))) (frc (frl (frl (frl (frl (frl rfl))))) rfl)) as1) (Grew.refl _))
                  · refine Run.seq ?_
                    refine Run.seq ?_
                    refine Run.region ?_
                    refine RunL.ok (OpOk.move rfl) rfl ?_
                    refine RunL.ok (OpOk.move rfl) rfl ?_
                    refine RunL.ok (OpOk.move rfl) rfl ?_
                    refine RunL.ok (OpOk.idx1N rfl ti50 rfl rd.left.left.left.left.left.left.left rfl (by omega)) rfl ?_
                    refine RunL.ok (OpOk.load rfl rfl rfl (Rd.cell rd.left.left.left.left.left.left.left (by first | assumption | rfl))) rfl ?_
                    refine RunL.ok (OpOk.lenR rfl rfl hrd.left.left.left.left.left.left.left rfl) rfl ?_
                    refine RunL.ok (OpOk.asT (OpOk.lss rfl rfl) (by omega)) rfl ?_
                    refine RunL.nil ?_
                    refine Run.condT rfl ?_
                    refine Run.skip ?_
                    refine Run.seq ?_
                    refine Run.block ?_
                    refine Run.seq ?_
                    refine Run.know (fun w s => (s.conv (frl (frl (frl (frl (frl rfl)))))).ownRd0) (fun rdv1 => ?_)
                    refine Run.know (fun w s => (s.conv (frl (frl (frl rfl)))).ownRd0) (fun rdv2 => ?_)
                    (apply Run.drawD [] (by rfl) (Eq.trans (frc (frl (frl rfl)) (frc (frl (frl rfl)) (frc (frl (frl rfl)) (frc (frl (frl rfl)) (frc (frl (frl rfl)) rfl))))) (asg (asg (asg (asg rfl))))); case hchk => kernel_rfl)
                    refine Sd.quiet 0 _ _ rfl rfl rfl rfl rfl (QOp.ok (fun X => OpOk.move rfl)) ?_
                    refine Sd.quiet 1 _ _ rfl rfl rfl rfl rfl (QOp.ok (fun X => OpOk.move rfl)) ?_
                    refine Sd.quiet 2 _ _ rfl rfl rfl rfl rfl (QOp.ok (fun X => OpOk.move rfl)) ?_
                    refine Sd.quiet 3 _ _ rfl rfl rfl rfl rfl (QOp.ok (fun X => OpOk.idx1N rfl ti50 rfl rd.left.left.left.left rfl (by omega))) ?_
                    refine Sd.quiet 4 _ _ rfl rfl rfl rfl rfl (QOp.ok (fun X => OpOk.load rfl rfl rfl (Rd.cell rd.left.left.left.left (by first | assumption | rfl)))) ?_
                    refine Sd.quiet 5 _ _ rfl rfl rfl rfl rfl (QOp.ok (fun X => OpOk.move rfl)) ?_
                    refine Sd.quiet 6 _ _ rfl rfl rfl rfl rfl (QOp.ok (fun X => OpOk.idxN rfl ti63 rfl hrd.left.left.left.left rfl (by omega))) ?_
                    refine Sd.quiet 7 _ _ rfl rfl rfl rfl rfl (QOp.ok (fun X => OpOk.fieldAddrA fld63_0 rfl)) ?_
                    refine Sd.quiet 8 _ _ rfl rfl rfl rfl rfl (QOp.ok (fun X => OpOk.loadFl1 default rfl rfl rfl hrd.left.left.left.left (fun _ => rfl) rfl (by omega) rfl)) ?_
                    refine Sd.quiet 9 _ _ rfl rfl rfl rfl rfl (QOp.ok (fun X => OpOk.move rfl)) ?_
                    refine Sd.quiet 10 _ _ rfl rfl rfl rfl rfl (QOp.ok (fun X => OpOk.move rfl)) ?_
                    refine Sd.quiet 11 _ _ rfl rfl rfl rfl rfl (QOp.ok (fun X => OpOk.idx1N rfl ti50 rfl rd.left.left.left.left rfl (by omega))) ?_
                    refine Sd.quiet 12 _ _ rfl rfl rfl rfl rfl (QOp.ok (fun X => OpOk.load rfl rfl rfl (Rd.cell rd.left.left.left.left (by first | assumption | rfl)))) ?_
                    refine Sd.quiet 13 _ _ rfl rfl rfl rfl rfl (QOp.ok (fun X => OpOk.move rfl)) ?_
                    refine Sd.quiet 14 _ _ rfl rfl rfl rfl rfl (QOp.ok (fun X => OpOk.idxN rfl ti63 rfl hrd.left.left.left.left rfl (by omega))) ?_
                    refine Sd.quiet 15 _ _ rfl rfl rfl rfl rfl (QOp.ok (fun X => OpOk.fieldAddrA fld63_1 rfl)) ?_
                    refine Sd.quiet 16 _ _ rfl rfl rfl rfl rfl (QOp.ok (fun X => OpOk.loadFl1 default rfl rfl rfl hrd.left.left.left.left (fun _ => rfl) rfl (by omega) rfl)) ?_
                    refine Sd.quiet 18 _ _ rfl rfl rfl rfl rfl (QOp.ok (fun X => OpOk.move rfl)) ?_
                    refine Sd.quiet 19 _ _ rfl rfl rfl rfl rfl (QOp.ok (fun X => OpOk.move rfl)) ?_
                    refine Sd.quiet 20 _ _ rfl rfl rfl rfl rfl (QOp.ok (fun X => OpOk.move rfl)) ?_
                    refine Sd.quiet 21 _ _ rfl rfl rfl rfl rfl (QOp.ok (fun X => OpOk.idx1N rfl ti50 rfl rd.left.left.left.left rfl (by omega))) ?_
                    refine Sd.quiet 22 _ _ rfl rfl rfl rfl rfl (QOp.ok (fun X => OpOk.load rfl rfl rfl (Rd.cell rd.left.left.left.left (by first | assumption | rfl)))) ?_
                    refine Sd.quiet 23 _ _ rfl rfl rfl rfl rfl (QOp.ok (fun X => OpOk.move rfl)) ?_
                    refine Sd.quiet 24 _ _ rfl rfl rfl rfl rfl (QOp.ok (fun X => OpOk.idxN rfl ti63 rfl hrd.left.left.left.left rfl (by omega))) ?_
                    refine Sd.quiet 25 _ _ rfl rfl rfl rfl rfl (QOp.ok (fun X => OpOk.fieldAddrA fld63_0 rfl)) ?_
                    refine Sd.quiet 26 _ _ rfl rfl rfl rfl rfl (QOp.ok (fun X => OpOk.loadFl1 default rfl rfl rfl hrd.left.left.left.left (fun _ => rfl) rfl (by omega) rfl)) ?_
                    refine Sd.quiet 27 _ _ rfl rfl rfl rfl rfl (QOp.ok (fun X => OpOk.move rfl)) ?_
                    refine Sd.quiet 28 _ _ rfl rfl rfl rfl rfl (QOp.ok (fun X => OpOk.move rfl)) ?_
                    refine Sd.quiet 29 _ _ rfl rfl rfl rfl rfl (QOp.ok (fun X => OpOk.idx1N rfl ti50 rfl rd.left.left.left.left rfl (by omega))) ?_
                    refine Sd.quiet 30 _ _ rfl rfl rfl rfl rfl (QOp.ok (fun X => OpOk.load rfl rfl rfl (Rd.cell rd.left.left.left.left (by first | assumption | rfl)))) ?_
                    refine Sd.quiet 31 _ _ rfl rfl rfl rfl rfl (QOp.ok (fun X => OpOk.move rfl)) ?_
                    refine Sd.quiet 32 _ _ rfl rfl rfl rfl rfl (QOp.ok (fun X => OpOk.idxN rfl ti63 rfl hrd.left.left.left.left rfl (by omega))) ?_
                    refine Sd.quiet 33 _ _ rfl rfl rfl rfl rfl (QOp.ok (fun X => OpOk.fieldAddrA fld63_1 rfl)) ?_
                    refine Sd.quiet 34 _ _ rfl rfl rfl rfl rfl (QOp.ok (fun X => OpOk.loadFl1 default rfl rfl rfl hrd.left.left.left.left (fun _ => rfl) rfl (by omega) rfl)) ?_
                    refine Sd.quiet 35 _ _ rfl rfl rfl rfl rfl (QOp.call cal56 rfl (fun X => s56 (Rd.right rdr8).left.left.left)) ?_
                    refine Sd.splitBF (decide_eq_false (by first | omega | assumption)) ?_
                    (refine Sd.exec 17 rfl rfl rfl rfl rfl ?hrest (by rfl) (fun Xv3 Kv3 hKv3 => ?_); case hrest => kernel_rfl)
                    refine RunL.mem (fl2 (sep_emp _) (flS (flS (flS (flS rfl))))) ?_
                    refine RunL.call cal39 rfl (s39) rfl (fun vv4 Av4 hv4 => ?_)
                    obtain ⟨rfl, rfl⟩ := hv4
                    refine Sd.ret hKv3 (Eq.trans rfl (gp2 (sep_emp _).symm (asg (asg (asg (asg rfl)))))) ⟨_, (emp_sep _).symm⟩ ?_
                    refine Sd.splitBF (decide_eq_false (by first | omega | assumption)) ?_
                    refine Sd.quiet 36 _ _ rfl rfl rfl rfl rfl (QOp.ok (fun X => OpOk.neqB rfl rfl rfl)) ?_
                    (apply Sd.tail; case hall => kernel_rfl)
                    refine RunL.mem (fl2 (flS (flS (flS (flS rfl)))) (sep_emp _)) ?_
                    refine RunL.nil ?_
                    refine Run.condF rfl ?_
                    refine Run.skip ?_
                    refine Run.inBlock ?_
                    refine Run.region ?_
                    refine RunL.ok (OpOk.move rfl) rfl ?_
                    refine RunL.ok (OpOk.addN _ 1 rfl rfl rfl rfl (by omega)) rfl ?_
                    refine RunL.ok (OpOk.assign rfl) rfl ?_
                    refine RunL.nil ?_
                    refine Run.jump ((ih3 (k + 1, _) (by dsimp only; omega) (by dsimp only; omega))) ⟨rfl, rfl, rfl, rfl, rfl, rfl, trivial⟩ (Grew.of (Eq.trans (frc (frl (frl (frl (frl (frl rfl))))) (frc (frl (frl (frl (frl (frl rfl))))) rfl)) as1) (Grew.refl _))
                · clear ih3
                  refine Run.seq ?_
                  refine Run.seq ?_
                  refine Run.region ?_
                  refine RunL.ok (OpOk.move rfl) rfl ?_
                  refine RunL.ok (OpOk.move rfl) rfl ?_
                  refine RunL.ok (OpOk.move rfl) rfl ?_
                  refine RunL.ok (OpOk.idx1N rfl ti50 rfl rd.left.left.left.left.left.left.left rfl (by omega)) rfl ?_
                  refine RunL.ok (OpOk.load rfl rfl rfl (Rd.cell rd.left.left.left.left.left.left.left (by first | assumption | rfl))) rfl ?_
                  refine RunL.ok (OpOk.lenR rfl rfl hrd.left.left.left.left.left.left.left rfl) rfl ?_
                  refine RunL.ok (OpOk.asF (OpOk.lss rfl rfl) (by omega)) rfl ?_
                  refine RunL.nil ?_
                  refine Run.condF rfl ?_
                  refine Run.exit rfl ?_
                  refine Run.inBlock ?_
                  refine Run.region ?_
                  refine RunL.ok (OpOk.move rfl) rfl ?_
                  refine RunL.ok (OpOk.addN _ 1 rfl rfl rfl rfl (by omega)) rfl ?_
                  refine RunL.ok (OpOk.assign rfl) rfl ?_
                  refine RunL.nil ?_
                  refine Run.jump ((ih (i + 1, _, z4, b3, all2.map keyP, z5, z6, y9, all2) ⟨by dsimp only; omega, by dsimp only; omega, hb3l, hb3i, hb3s, hb30, rfl, z8, hlB, haB, hinB, hmB, hrel3⟩ (by dsimp only; omega))) ⟨rfl, rfl, rfl, rfl, rfl, trivial⟩ (Grew.of (Eq.trans (frc (frl rfl) (frc (frl rfl) (frc (frl rfl) (frc (frl rfl) (frc (frl rfl) (frc (frl rfl) rfl)))))) (congrArg (· * _) (congrArg (· * _) (congrArg (· * _) (congrArg (· * _) (congrArg (· * _) (congrArg (· * _) as1))))))) (Grew.refl _))
      · clear ih
        refine Run.seq ?_
        refine Run.seq ?_
        refine Run.region ?_
        refine RunL.ok (OpOk.move rfl) rfl ?_
        refine RunL.ok (OpOk.move rfl) rfl ?_
        refine RunL.ok (OpOk.lenR rfl rfl rd.left.left.left.left.left.left.left rfl) rfl ?_
        refine RunL.ok (OpOk.asT (OpOk.lss rfl rfl) (by omega)) rfl ?_
        refine RunL.ok (OpOk.move rfl) rfl ?_
        refine RunL.on rfl rfl ?_
        refine RunL.ok (OpOk.move rfl) rfl ?_
        refine RunL.on rfl rfl ?_
        refine RunL.ok (OpOk.asF (OpOk.lss rfl rfl) (by omega)) rfl ?_
        refine RunL.ok (OpOk.pickT rfl rfl) rfl ?_
        refine RunL.nil ?_
        refine Run.condF rfl ?_
        refine Run.exit rfl ?_
        refine Run.seq ?_
        refine Run.region ?_
        refine RunL.ok (OpOk.assign rfl) rfl ?_
        refine RunL.nil ?_
        refine Run.ret1 Try.func12 rfl rfl ?_
        exact ⟨rfl, ⟨_, (asg (asg (asg (asg (asg (asg as1))))))⟩⟩
    · clear ih
      refine Run.seq ?_
      refine Run.seq ?_
      refine Run.region ?_
      refine RunL.ok (OpOk.move rfl) rfl ?_
      refine RunL.ok (OpOk.move rfl) rfl ?_
      refine RunL.ok (OpOk.lenR rfl rfl rd.left.left.left.left.left.left.left rfl) rfl ?_
      refine RunL.ok (OpOk.asF (OpOk.lss rfl rfl) (by omega)) rfl ?_
      refine RunL.ok (OpOk.move rfl) rfl ?_
      refine RunL.off rfl rfl rfl rfl ?_
      refine RunL.off rfl rfl rfl rfl ?_
      refine RunL.ok (OpOk.pickF rfl rfl) rfl ?_
      refine RunL.nil ?_
      refine Run.condF rfl ?_
      refine Run.exit rfl ?_
      refine Run.seq ?_
      refine Run.region ?_
      refine RunL.ok (OpOk.assign rfl) rfl ?_
      refine RunL.nil ?_
      refine Run.ret1 Try.func12 rfl rfl ?_
      exact ⟨rfl, ⟨_, (asg (asg (asg (asg (asg (asg as1))))))⟩⟩
end
end Go.Proofs.Ytegbfnibjgpbpaa
