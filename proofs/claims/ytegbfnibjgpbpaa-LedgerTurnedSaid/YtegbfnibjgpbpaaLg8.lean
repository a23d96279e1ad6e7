/- The law LedgerTurned, walked. -/
import Derived.Test.YtegbfnibjgpbpaaLg7
namespace Go.Proofs.Ytegbfnibjgpbpaa
open Go Go.Proofs
set_option maxRecDepth 100000
set_option maxHeartbeats 4000000
set_option linter.unusedSimpArgs false
/-- What an account is given. -/
def gets (k : Nat) (l : List Sh) : Int := (l.map fun s => if s.1.toNat = k then s.2 else 0).sum
theorem addsO_val {n : Nat} : ∀ {l : List Sh} {bal b : List Int}, addsO bal l = some b → bal.length = n → (∀ s ∈ l, okS n s = true) → ∀ k, k < n → b.getD k 0 = bal.getD k 0 + gets k l
  | [], bal, b, h, _, _, k, _ => by cases h; simp [gets]
  | s :: r, bal, b, h, hl, hok, k, hk => by
    simp only [addsO] at h
    split at h
    · have ih := addsO_val h (by rw [List.length_set]; exact hl) (fun q hq => hok q (by simp [hq])) k hk
      have hs := hok s (by simp)
      simp only [okS, Bool.and_eq_true, decide_eq_true_eq] at hs
      rw [ih]
      simp only [gets, List.map_cons, List.sum_cons]
      by_cases e : s.1.toNat = k
      · subst e
        rw [if_pos rfl, List.getD_eq_getElem?_getD, List.getElem?_set_self (by omega), Option.getD_some]
        omega
      · rw [if_neg e, List.getD_eq_getElem?_getD, List.getElem?_set_ne e, ← List.getD_eq_getElem?_getD]
        omega
    · cases h
def getsP (k : Nat) (ps : List Po) : Int := (ps.map fun p => gets k p.2.2.2).sum
theorem postF_val {n : Nat} {ks : List (Int × Int)} : ∀ {ps : List Po} {bal b : List Int} {fr : List (Int × Int)}, postF n ks bal fr ps = (0, b) → bal.length = n → ∀ k, k < n → b.getD k 0 = bal.getD k 0 + getsP k ps
  | [], bal, b, fr, h, _, k, _ => by cases h; simp [getsP]
  | p :: r, bal, b, fr, h, hl, k, hk => by
    simp only [postF] at h
    split at h
    · split at h
      · cases h
      · cases ha : addsO bal p.2.2.2 with
        | none => rw [ha] at h; cases h
        | some c =>
          rw [ha] at h
          have hr : rightB n p = true := ‹_›
          simp only [rightB, Bool.and_eq_true] at hr
          have h1 := addsO_val ha hl (fun s hs => List.all_eq_true.1 hr.1.2 s hs) k hk
          have h2 := postF_val h ((addsO_len ha).1.trans hl) k hk
          rw [h2, h1]
          simp only [getsP, List.map_cons, List.sum_cons]
          omega
    · cases h
theorem getsP_reverse (k : Nat) (ps : List Po) : getsP k ps.reverse = getsP k ps := by
  unfold getsP
  rw [List.map_reverse, List.sum_reverse]
section
variable {w0 : World} {A : Asn}
theorem ledgerTurned_spec {ops : Int} {u : Value} {ps : List Po} (rd : Rd w0 (old w0) u 3 ps.length (Fl encT63 ps)) (al : Alls (GP w0) (old w0) ps) (hin : ∀ q ∈ ps, ∀ s ∈ q.2.2.2, inI s.2) (hm : ∀ q ∈ ps, q.2.2.2.length ≤ 8796093022208) :
    Spec Try.prog w0 8 [.int .i64 ops, u] (old w0) (fun v' A' => v' = .bool true ∧ Grew (old w0) A') := by
  obtain ⟨ht1, ht2⟩ := tmod4 ops
  have hmx := rd.max
  rcases Nat.lt_or_ge 100 ps.length with hbig | hsm
  · refine Spec.of_run [(0, .int .i64 ops), (1, u)] Try.func8 rfl (Nat.le_of_ble_eq_true rfl) (by repeat (first | exact trivial | refine ⟨rfl, ?_⟩)) ?_
    refine Run.seq ?_
    refine Run.region ?_
    refine RunL.ok (OpOk.assign rfl) rfl ?_
    refine RunL.nil ?_
    refine Run.seq ?_
    refine Run.seq ?_
    refine Run.region ?_
    refine RunL.call cal32 rfl (s32) rfl (fun vx1 Ax1 hx1 => ?_)
    obtain ⟨x2, ⟨rfl, rfl⟩⟩ := hx1
    refine RunL.ok (OpOk.not rfl) rfl ?_
    refine RunL.ok (OpOk.move rfl) rfl ?_
    refine RunL.on rfl rfl ?_
    refine RunL.ok (OpOk.move rfl) rfl ?_
    refine RunL.on rfl rfl ?_
    refine RunL.ok (OpOk.lenR rfl rfl rd.left rfl) rfl ?_
    refine RunL.on rfl rfl ?_
    refine RunL.ok (OpOk.asT (OpOk.gtr rfl rfl) (by omega)) rfl ?_
    refine RunL.ok (OpOk.pickF rfl rfl) rfl ?_
    refine RunL.nil ?_
    refine Run.condT rfl ?_
    refine Run.seq ?_
    refine Run.region ?_
    refine RunL.call cal32 rfl (s32) rfl (fun vx3 Ax3 hx3 => ?_)
    obtain ⟨x4, ⟨rfl, rfl⟩⟩ := hx3
    refine RunL.ok (OpOk.assign rfl) rfl ?_
    refine RunL.nil ?_
    refine Run.ret1 Try.func8 rfl rfl ?_
    exact ⟨rfl, ⟨_, (asg as1)⟩⟩
  · have hL0 : ps.length ≤ 1099511627776 := by omega
    refine Spec.of_run [(0, .int .i64 ops), (1, u)] Try.func8 rfl (Nat.le_of_ble_eq_true rfl) (by repeat (first | exact trivial | refine ⟨rfl, ?_⟩)) ?_
    refine Run.seq ?_
    refine Run.region ?_
    refine RunL.ok (OpOk.assign rfl) rfl ?_
    refine RunL.nil ?_
    refine Run.seq ?_
    refine Run.seq ?_
    refine Run.region ?_
    refine RunL.call cal32 rfl (s32) rfl (fun vx1 Ax1 hx1 => ?_)
    obtain ⟨x2, ⟨rfl, rfl⟩⟩ := hx1
    refine RunL.ok (OpOk.not rfl) rfl ?_
    refine RunL.ok (OpOk.move rfl) rfl ?_
    refine RunL.on rfl rfl ?_
    refine RunL.ok (OpOk.move rfl) rfl ?_
    refine RunL.on rfl rfl ?_
    refine RunL.ok (OpOk.lenR rfl rfl rd.left rfl) rfl ?_
    refine RunL.on rfl rfl ?_
    refine RunL.ok (OpOk.asF (OpOk.gtr rfl rfl) (by omega)) rfl ?_
    refine RunL.ok (OpOk.pickF rfl rfl) rfl ?_
    refine RunL.nil ?_
    refine Run.condF rfl ?_
    refine Run.skip ?_
    refine Run.seq ?_
    refine Run.region ?_
    refine RunL.ok (OpOk.move rfl) rfl ?_
    refine RunL.ok (OpOk.rem rfl rfl (by decide) rfl) rfl ?_
    refine RunL.ok (OpOk.add rfl rfl (wrapI (by omega) (by omega))) rfl ?_
    refine RunL.ok (OpOk.rem rfl rfl (by decide) (tmodI (by omega))) rfl ?_
    refine RunL.ok (OpOk.add rfl rfl (wrapI (by omega) (by omega))) rfl ?_
    refine RunL.ok (OpOk.assign rfl) rfl ?_
    refine RunL.nil ?_
    refine Run.seq ?_
    refine Run.region ?_
    refine RunL.ok (OpOk.move rfl) rfl ?_
    refine RunL.call cal33 rfl (s33c (by omega) (by omega)) rfl (fun vx4 Ax4 hx4 => ?_)
    obtain ⟨x5, ⟨x6, ⟨x7, ⟨rfl, rfl⟩⟩⟩⟩ := hx4
    refine RunL.ok (OpOk.move rfl) rfl ?_
    refine RunL.ok (OpOk.ext20 rfl) rfl ?_
    refine RunL.ok (OpOk.ext21 rfl) rfl ?_
    refine RunL.ok (OpOk.assign rfl) rfl ?_
    refine RunL.ok (OpOk.assign rfl) rfl ?_
    refine RunL.nil ?_
    refine Run.seq ?_
    refine Run.region ?_
    refine RunL.ok (OpOk.move rfl) rfl ?_
    refine RunL.know (fun w s => (s.conv rfl).ownsP0) (fun alx8 => ?_)
    refine RunL.call cal33 rfl (s33c (by omega) (by omega)) rfl (fun vx10 Ax10 hx10 => ?_)
    obtain ⟨x11, ⟨x12, ⟨x13, ⟨rfl, rfl⟩⟩⟩⟩ := hx10
    refine RunL.ok (OpOk.move rfl) rfl ?_
    refine RunL.ok (OpOk.ext20 rfl) rfl ?_
    refine RunL.ok (OpOk.ext21 rfl) rfl ?_
    refine RunL.ok (OpOk.assign rfl) rfl ?_
    refine RunL.ok (OpOk.assign rfl) rfl ?_
    refine RunL.nil ?_
    refine Run.seq ?_
    refine Run.seq ?_
    refine Run.region ?_
    refine RunL.ok (OpOk.move rfl) rfl ?_
    refine RunL.ok (OpOk.eqlPN rfl rfl) rfl ?_
    refine RunL.ok (OpOk.move rfl) rfl ?_
    refine RunL.on rfl rfl ?_
    refine RunL.ok (OpOk.move rfl) rfl ?_
    refine RunL.on rfl rfl ?_
    refine RunL.ok (OpOk.eqlPN rfl rfl) rfl ?_
    refine RunL.ok (OpOk.pickF rfl rfl) rfl ?_
    refine RunL.ok (OpOk.move rfl) rfl ?_
    refine RunL.on rfl rfl ?_
    refine RunL.ok (OpOk.move rfl) rfl ?_
    refine RunL.on rfl rfl ?_
    refine RunL.ok (OpOk.as (c := false) (OpOk.neq rfl rfl) (by rw [decide_eq_true (by omega)]; rfl)) rfl ?_
    refine RunL.ok (OpOk.pickF rfl rfl) rfl ?_
    refine RunL.ok (OpOk.move rfl) rfl ?_
    refine RunL.on rfl rfl ?_
    refine RunL.ok (OpOk.move rfl) rfl ?_
    refine RunL.on rfl rfl ?_
    refine RunL.ok (OpOk.as (c := false) (OpOk.neq rfl rfl) (by rw [decide_eq_true (by omega)]; rfl)) rfl ?_
    refine RunL.ok (OpOk.pickF rfl rfl) rfl ?_
    refine RunL.nil ?_
    refine Run.condF rfl ?_
    refine Run.skip ?_
    refine Run.seq ?_
    refine Run.region ?_
    refine RunL.ok (OpOk.assign rfl) rfl ?_
    refine RunL.nil ?_
    refine Run.seq ?_
    refine Run.seq ?_
    refine Run.region ?_
    refine RunL.ok (OpOk.move rfl) rfl ?_
    refine RunL.ok (OpOk.lenR rfl rfl rd.left.left.left.left.left.left.left.left.left.left.left rfl) rfl ?_
    refine RunL.ok (OpOk.sub rfl rfl (wrapI (by omega) (by omega))) rfl ?_
    refine RunL.ok (OpOk.assign rfl) rfl ?_
    refine RunL.nil ?_
    refine Run.block ?_
    have hn1 : 1 ≤ 1 + (ops.tmod 4 + 4) % 4 := by omega
    have hn4 : 1 + (ops.tmod 4 + 4) % 4 ≤ 4 := by omega
    generalize hn : 1 + (ops.tmod 4 + 4) % 4 = n0 at *
    obtain ⟨n, rfl⟩ := Int.eq_ofNat_of_zero_le (show 0 ≤ n0 by omega)
    simp only [Int.toNat_natCast] at *
    have hN5 : n + 1 ≤ 5 := by omega
    have hz := zeros_in (n + 1)
    have hzl : (List.replicate (n + 1) (0 : Int)).length = n + 1 := by simp
    refine Run.ent (Ent.ownNil' _ 63 3 (Fl encT63 ([] : List Po)) rfl) ?_
    refine Run.jump ((Run.loopJ (X := Nat × Asn × Value × List Po) (fun x => [(11, .int .i64 ((x.1 : Int) - 1)), (10, x.2.2.1), (8, .pointer (some ⟨x11, 0, none⟩)), (6, .pointer (some ⟨x5, 0, none⟩)), (5, .int .i64 (n : Int)), (1, u)]) (fun x => old w0 * x.2.1 * pts x5 (.cells #[x6, .map (some x7), (Value.slice none 0 0)] 109 (0, 0)) * own 3 1 x6 (n + 1) (I ((List.replicate (n + 1) 0))) * setA x7 ((List.nil : List (Int × Int))) * own 63 3 (Value.slice none 0 0) ((List.nil : List Po)).length (Fl encT63 ((List.nil : List Po))) * ownsP ((List.nil : List Po)) * pts x11 (.cells #[x12, .map (some x13), (Value.slice none 0 0)] 109 (0, 0)) * own 3 1 x12 (n + 1) (I ((List.replicate (n + 1) 0))) * setA x13 ((List.nil : List (Int × Int))) * own 63 3 (Value.slice none 0 0) ((List.nil : List Po)).length (Fl encT63 ((List.nil : List Po))) * ownsP ((List.nil : List Po)) * own 63 3 x.2.2.1 x.2.2.2.length (Fl encT63 x.2.2.2)) (fun x => x.1 ≤ ps.length ∧ x.2.2.2 = (ps.drop x.1).reverse) (fun x => x.1) (ps.length, _, .slice none 0 0, []) ⟨Nat.le_refl _, by simp⟩ (fun x hx ih => ?_))) ⟨rfl, rfl, rfl, rfl, rfl, rfl, trivial⟩ (Grew.of (Eq.trans (frc (frl (frl rfl)) (frc (frl rfl) (frc (frl (frl (frl (frl (frl rfl))))) (frc (frl rfl) (frc (frl rfl) (frc (frl rfl) (frc (frl rfl) (frc rfl rfl)))))))) (congrArg (· * _) (congrArg (· * _) (congrArg (· * _) (congrArg (· * _) (congrArg (· * _) (congrArg (· * _) (congrArg (· * _) (congrArg (· * _) (congrArg (· * _) (congrArg (· * _) (congrArg (· * _) as1)))))))))))) (Grew.refl _))
    obtain ⟨j, J, v10, bk⟩ := x
    simp only at hx ih ⊢
    obtain ⟨hj, hbk⟩ := hx
    have hbl : bk.length = ps.length - j := by rw [hbk]; simp
    rcases Nat.eq_zero_or_pos j with hj0 | hj0
    · subst hj0
      clear ih
      rw [List.drop_zero] at hbk
      have alb : Alls (GP w0) (old w0) bk := ⟨fun p hp => al.at_ p (by rw [hbk] at hp; simpa using hp)⟩
      have hinb : ∀ q ∈ bk, ∀ s ∈ q.2.2.2, inI s.2 := fun q hq => hin q (by rw [hbk] at hq; simpa using hq)
      have hmb : ∀ q ∈ bk, q.2.2.2.length ≤ 8796093022208 := fun q hq => hm q (by rw [hbk] at hq; simpa using hq)
      have hLb : bk.length ≤ 1099511627776 := by omega
      refine Run.seq ?_
      refine Run.seq ?_
      refine Run.region ?_
      refine RunL.ok (OpOk.move rfl) rfl ?_
      refine RunL.ok (OpOk.asF (OpOk.geq rfl rfl) (by omega)) rfl ?_
      refine RunL.nil ?_
      refine Run.condF rfl ?_
      refine Run.exit rfl ?_
      refine Run.seq ?_
      refine Run.seq ?_
      refine Run.region ?_
      refine RunL.ok (OpOk.move rfl) rfl ?_
      refine RunL.ok (OpOk.move rfl) rfl ?_
      refine RunL.call cal35 rfl (s35 rd.left.left.left.left.left.left.left.left.left.left.left.left al.left.left.left.left.left.left.left.left.left.left.left.left (by assumption) (by assumption)) rfl (fun vy1 Ay1 hy1 => ?_)
      obtain ⟨y2, ⟨y3, ⟨y4, rfl⟩⟩⟩ := hy1
      refine RunL.know (fun w s => (s.conv rfl).ownsP0) (fun aly5 => ?_)
      refine RunL.know (fun w s => (s.conv (frl rfl)).ownRd0) (fun rdy6 => ?_)
      refine RunL.mem (frc (frl (frl (frl (frl rfl)))) (frc (frl (frl (frl (frl rfl)))) (frc (frl (frl (frl (frl (frl (frl (frl (frl (frl rfl))))))))) (frc (frl (frl (frl (frl (frl (frl (frl (frl (frl rfl))))))))) (frc (frl (frl (frl (frl (frl (frl (frl (frl (frl rfl))))))))) rfl))))) ?_
      have hyi := hin_ct y4 hin
      have hym := hm_ct y4 hm
      have hyl := len_ct y4
      have hyk := keyP_ct y4
      rcases hp : postF (n + 1) [] (List.replicate (n + 1) 0) [] ps with ⟨e, b2⟩
      have hpM : postF (n + 1) [] (List.replicate (n + 1) 0) [] y2 = (e, b2) := (postF_ct y4).trans hp
      have hLx : ([] : List Po).length + y2.length ≤ 1099511627776 := by simp only [List.length_nil]; omega
      rcases Decidable.em (e = 0) with he | he
      · subst he
        obtain ⟨hb2l, hb2i⟩ := postF_len hpM
        have hv2 := postF_val hp hzl
        refine RunL.call cal34 rfl (s34a (Rd.right rdy6).left (Alls.right aly5) (by assumption) (by assumption) (by assumption) (by assumption) (by assumption) (by assumption) (by assumption)) rfl (fun vz1 Az1 hz1 => ?_)
        obtain ⟨z2, ⟨z3, ⟨z4, ⟨z5, ⟨rfl, ⟨z6, rfl⟩⟩⟩⟩⟩⟩ := hz1
        refine RunL.ok (OpOk.as (c := false) (OpOk.neq rfl rfl) (by rw [decide_eq_true (by omega)]; rfl)) rfl ?_
        refine RunL.ok (OpOk.move rfl) rfl ?_
        refine RunL.on rfl rfl ?_
        refine RunL.ok (OpOk.move rfl) rfl ?_
        refine RunL.on rfl rfl ?_
        refine RunL.ok (OpOk.move rfl) rfl ?_
        refine RunL.on rfl rfl ?_
        refine RunL.know (fun w s => (s.conv rfl).ownsP0) (fun alz7 => ?_)
        refine RunL.know (fun w s => (s.conv (frl (frl (frl (frl (frl (frl (frl (frl (frl rfl)))))))))).ownRd0) (fun rdz8 => ?_)
        refine RunL.call cal35 rfl (s35 (Rd.right rdz8).left.left.left.left.left.left.left.left.left alb.left.left.left.left.left.left.left.left.left.left.left.left.left.left.left.left (by assumption) (by assumption)) rfl (fun vz9 Az9 hz9 => ?_)
        obtain ⟨z10, ⟨z11, ⟨z12, rfl⟩⟩⟩ := hz9
        refine RunL.on rfl rfl ?_
        refine RunL.know (fun w s => (s.conv rfl).ownsP0) (fun alz13 => ?_)
        refine RunL.know (fun w s => (s.conv (frl rfl)).ownRd0) (fun rdz14 => ?_)
        refine RunL.mem (frc (frl (frl (frl (frl (frl (frl (frl (frl (frl (frl (frl (frl (frl (frl (frl (frl rfl)))))))))))))))) (frc (frl (frl (frl (frl (frl (frl (frl (frl (frl (frl (frl (frl (frl (frl (frl (frl rfl)))))))))))))))) (frc (frl (frl (frl (frl (frl (frl (frl (frl (frl (frl (frl (frl (frl rfl))))))))))))) (frc (frl (frl (frl (frl (frl (frl (frl (frl (frl (frl (frl (frl (frl rfl))))))))))))) (frc (frl (frl (frl (frl (frl (frl (frl (frl (frl (frl (frl (frl (frl rfl))))))))))))) rfl))))) ?_
        have hzi := hin_ct z12 hinb
        have hzm := hm_ct z12 hmb
        have hzlen := len_ct z12
        have hzk := keyP_ct z12
        have h4l := len_ct (ps := y2) z6
        have h4m := hm_ct (ps := y2) z6 hym
        rcases hp3 : postF (n + 1) [] (List.replicate (n + 1) 0) [] bk with ⟨e3, b3⟩
        have hpB : postF (n + 1) [] (List.replicate (n + 1) 0) [] z10 = (e3, b3) := (postF_ct z12).trans hp3
        have hLz : ([] : List Po).length + z10.length ≤ 1099511627776 := by simp only [List.length_nil]; omega
        rcases Decidable.em (e3 = 0) with he3 | he3
        · subst he3
          obtain ⟨hb3l, hb3i⟩ := postF_len hpB
          have hv3 := postF_val hp3 hzl
          refine RunL.call cal34 rfl (s34a (Rd.right rdz14).left (Alls.right alz13) (by assumption) (by assumption) (by assumption) (by assumption) (by assumption) (by assumption) (by assumption)) rfl (fun vt1 At1 ht1 => ?_)
          obtain ⟨t2, ⟨t3, ⟨t4, ⟨t5, ⟨rfl, ⟨t6, rfl⟩⟩⟩⟩⟩⟩ := ht1
          refine RunL.on rfl rfl ?_
          refine RunL.ok (OpOk.as (c := false) (OpOk.neq rfl rfl) (by rw [decide_eq_true (by omega)]; rfl)) rfl ?_
          refine RunL.ok (OpOk.pickF rfl rfl) rfl ?_
          refine RunL.nil ?_
          refine Run.condF rfl ?_
          refine Run.skip ?_
          refine Run.seq ?_
          refine Run.seq ?_
          refine Run.region ?_
          refine RunL.ok (OpOk.assign rfl) rfl ?_
          refine RunL.nil ?_
          refine Run.block ?_
          refine Run.jump ((Run.loopJ (X := Nat) (fun k => [(12, .int .i64 (k : Int)), (8, .pointer (some ⟨x11, 0, none⟩)), (6, .pointer (some ⟨x5, 0, none⟩)), (5, .int .i64 (n : Int)), (1, u)]) (fun _ => old w0 * J * pts x5 (.cells #[z2, .map (some x7), z3] 109 (0, 0)) * own 3 1 z2 (n + 1) (I (b2)) * setA x7 (([] ++ List.map keyP y2)) * own 63 3 z3 (z4).length (Fl encT63 (z4)) * ownsP (z4) * pts x11 (.cells #[t2, .map (some x13), t3] 109 (0, 0)) * own 3 1 t2 (n + 1) (I (b3)) * setA x13 (([] ++ List.map keyP z10)) * own 63 3 t3 (t4).length (Fl encT63 (t4)) * ownsP (t4)) (fun k => k ≤ n + 2) (fun k => n + 2 - k) 0 (Nat.zero_le _) (fun k hk ih2 => ?_))) ⟨rfl, rfl, rfl, rfl, rfl, trivial⟩ (Grew.of (frc (frl (frl (frl (frl (frl rfl))))) (frc (frl (frl (frl (frl (frl rfl))))) (frc (frl (frl (frl (frl (frl rfl))))) (frc (frl (frl (frl (frl (frl rfl))))) (frc (frl (frl (frl (frl (frl (frl (frl (frl (frl (frl rfl)))))))))) (frc (frl (frl (frl (frl (frl (frl (frl (frl (frl (frl rfl)))))))))) (frc (frl (frl (frl (frl (frl (frl (frl (frl (frl (frl rfl)))))))))) (frc (frl (frl (frl (frl (frl (frl (frl (frl (frl (frl rfl)))))))))) (frc (frl (frl (frl (frl (frl (frl (frl (frl (frl (frl rfl)))))))))) rfl))))))))) (Grew.mul (Grew.mul (Grew.mul (Grew.mul (Grew.mul (Grew.mul (Grew.mul (Grew.mul (Grew.mul (Grew.refl _) _) _) _) _) _) _) _) _) _))
          rcases Nat.lt_or_ge (n + 1) k with hkn | hkn
          · clear ih2
            refine Run.seq ?_
            refine Run.seq ?_
            refine Run.region ?_
            refine RunL.ok (OpOk.move rfl) rfl ?_
            refine RunL.ok (OpOk.move rfl) rfl ?_
            refine RunL.ok (OpOk.addN _ 1 rfl rfl rfl rfl (by omega)) rfl ?_
            refine RunL.ok (OpOk.asF (OpOk.leq rfl rfl) (by omega)) rfl ?_
            refine RunL.nil ?_
            refine Run.condF rfl ?_
            refine Run.exit rfl ?_
            refine Run.seq ?_
            refine Run.seq ?_
            refine Run.region ?_
            refine RunL.ok (OpOk.assign rfl) rfl ?_
            refine RunL.nil ?_
            refine Run.block ?_
            refine Run.jump ((Run.loopJ (X := Nat) (fun i => [(13, .int .i64 (i : Int)), (8, .pointer (some ⟨x11, 0, none⟩)), (6, .pointer (some ⟨x5, 0, none⟩)), (1, u)]) (fun _ => old w0 * J * pts x5 (.cells #[z2, .map (some x7), z3] 109 (0, 0)) * own 3 1 z2 (n + 1) (I (b2)) * setA x7 (([] ++ List.map keyP y2)) * own 63 3 z3 (z4).length (Fl encT63 (z4)) * ownsP (z4) * pts x11 (.cells #[t2, .map (some x13), t3] 109 (0, 0)) * own 3 1 t2 (n + 1) (I (b3)) * setA x13 (([] ++ List.map keyP z10)) * own 63 3 t3 (t4).length (Fl encT63 (t4)) * ownsP (t4)) (fun i => i ≤ ps.length) (fun i => ps.length - i) 0 (Nat.zero_le _) (fun i hi ih3 => ?_))) ⟨rfl, rfl, rfl, rfl, trivial⟩ ((Grew.refl _))
            rcases Nat.lt_or_ge i ps.length with hlt | hge
            · have hm1 : ((ps.getD i default).1, (ps.getD i default).2.1) ∈ [] ++ List.map keyP y2 := by
                rw [hyk]
                exact List.mem_map.2 ⟨_, getD_mem hlt, rfl⟩
              have hm2 : ((ps.getD i default).1, (ps.getD i default).2.1) ∈ [] ++ List.map keyP z10 := by
                rw [hzk, hbk]
                exact List.mem_map.2 ⟨_, List.mem_reverse.2 (getD_mem hlt), rfl⟩
              refine Run.seq ?_
              refine Run.seq ?_
              refine Run.region ?_
              refine RunL.ok (OpOk.move rfl) rfl ?_
              refine RunL.ok (OpOk.move rfl) rfl ?_
              refine RunL.ok (OpOk.lenR rfl rfl rd.left.left.left.left.left.left.left.left.left.left.left rfl) rfl ?_
              refine RunL.ok (OpOk.asT (OpOk.lss rfl rfl) (by omega)) rfl ?_
              refine RunL.nil ?_
              refine Run.condT rfl ?_
              refine Run.skip ?_
              refine Run.seq ?_
              refine Run.block ?_
              refine Run.seq ?_
              refine Run.know (fun w s => (s.conv (frl (frl (frl (frl (frl (frl (frl (frl rfl))))))))).ownRd0) (fun rdq1 => ?_)
              refine Run.know (fun w s => (s.conv (frl (frl (frl (frl (frl (frl rfl))))))).ownRd0) (fun rdq2 => ?_)
              refine Run.know (fun w s => (s.conv (frl (frl (frl rfl)))).ownRd0) (fun rdq3 => ?_)
              refine Run.know (fun w s => (s.conv (frl rfl)).ownRd0) (fun rdq4 => ?_)
              (apply Run.drawD [] (by rfl) (Eq.trans rfl (asg (asg (asg (asg (asg (asg (asg (asg (asg rfl)))))))))); case hchk => kernel_rfl)
              refine Sd.quiet 0 _ _ rfl rfl rfl rfl rfl (QOp.ok (fun X => OpOk.move rfl)) ?_
              refine Sd.quiet 1 _ _ rfl rfl rfl rfl rfl (QOp.ok (fun X => OpOk.move rfl)) ?_
              refine Sd.quiet 2 _ _ rfl rfl rfl rfl rfl (QOp.ok (fun X => OpOk.move rfl)) ?_
              refine Sd.quiet 3 _ _ rfl rfl rfl rfl rfl (QOp.ok (fun X => OpOk.idxN rfl ti63 rfl rd.left.left.left rfl (by omega))) ?_
              refine Sd.quiet 4 _ _ rfl rfl rfl rfl rfl (QOp.ok (fun X => OpOk.fieldAddrA fld63_0 rfl)) ?_
              refine Sd.quiet 5 _ _ rfl rfl rfl rfl rfl (QOp.ok (fun X => OpOk.loadFl1 default rfl rfl rfl rd.left.left.left (fun _ => rfl) rfl (by omega) rfl)) ?_
              refine Sd.quiet 6 _ _ rfl rfl rfl rfl rfl (QOp.ok (fun X => OpOk.move rfl)) ?_
              refine Sd.quiet 7 _ _ rfl rfl rfl rfl rfl (QOp.ok (fun X => OpOk.move rfl)) ?_
              refine Sd.quiet 8 _ _ rfl rfl rfl rfl rfl (QOp.ok (fun X => OpOk.idxN rfl ti63 rfl rd.left.left.left rfl (by omega))) ?_
              refine Sd.quiet 9 _ _ rfl rfl rfl rfl rfl (QOp.ok (fun X => OpOk.fieldAddrA fld63_1 rfl)) ?_
              refine Sd.quiet 10 _ _ rfl rfl rfl rfl rfl (QOp.ok (fun X => OpOk.loadFl1 default rfl rfl rfl rd.left.left.left (fun _ => rfl) rfl (by omega) rfl)) ?_
              (refine Sd.exec 11 rfl rfl rfl rfl rfl ?hrest (by rfl) (fun Xq5 Kq5 hKq5 => ?_); case hrest => kernel_rfl)
              refine RunL.mem (fl2 (sep_emp _) (flS (flS (flS (flS (flS (flS (flS (flS (flS rfl)))))))))) ?_
              refine RunL.know (fun w s => (s.conv rfl).ownsP0) (fun alq6 => ?_)
              refine RunL.mem (frc (frl (frl (frl (frl (frl rfl))))) (frc (frl (frl (frl (frl (frl rfl))))) (frc (frl (frl (frl (frl (frl rfl))))) (frc (frl (frl (frl (frl (frl rfl))))) (frc (frl (frl (frl (frl (frl rfl))))) rfl))))) ?_
              refine RunL.call cal39 rfl (s39) rfl (fun vq7 Aq7 hq7 => ?_)
              obtain ⟨rfl, rfl⟩ := hq7
              refine Sd.ret hKq5 (Eq.trans (frc (frl (frl (frl (frl (frl rfl))))) (frc (frl (frl (frl (frl (frl rfl))))) (frc (frl (frl (frl (frl (frl rfl))))) (frc (frl (frl (frl (frl (frl rfl))))) (frc (frl (frl (frl (frl (frl rfl))))) rfl))))) (gp2 (asg (asg (asg (asg rfl)))) (asg (asg (asg (asg rfl)))))) ⟨_, (emp_sep _).symm⟩ ?_
              refine Sd.quiet 12 _ _ rfl rfl rfl rfl rfl (QOp.ok (fun X => OpOk.not rfl)) ?_
              refine Sd.quiet 13 _ _ rfl rfl rfl rfl rfl (QOp.ok (fun X => OpOk.move rfl)) ?_
              refine Sd.splitBF (bnF (by first | omega | with_reducible rfl | assumption)) ?_
              refine Sd.quiet 14 _ _ rfl rfl rfl rfl rfl (QOp.ok (fun X => OpOk.move rfl)) ?_
              refine Sd.quiet 15 _ _ rfl rfl rfl rfl rfl (QOp.ok (fun X => OpOk.move rfl)) ?_
              refine Sd.quiet 16 _ _ rfl rfl rfl rfl rfl (QOp.ok (fun X => OpOk.move rfl)) ?_
              refine Sd.quiet 17 _ _ rfl rfl rfl rfl rfl (QOp.ok (fun X => OpOk.idxN rfl ti63 rfl rd.left.left.left rfl (by omega))) ?_
              refine Sd.quiet 18 _ _ rfl rfl rfl rfl rfl (QOp.ok (fun X => OpOk.fieldAddrA fld63_0 rfl)) ?_
              refine Sd.quiet 19 _ _ rfl rfl rfl rfl rfl (QOp.ok (fun X => OpOk.loadFl1 default rfl rfl rfl rd.left.left.left (fun _ => rfl) rfl (by omega) rfl)) ?_
              refine Sd.quiet 20 _ _ rfl rfl rfl rfl rfl (QOp.ok (fun X => OpOk.move rfl)) ?_
              refine Sd.quiet 21 _ _ rfl rfl rfl rfl rfl (QOp.ok (fun X => OpOk.move rfl)) ?_
              refine Sd.quiet 22 _ _ rfl rfl rfl rfl rfl (QOp.ok (fun X => OpOk.idxN rfl ti63 rfl rd.left.left.left rfl (by omega))) ?_
              refine Sd.quiet 23 _ _ rfl rfl rfl rfl rfl (QOp.ok (fun X => OpOk.fieldAddrA fld63_1 rfl)) ?_
              refine Sd.quiet 24 _ _ rfl rfl rfl rfl rfl (QOp.ok (fun X => OpOk.loadFl1 default rfl rfl rfl rd.left.left.left (fun _ => rfl) rfl (by omega) rfl)) ?_
              (refine Sd.exec 25 rfl rfl rfl rfl rfl ?hrest (by rfl) (fun Xq8 Kq8 hKq8 => ?_); case hrest => kernel_rfl)
              refine RunL.mem (fl2 (flS (flS (flS (flS rfl)))) (flS (flS (flS (flS rfl))))) ?_
              refine RunL.call cal39 rfl (s39) rfl (fun vq9 Aq9 hq9 => ?_)
              obtain ⟨rfl, rfl⟩ := hq9
              refine Sd.ret hKq8 (Eq.trans rfl (gp2 (sep_emp _).symm (asg (asg (asg (asg (asg (asg (asg (asg (asg rfl))))))))))) ⟨_, (asg (asg (asg (asg rfl))))⟩ ?_
              refine Sd.quiet 26 _ _ rfl rfl rfl rfl rfl (QOp.ok (fun X => OpOk.not rfl)) ?_
              refine Sd.quiet 27 _ _ rfl rfl rfl rfl rfl (QOp.ok (fun X => OpOk.pickF rfl rfl)) ?_
              (apply Sd.tail; case hall => kernel_rfl)
              refine RunL.mem (fl2 (flS (flS (flS (flS (flS (flS (flS (flS (flS rfl))))))))) (sep_emp _)) ?_
              refine RunL.nil ?_
              refine Run.condNF rfl (by first | omega | with_reducible rfl | assumption) ?_
              refine Run.skip ?_
              refine Run.inBlock ?_
              refine Run.region ?_
              refine RunL.ok (OpOk.move rfl) rfl ?_
              refine RunL.ok (OpOk.addN _ 1 rfl rfl rfl rfl (by omega)) rfl ?_
              refine RunL.ok (OpOk.assign rfl) rfl ?_
              refine RunL.nil ?_
              refine Run.jump ((ih3 (i + 1) (by omega) (by omega))) ⟨rfl, rfl, rfl, rfl, trivial⟩ ((Grew.refl _))
            · clear ih3
              refine Run.seq ?_
              refine Run.seq ?_
              refine Run.region ?_
              refine RunL.ok (OpOk.move rfl) rfl ?_
              refine RunL.ok (OpOk.move rfl) rfl ?_
              refine RunL.ok (OpOk.lenR rfl rfl rd.left.left.left.left.left.left.left.left.left.left.left rfl) rfl ?_
              refine RunL.ok (OpOk.asF (OpOk.lss rfl rfl) (by omega)) rfl ?_
              refine RunL.nil ?_
              refine Run.condF rfl ?_
              refine Run.exit rfl ?_
              refine Run.seq ?_
              refine Run.region ?_
              refine RunL.ok (OpOk.move rfl) rfl ?_
              refine RunL.know (fun w s => (s.conv rfl).ownsP0) (fun alq1 => ?_)
              refine RunL.mem (frc (frl (frl (frl (frl (frl rfl))))) (frc (frl (frl (frl (frl (frl rfl))))) (frc (frl (frl (frl (frl (frl rfl))))) (frc (frl (frl (frl (frl (frl rfl))))) (frc (frl (frl (frl (frl (frl rfl))))) rfl))))) ?_
              refine RunL.call cal36 rfl (s36 (by assumption) (by omega)) rfl (fun vq2 Aq2 hq2 => ?_)
              obtain ⟨q3, ⟨q4, ⟨q5, rfl⟩⟩⟩ := hq2
              refine RunL.know (fun w s => (s.conv (frl rfl)).ownRd0) (fun rdq6 => ?_)
              refine RunL.ok (OpOk.lenR rfl rfl (Rd.right rdq6).left rfl) rfl ?_
              refine RunL.ok (OpOk.move rfl) rfl ?_
              refine RunL.ok (OpOk.lenR rfl rfl rd.left.left.left.left.left.left.left.left.left.left.left.left.left.left rfl) rfl ?_
              refine RunL.ok (OpOk.eql rfl rfl) rfl ?_
              refine RunL.ok (OpOk.assign rfl) rfl ?_
              refine RunL.nil ?_
              refine Run.ret1 Try.func8 rfl rfl ?_
              have hq3 := len_ct q5
              rw [decide_eq_true (by omega : (q3.length : Int) = (ps.length : Int))]
              exact ⟨rfl, ⟨_, (asg (asg (asg (asg (asg (asg (asg (asg (asg (asg (asg (asg (asg as1)))))))))))))⟩⟩
          · have heq : k < n + 1 → b2.getD (k : Int).toNat 0 = b3.getD (k : Int).toNat 0 := fun h => by
              rw [Int.toNat_natCast, hv2 k h, hv3 k h, hbk, getsP_reverse]
            rcases Nat.lt_or_ge k (n + 1) with hkl | hkl
            · have heq2 := heq hkl
              rcases Nat.eq_zero_or_pos k with hk0 | hk0
              · refine Run.seq ?_
                refine Run.seq ?_
                refine Run.region ?_
                refine RunL.ok (OpOk.move rfl) rfl ?_
                refine RunL.ok (OpOk.move rfl) rfl ?_
                refine RunL.ok (OpOk.addN _ 1 rfl rfl rfl rfl (by omega)) rfl ?_
                refine RunL.ok (OpOk.asT (OpOk.leq rfl rfl) (by omega)) rfl ?_
                refine RunL.nil ?_
                refine Run.condT rfl ?_
                refine Run.skip ?_
                refine Run.seq ?_
                refine Run.block ?_
                refine Run.seq ?_
                refine Run.region ?_
                refine RunL.ok (OpOk.move rfl) rfl ?_
                refine RunL.ok (OpOk.move rfl) rfl ?_
                refine RunL.know (fun w s => (s.conv rfl).ownsP0) (fun alr1 => ?_)
                refine RunL.mem (frc (frl (frl (frl (frl (frl rfl))))) (frc (frl (frl (frl (frl (frl rfl))))) (frc (frl (frl (frl (frl (frl rfl))))) (frc (frl (frl (frl (frl (frl rfl))))) (frc (frl (frl (frl (frl (frl rfl))))) rfl))))) ?_
                refine RunL.call cal37 rfl (s37b (by omega)) rfl (fun vr3 Ar3 hr3 => ?_)
                obtain ⟨rfl, rfl⟩ := hr3
                refine RunL.ok (OpOk.move rfl) rfl ?_
                refine RunL.ok (OpOk.move rfl) rfl ?_
                refine RunL.mem (frc (frl (frl (frl (frl (frl rfl))))) (frc (frl (frl (frl (frl (frl rfl))))) (frc (frl (frl (frl (frl (frl rfl))))) (frc (frl (frl (frl (frl (frl rfl))))) (frc (frl (frl (frl (frl (frl rfl))))) rfl))))) ?_
                refine RunL.call cal37 rfl (s37b (by omega)) rfl (fun vr5 Ar5 hr5 => ?_)
                obtain ⟨rfl, rfl⟩ := hr5
                refine RunL.ok (OpOk.as (c := false) (OpOk.neq rfl rfl) (by rw [decide_eq_true (by omega)]; rfl)) rfl ?_
                refine RunL.nil ?_
                refine Run.condF rfl ?_
                refine Run.skip ?_
                refine Run.inBlock ?_
                refine Run.region ?_
                refine RunL.ok (OpOk.move rfl) rfl ?_
                refine RunL.ok (OpOk.addN _ 1 rfl rfl rfl rfl (by omega)) rfl ?_
                refine RunL.ok (OpOk.assign rfl) rfl ?_
                refine RunL.nil ?_
                refine Run.jump ((ih2 (k + 1) (by omega) (by omega))) ⟨rfl, rfl, rfl, rfl, rfl, trivial⟩ ((Grew.refl _))
              · refine Run.seq ?_
                refine Run.seq ?_
                refine Run.region ?_
                refine RunL.ok (OpOk.move rfl) rfl ?_
                refine RunL.ok (OpOk.move rfl) rfl ?_
                refine RunL.ok (OpOk.addN _ 1 rfl rfl rfl rfl (by omega)) rfl ?_
                refine RunL.ok (OpOk.asT (OpOk.leq rfl rfl) (by omega)) rfl ?_
                refine RunL.nil ?_
                refine Run.condT rfl ?_
                refine Run.skip ?_
                refine Run.seq ?_
                refine Run.block ?_
                refine Run.seq ?_
                refine Run.region ?_
                refine RunL.ok (OpOk.move rfl) rfl ?_
                refine RunL.ok (OpOk.move rfl) rfl ?_
                refine RunL.know (fun w s => (s.conv rfl).ownsP0) (fun alr1 => ?_)
                refine RunL.mem (frc (frl (frl (frl (frl (frl rfl))))) (frc (frl (frl (frl (frl (frl rfl))))) (frc (frl (frl (frl (frl (frl rfl))))) (frc (frl (frl (frl (frl (frl rfl))))) (frc (frl (frl (frl (frl (frl rfl))))) rfl))))) ?_
                refine RunL.call cal37 rfl (s37a (by omega) (by omega)) rfl (fun vr2 Ar2 hr2 => ?_)
                obtain ⟨rfl, rfl⟩ := hr2
                refine RunL.ok (OpOk.move rfl) rfl ?_
                refine RunL.ok (OpOk.move rfl) rfl ?_
                refine RunL.mem (frc (frl (frl (frl (frl (frl rfl))))) (frc (frl (frl (frl (frl (frl rfl))))) (frc (frl (frl (frl (frl (frl rfl))))) (frc (frl (frl (frl (frl (frl rfl))))) (frc (frl (frl (frl (frl (frl rfl))))) rfl))))) ?_
                refine RunL.call cal37 rfl (s37a (by omega) (by omega)) rfl (fun vr3 Ar3 hr3 => ?_)
                obtain ⟨rfl, rfl⟩ := hr3
                refine RunL.ok (OpOk.as (c := false) (OpOk.neq rfl rfl) (by rw [decide_eq_true (by omega)]; rfl)) rfl ?_
                refine RunL.nil ?_
                refine Run.condF rfl ?_
                refine Run.skip ?_
                refine Run.inBlock ?_
                refine Run.region ?_
                refine RunL.ok (OpOk.move rfl) rfl ?_
                refine RunL.ok (OpOk.addN _ 1 rfl rfl rfl rfl (by omega)) rfl ?_
                refine RunL.ok (OpOk.assign rfl) rfl ?_
                refine RunL.nil ?_
                refine Run.jump ((ih2 (k + 1) (by omega) (by omega))) ⟨rfl, rfl, rfl, rfl, rfl, trivial⟩ ((Grew.refl _))
            · refine Run.seq ?_
              refine Run.seq ?_
              refine Run.region ?_
              refine RunL.ok (OpOk.move rfl) rfl ?_
              refine RunL.ok (OpOk.move rfl) rfl ?_
              refine RunL.ok (OpOk.addN _ 1 rfl rfl rfl rfl (by omega)) rfl ?_
              refine RunL.ok (OpOk.asT (OpOk.leq rfl rfl) (by omega)) rfl ?_
              refine RunL.nil ?_
              refine Run.condT rfl ?_
              refine Run.skip ?_
              refine Run.seq ?_
              refine Run.block ?_
              refine Run.seq ?_
              refine Run.region ?_
              refine RunL.ok (OpOk.move rfl) rfl ?_
              refine RunL.ok (OpOk.move rfl) rfl ?_
              refine RunL.know (fun w s => (s.conv rfl).ownsP0) (fun alr1 => ?_)
              refine RunL.mem (frc (frl (frl (frl (frl (frl rfl))))) (frc (frl (frl (frl (frl (frl rfl))))) (frc (frl (frl (frl (frl (frl rfl))))) (frc (frl (frl (frl (frl (frl rfl))))) (frc (frl (frl (frl (frl (frl rfl))))) rfl))))) ?_
              refine RunL.call cal37 rfl (s37b (by omega)) rfl (fun vr3 Ar3 hr3 => ?_)
              obtain ⟨rfl, rfl⟩ := hr3
              refine RunL.ok (OpOk.move rfl) rfl ?_
              refine RunL.ok (OpOk.move rfl) rfl ?_
              refine RunL.mem (frc (frl (frl (frl (frl (frl rfl))))) (frc (frl (frl (frl (frl (frl rfl))))) (frc (frl (frl (frl (frl (frl rfl))))) (frc (frl (frl (frl (frl (frl rfl))))) (frc (frl (frl (frl (frl (frl rfl))))) rfl))))) ?_
              refine RunL.call cal37 rfl (s37b (by omega)) rfl (fun vr5 Ar5 hr5 => ?_)
              obtain ⟨rfl, rfl⟩ := hr5
              refine RunL.ok (OpOk.as (c := false) (OpOk.neq rfl rfl) (by rw [decide_eq_true (by omega)]; rfl)) rfl ?_
              refine RunL.nil ?_
              refine Run.condF rfl ?_
              refine Run.skip ?_
              refine Run.inBlock ?_
              refine Run.region ?_
              refine RunL.ok (OpOk.move rfl) rfl ?_
              refine RunL.ok (OpOk.addN _ 1 rfl rfl rfl rfl (by omega)) rfl ?_
              refine RunL.ok (OpOk.assign rfl) rfl ?_
              refine RunL.nil ?_
              refine Run.jump ((ih2 (k + 1) (by omega) (by omega))) ⟨rfl, rfl, rfl, rfl, rfl, trivial⟩ ((Grew.refl _))
        · refine RunL.call cal34 rfl (s34b (Rd.right rdz14).left (Alls.right alz13) (by assumption) (by assumption) (by assumption) (by assumption) (by assumption) (by assumption) (by assumption) (by assumption)) rfl (fun vt2 At2 ht2 => ?_)
          obtain ⟨t3, ⟨rfl, rfl⟩⟩ := ht2
          refine RunL.on rfl rfl ?_
          refine RunL.ok (OpOk.as (c := true) (OpOk.neq rfl rfl) (by rw [decide_eq_false (by omega)]; rfl)) rfl ?_
          refine RunL.ok (OpOk.pickF rfl rfl) rfl ?_
          refine RunL.nil ?_
          refine Run.condT rfl ?_
          refine Run.seq ?_
          refine Run.region ?_
          refine RunL.ok (OpOk.assign rfl) rfl ?_
          refine RunL.nil ?_
          refine Run.ret1 Try.func8 rfl rfl ?_
          exact ⟨rfl, ⟨_, (asg (asg (asg (asg (asg (asg (asg (asg (asg (asg (asg (asg (asg (asg (asg (asg (asg (asg (asg as1)))))))))))))))))))⟩⟩
      · refine RunL.call cal34 rfl (s34b (Rd.right rdy6).left (Alls.right aly5) (by assumption) (by assumption) (by assumption) (by assumption) (by assumption) (by assumption) (by assumption) (by assumption)) rfl (fun vz2 Az2 hz2 => ?_)
        obtain ⟨z3, ⟨rfl, rfl⟩⟩ := hz2
        refine RunL.ok (OpOk.as (c := true) (OpOk.neq rfl rfl) (by rw [decide_eq_false (by omega)]; rfl)) rfl ?_
        refine RunL.ok (OpOk.move rfl) rfl ?_
        refine RunL.off rfl rfl rfl rfl ?_
        refine RunL.off rfl rfl rfl rfl ?_
        refine RunL.off rfl rfl rfl rfl ?_
        refine RunL.off rfl rfl rfl rfl ?_
        refine RunL.off rfl rfl rfl rfl ?_
        refine RunL.ok (OpOk.pickT rfl rfl) rfl ?_
        refine RunL.nil ?_
        refine Run.condT rfl ?_
        refine Run.seq ?_
        refine Run.region ?_
        refine RunL.ok (OpOk.assign rfl) rfl ?_
        refine RunL.nil ?_
        refine Run.ret1 Try.func8 rfl rfl ?_
        exact ⟨rfl, ⟨_, (asg (asg (asg (asg (asg (asg (asg (asg (asg (asg (asg (asg (asg (asg (asg as1)))))))))))))))⟩⟩
    · obtain ⟨k, rfl⟩ : ∃ k, j = k + 1 := ⟨j - 1, by omega⟩
      rw [show ((k + 1 : Nat) : Int) - 1 = (k : Int) by omega]
      have hk : k < ps.length := by omega
      have hbk2 : bk ++ [ps.getD k default] = (ps.drop k).reverse := by rw [drop_next hk, List.reverse_cons, hbk]
      refine Run.seq ?_
      refine Run.seq ?_
      refine Run.region ?_
      refine RunL.ok (OpOk.move rfl) rfl ?_
      refine RunL.ok (OpOk.asT (OpOk.geq rfl rfl) (by omega)) rfl ?_
      refine RunL.nil ?_
      refine Run.condT rfl ?_
      refine Run.skip ?_
      refine Run.seq ?_
      refine Run.block ?_
      refine Run.region ?_
      refine RunL.ok (OpOk.move rfl) rfl ?_
      refine RunL.ok (OpOk.move rfl) rfl ?_
      refine RunL.ok (OpOk.move rfl) rfl ?_
      refine RunL.ok (OpOk.idxN rfl ti63 rfl rd.left.left.left.left.left.left.left.left.left.left.left.left rfl (by omega)) rfl ?_
      refine RunL.ok (OpOk.loadFl default rfl rfl ti63 rfl rd.left.left.left.left.left.left.left.left.left.left.left.left (fun _ => rfl) rfl (by omega)) rfl ?_
      refine RunL.litFl (enc := encT63) [ps.getD k default] rfl ti63 rfl (fun _ => rfl) rfl rfl (by decide) (by decide) rfl (fun vy1 rdy1 => ?_)
      refine RunL.know (fun w s => (s.conv rfl).ownRd0) (fun rdy3 => ?_)
      refine RunL.appendF rfl ti63 rfl rfl rfl (frl rfl) (Rd.right rdy3) rfl (by decide) (by omega) (by simp only [maxLen]; omega) rfl (fun vy2 rdy2 => ?_)
      refine RunL.ok (OpOk.assign rfl) rfl ?_
      refine RunL.nil ?_
      refine Run.inBlock ?_
      refine Run.region ?_
      refine RunL.ok (OpOk.move rfl) rfl ?_
      refine RunL.ok (OpOk.sub rfl rfl (wrapI (by omega) (by omega))) rfl ?_
      refine RunL.ok (OpOk.assign rfl) rfl ?_
      refine RunL.nil ?_
      rw [show bk.length + 1 = (bk ++ [ps.getD k default]).length by simp]
      refine Run.jump ((ih (k, _, _, bk ++ [ps.getD k default]) ⟨by dsimp only; omega, hbk2⟩ (by dsimp only; omega))) ⟨rfl, rfl, rfl, rfl, rfl, rfl, trivial⟩ (Grew.of (Eq.trans (frc rfl (frc (frl rfl) (frc (frl rfl) (frc (frl rfl) (frc (frl rfl) (frc (frl rfl) (frc (frl rfl) (frc (frl rfl) (frc (frl rfl) (frc (frl rfl) (frc (frl rfl) rfl))))))))))) (congrArg (· * _) (congrArg (· * _) (congrArg (· * _) (congrArg (· * _) (congrArg (· * _) (congrArg (· * _) (congrArg (· * _) (congrArg (· * _) (congrArg (· * _) (congrArg (· * _) (congrArg (· * _) (asg as1))))))))))))) (Grew.refl _))
end
end Go.Proofs.Ytegbfnibjgpbpaa
