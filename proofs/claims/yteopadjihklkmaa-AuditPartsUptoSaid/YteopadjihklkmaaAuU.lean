/- The document's Totals; lists compared. -/
import Derived.Test.YteopadjihklkmaaAuT
namespace Go.Proofs.Yteopadjihklkmaa
open Go Go.Proofs
set_option maxRecDepth 100000
set_option maxHeartbeats 4000000
set_option linter.unusedSimpArgs false
theorem shs_part {ps : List Po} {i j : Nat} (hi : i < ps.length) : (shs (ps.take i) ++ (ps.getD i default).2.2.2.take j).length ≤ (shs ps).length := by
  have := shs_at_le hi
  rw [List.length_append, List.length_take]
  omega
section
variable {w0 : World} {A : Asn}
theorem s66c {u : Value} {m : Nat} {op : Int} {ps : List Po} (rd : Rd w0 A u 3 m (Fl encT126 ps)) (al : Alls (GP w0) A ps) (hin : ∀ q ∈ ps, ∀ s ∈ q.2.2.2, inI s.2) (hL : (shs ps).length ≤ 1048576) :
    Spec Try.prog w0 66 [u, .int .i64 op] A (fun v' A' => ∃ (z : Int) (b : Bool) (J : Asn), v' = .tuple #[.int .i64 z, .bool b] ∧ ((sumO 0 (amts op (shs ps)) = none ∧ z = 0 ∧ b = false) ∨ (sumO 0 (amts op (shs ps)) = some z ∧ b = true)) ∧ A' = A * J) := by
  have hl0 := rd.lenFl (fun _ => rfl) (by decide)
  subst hl0
  have hmx := rd.max
  have hins : ∀ s ∈ shs ps, inI s.2 := fun s hs => by
    obtain ⟨p, hp, hsp⟩ := mem_shs hs
    exact hin p hp s hsp
  have hin2 := amts_in (op := op) hins
  refine Spec.of_run [(0, u), (1, .int .i64 op)] Try.func66 rfl (Nat.le_of_ble_eq_true rfl) (by repeat (first | exact trivial | refine ⟨rfl, ?_⟩)) ?_
  refine Run.seq ?_
  refine Run.region ?_
  refine RunL.ok (OpOk.assign rfl) rfl ?_
  refine RunL.ok (OpOk.assign rfl) rfl ?_
  refine RunL.nil ?_
  refine Run.seq ?_
  refine Run.region ?_
  refine RunL.ok (OpOk.assign rfl) rfl ?_
  refine RunL.nil ?_
  refine Run.seq ?_
  refine Run.seq ?_
  refine Run.region ?_
  refine RunL.ok (OpOk.assign rfl) rfl ?_
  refine RunL.nil ?_
  refine Run.block ?_
  refine Run.ent (Ent.ownNil' _ 3 1 (I []) rfl) ?_
  refine Run.mem (congrArg (· * _) (sep_emp _).symm) ?_
  refine Run.jump ((Run.loopJ (X := Nat × Asn × Value) (fun x => [(7, .int .i64 (x.1 : Int)), (6, x.2.2), (0, u), (1, .int .i64 op)]) (fun x => A * x.2.1 * own 3 1 x.2.2 (amts op (shs (ps.take x.1))).length (I (amts op (shs (ps.take x.1))))) (fun x => x.1 ≤ ps.length) (fun x => ps.length - x.1) (0, _, .slice none 0 0) (Nat.zero_le _) (fun x hx ih => ?_))) ⟨rfl, rfl, rfl, rfl, trivial⟩ (Grew.of (Eq.trans (frc rfl rfl) (congrArg (· * _) as1)) (Grew.refl _))
  obtain ⟨i, J, v6⟩ := x
  simp only at hx ih ⊢
  rcases Nat.lt_or_ge i ps.length with hlt | hge
  · have rdi : Rd w0 A (ps.getD i default).2.2.1.1 2 (ps.getD i default).2.2.2.length (Fl encT132 (ps.getD i default).2.2.2) := al.get hlt
    have hsl := shs_at_le hlt
    refine Run.seq ?_
    refine Run.seq ?_
    refine Run.region ?_
    refine RunL.ok (OpOk.move rfl) rfl ?_
    refine RunL.ok (OpOk.move rfl) rfl ?_
    refine RunL.ok (OpOk.lenR rfl rfl rd.left.left rfl) rfl ?_
    refine RunL.ok (OpOk.asT (OpOk.lss rfl rfl) (by omega)) rfl ?_
    refine RunL.nil ?_
    refine Run.condT rfl ?_
    refine Run.skip ?_
    refine Run.seq ?_
    refine Run.block ?_
    refine Run.seq ?_
    refine Run.region ?_
    refine RunL.ok (OpOk.assign rfl) rfl ?_
    refine RunL.nil ?_
    refine Run.block ?_
    rw [show shs (ps.take i) = shs (ps.take i) ++ (ps.getD i default).2.2.2.take 0 by simp]
    refine Run.jump ((Run.loopJ (X := Nat × Asn × Value) (fun x => [(8, .int .i64 (x.1 : Int)), (7, .int .i64 (i : Int)), (6, x.2.2), (0, u), (1, .int .i64 op)]) (fun x => A * x.2.1 * own 3 1 x.2.2 (amts op (shs (ps.take i) ++ (ps.getD i default).2.2.2.take x.1)).length (I (amts op (shs (ps.take i) ++ (ps.getD i default).2.2.2.take x.1)))) (fun x => x.1 ≤ (ps.getD i default).2.2.2.length) (fun x => (ps.getD i default).2.2.2.length - x.1) (0, J, v6) (Nat.zero_le _) (fun x hx ih2 => ?_))) ⟨rfl, rfl, rfl, rfl, rfl, trivial⟩ ((Grew.refl _))
    obtain ⟨k, J2, v6⟩ := x
    simp only at hx ih2 ⊢
    have hz2 := Nat.le_trans (amts_len op (shs (ps.take i) ++ (ps.getD i default).2.2.2.take k)) (shs_part hlt)
    rcases Nat.lt_or_ge k (ps.getD i default).2.2.2.length with hkt | hkg
    · have e := amts_snoc op (shs (ps.take i) ++ (ps.getD i default).2.2.2.take k) ((ps.getD i default).2.2.2.getD k default)
      rw [List.append_assoc, ← take_next hkt] at e
      rcases Decidable.em (((ps.getD i default).2.2.2.getD k default).1 = op) with hc | hc
      · rw [if_pos hc] at e
        refine Run.seq ?_
        refine Run.seq ?_
        refine Run.region ?_
        refine RunL.ok (OpOk.move rfl) rfl ?_
        refine RunL.ok (OpOk.move rfl) rfl ?_
        refine RunL.ok (OpOk.move rfl) rfl ?_
        refine RunL.ok (OpOk.idxN rfl ti126 rfl rd.left.left rfl (by omega)) rfl ?_
        refine RunL.ok (OpOk.fieldAddrA fld126_2 rfl) rfl ?_
        refine RunL.ok (OpOk.loadFl1 default rfl rfl rfl rd.left.left (fun _ => rfl) rfl (by omega) rfl) rfl ?_
        refine RunL.ok (OpOk.lenR rfl rfl rdi.left.left rfl) rfl ?_
        refine RunL.ok (OpOk.asT (OpOk.lss rfl rfl) (by omega)) rfl ?_
        refine RunL.nil ?_
        refine Run.condT rfl ?_
        refine Run.skip ?_
        refine Run.seq ?_
        refine Run.block ?_
        refine Run.seq ?_
        refine Run.region ?_
        refine RunL.ok (OpOk.move rfl) rfl ?_
        refine RunL.ok (OpOk.move rfl) rfl ?_
        refine RunL.ok (OpOk.idxN rfl ti126 rfl rd.left.left rfl (by omega)) rfl ?_
        refine RunL.ok (OpOk.fieldAddrA fld126_2 rfl) rfl ?_
        refine RunL.ok (OpOk.loadFl1 default rfl rfl rfl rd.left.left (fun _ => rfl) rfl (by omega) rfl) rfl ?_
        refine RunL.ok (OpOk.move rfl) rfl ?_
        refine RunL.ok (OpOk.idxN rfl ti132 rfl rdi.left.left rfl (by omega)) rfl ?_
        refine RunL.ok (OpOk.fieldAddrA fld132_0 rfl) rfl ?_
        refine RunL.ok (OpOk.loadFl1 default rfl rfl rfl rdi.left.left (fun _ => rfl) rfl (by omega) rfl) rfl ?_
        refine RunL.ok (OpOk.move rfl) rfl ?_
        refine RunL.ok (OpOk.asT (OpOk.eql rfl rfl) (by omega)) rfl ?_
        refine RunL.nil ?_
        refine Run.condT rfl ?_
        refine Run.region ?_
        refine RunL.ok (OpOk.move rfl) rfl ?_
        refine RunL.ok (OpOk.move rfl) rfl ?_
        refine RunL.ok (OpOk.move rfl) rfl ?_
        refine RunL.ok (OpOk.idxN rfl ti126 rfl rd.left.left rfl (by omega)) rfl ?_
        refine RunL.ok (OpOk.fieldAddrA fld126_2 rfl) rfl ?_
        refine RunL.ok (OpOk.loadFl1 default rfl rfl rfl rd.left.left (fun _ => rfl) rfl (by omega) rfl) rfl ?_
        refine RunL.ok (OpOk.move rfl) rfl ?_
        refine RunL.ok (OpOk.idxN rfl ti132 rfl rdi.left.left rfl (by omega)) rfl ?_
        refine RunL.ok (OpOk.fieldAddrA fld132_1 rfl) rfl ?_
        refine RunL.ok (OpOk.loadFl1 default rfl rfl rfl rdi.left.left (fun _ => rfl) rfl (by omega) rfl) rfl ?_
        refine RunL.litI (xs := [((ps.getD i default).snd.snd.snd.getD k default).snd]) rfl ti3 rfl rfl rfl (by decide) rfl (fun vz1 rdz1 => ?_)
        refine RunL.know (fun w s => (s.conv rfl).ownRd0) (fun rdz3 => ?_)
        refine RunL.appendI rfl ti3 rfl rfl rfl (frl rfl) (Rd.right rdz3) (by omega) rfl rfl (fun vz2 rdz2 => ?_)
        refine RunL.ok (OpOk.assign rfl) rfl ?_
        refine RunL.nil ?_
        refine Run.inBlock ?_
        refine Run.region ?_
        refine RunL.ok (OpOk.move rfl) rfl ?_
        refine RunL.ok (OpOk.addN _ 1 rfl rfl rfl rfl (by omega)) rfl ?_
        refine RunL.ok (OpOk.assign rfl) rfl ?_
        refine RunL.nil ?_
        rw [show (amts op (shs (ps.take i) ++ (ps.getD i default).2.2.2.take k)).length + 1 = (amts op (shs (ps.take i) ++ (ps.getD i default).2.2.2.take (k + 1))).length by rw [e]; simp, ← e]
        refine Run.jump ((ih2 (k + 1, _, _) (by dsimp only; omega) (by dsimp only; omega))) ⟨rfl, rfl, rfl, rfl, rfl, trivial⟩ (Grew.of (congrArg (· * _) (asg as1)) (Grew.refl _))
      · rw [if_neg hc] at e
        rw [← e]
        refine Run.seq ?_
        refine Run.seq ?_
        refine Run.region ?_
        refine RunL.ok (OpOk.move rfl) rfl ?_
        refine RunL.ok (OpOk.move rfl) rfl ?_
        refine RunL.ok (OpOk.move rfl) rfl ?_
        refine RunL.ok (OpOk.idxN rfl ti126 rfl rd.left.left rfl (by omega)) rfl ?_
        refine RunL.ok (OpOk.fieldAddrA fld126_2 rfl) rfl ?_
        refine RunL.ok (OpOk.loadFl1 default rfl rfl rfl rd.left.left (fun _ => rfl) rfl (by omega) rfl) rfl ?_
        refine RunL.ok (OpOk.lenR rfl rfl rdi.left.left rfl) rfl ?_
        refine RunL.ok (OpOk.asT (OpOk.lss rfl rfl) (by omega)) rfl ?_
        refine RunL.nil ?_
        refine Run.condT rfl ?_
        refine Run.skip ?_
        refine Run.seq ?_
        refine Run.block ?_
        refine Run.seq ?_
        refine Run.region ?_
        refine RunL.ok (OpOk.move rfl) rfl ?_
        refine RunL.ok (OpOk.move rfl) rfl ?_
        refine RunL.ok (OpOk.idxN rfl ti126 rfl rd.left.left rfl (by omega)) rfl ?_
        refine RunL.ok (OpOk.fieldAddrA fld126_2 rfl) rfl ?_
        refine RunL.ok (OpOk.loadFl1 default rfl rfl rfl rd.left.left (fun _ => rfl) rfl (by omega) rfl) rfl ?_
        refine RunL.ok (OpOk.move rfl) rfl ?_
        refine RunL.ok (OpOk.idxN rfl ti132 rfl rdi.left.left rfl (by omega)) rfl ?_
        refine RunL.ok (OpOk.fieldAddrA fld132_0 rfl) rfl ?_
        refine RunL.ok (OpOk.loadFl1 default rfl rfl rfl rdi.left.left (fun _ => rfl) rfl (by omega) rfl) rfl ?_
        refine RunL.ok (OpOk.move rfl) rfl ?_
        refine RunL.ok (OpOk.asF (OpOk.eql rfl rfl) (by omega)) rfl ?_
        refine RunL.nil ?_
        refine Run.condF rfl ?_
        refine Run.skip ?_
        refine Run.inBlock ?_
        refine Run.region ?_
        refine RunL.ok (OpOk.move rfl) rfl ?_
        refine RunL.ok (OpOk.addN _ 1 rfl rfl rfl rfl (by omega)) rfl ?_
        refine RunL.ok (OpOk.assign rfl) rfl ?_
        refine RunL.nil ?_
        refine Run.jump ((ih2 (k + 1, _, _) (by dsimp only; omega) (by dsimp only; omega))) ⟨rfl, rfl, rfl, rfl, rfl, trivial⟩ (Grew.of (congrArg (· * _) as1) (Grew.refl _))
    · obtain rfl : k = (ps.getD i default).2.2.2.length := by omega
      clear ih2
      rw [List.take_length, ← shs_next hlt]
      refine Run.seq ?_
      refine Run.seq ?_
      refine Run.region ?_
      refine RunL.ok (OpOk.move rfl) rfl ?_
      refine RunL.ok (OpOk.move rfl) rfl ?_
      refine RunL.ok (OpOk.move rfl) rfl ?_
      refine RunL.ok (OpOk.idxN rfl ti126 rfl rd.left.left rfl (by omega)) rfl ?_
      refine RunL.ok (OpOk.fieldAddrA fld126_2 rfl) rfl ?_
      refine RunL.ok (OpOk.loadFl1 default rfl rfl rfl rd.left.left (fun _ => rfl) rfl (by omega) rfl) rfl ?_
      refine RunL.ok (OpOk.lenR rfl rfl rdi.left.left rfl) rfl ?_
      refine RunL.ok (OpOk.asF (OpOk.lss rfl rfl) (by omega)) rfl ?_
      refine RunL.nil ?_
      refine Run.condF rfl ?_
      refine Run.exit rfl ?_
      refine Run.inBlock ?_
      refine Run.region ?_
      refine RunL.ok (OpOk.move rfl) rfl ?_
      refine RunL.ok (OpOk.addN _ 1 rfl rfl rfl rfl (by omega)) rfl ?_
      refine RunL.ok (OpOk.assign rfl) rfl ?_
      refine RunL.nil ?_
      refine Run.jump ((ih (i + 1, _, _) (by dsimp only; omega) (by dsimp only; omega))) ⟨rfl, rfl, rfl, rfl, trivial⟩ (Grew.of (congrArg (· * _) as1) (Grew.refl _))
  · obtain rfl : i = ps.length := by omega
    clear ih
    rw [List.take_length]
    cases hs : sumO 0 (amts op (shs ps)) with
    | none =>
      refine Run.seq ?_
      refine Run.seq ?_
      refine Run.region ?_
      refine RunL.ok (OpOk.move rfl) rfl ?_
      refine RunL.ok (OpOk.move rfl) rfl ?_
      refine RunL.ok (OpOk.lenR rfl rfl rd.left.left rfl) rfl ?_
      refine RunL.ok (OpOk.asF (OpOk.lss rfl rfl) (by omega)) rfl ?_
      refine RunL.nil ?_
      refine Run.condF rfl ?_
      refine Run.exit rfl ?_
      refine Run.seq ?_
      refine Run.region ?_
      refine RunL.ok (OpOk.move rfl) rfl ?_
      refine RunL.know (fun w s => (s.conv rfl).ownRd0) (fun rdy1 => ?_)
      refine RunL.call cal104 rfl (s104b (Rd.right rdy1) (by assumption) (by assumption)) rfl (fun vy3 Ay3 hy3 => ?_)
      obtain ⟨rfl, rfl⟩ := hy3
      refine RunL.ok (OpOk.ext20 rfl) rfl ?_
      refine RunL.ok (OpOk.ext21 rfl) rfl ?_
      refine RunL.ok (OpOk.assign rfl) rfl ?_
      refine RunL.ok (OpOk.assign rfl) rfl ?_
      refine RunL.nil ?_
      refine Run.ret2 Try.func66 rfl rfl rfl ?_
      exact ⟨0, false, _, rfl, .inl ⟨rfl, rfl, rfl⟩, by ac_rfl⟩
    | some z =>
      refine Run.seq ?_
      refine Run.seq ?_
      refine Run.region ?_
      refine RunL.ok (OpOk.move rfl) rfl ?_
      refine RunL.ok (OpOk.move rfl) rfl ?_
      refine RunL.ok (OpOk.lenR rfl rfl rd.left.left rfl) rfl ?_
      refine RunL.ok (OpOk.asF (OpOk.lss rfl rfl) (by omega)) rfl ?_
      refine RunL.nil ?_
      refine Run.condF rfl ?_
      refine Run.exit rfl ?_
      refine Run.seq ?_
      refine Run.region ?_
      refine RunL.ok (OpOk.move rfl) rfl ?_
      refine RunL.know (fun w s => (s.conv rfl).ownRd0) (fun rdy1 => ?_)
      refine RunL.call cal104 rfl (s104a (Rd.right rdy1) (by assumption) (by assumption)) rfl (fun vy2 Ay2 hy2 => ?_)
      obtain ⟨rfl, rfl⟩ := hy2
      refine RunL.ok (OpOk.ext20 rfl) rfl ?_
      refine RunL.ok (OpOk.ext21 rfl) rfl ?_
      refine RunL.ok (OpOk.assign rfl) rfl ?_
      refine RunL.ok (OpOk.assign rfl) rfl ?_
      refine RunL.nil ?_
      refine Run.ret2 Try.func66 rfl rfl rfl ?_
      exact ⟨z, true, _, rfl, .inr ⟨rfl, rfl⟩, by ac_rfl⟩
theorem s66a {u : Value} {m : Nat} {op z : Int} {ps : List Po} (rd : Rd w0 A u 3 m (Fl encT126 ps)) (al : Alls (GP w0) A ps) (hs : sumO 0 (amts op (shs ps)) = some z) (hin : ∀ q ∈ ps, ∀ s ∈ q.2.2.2, inI s.2) (hL : (shs ps).length ≤ 1048576) :
    Spec Try.prog w0 66 [u, .int .i64 op] A (fun v' A' => ∃ (J : Asn), v' = .tuple #[.int .i64 z, .bool true] ∧ A' = A * J) := by
  refine (s66c rd al hin hL).mono ?_
  rintro v' A' ⟨z', b, J, rfl, h, rfl⟩
  rcases h with ⟨h, _⟩ | ⟨h, rfl⟩
  · rw [hs] at h; cases h
  · rw [hs] at h; cases h; exact ⟨J, rfl, rfl⟩
theorem s66b {u : Value} {m : Nat} {op : Int} {ps : List Po} (rd : Rd w0 A u 3 m (Fl encT126 ps)) (al : Alls (GP w0) A ps) (hs : sumO 0 (amts op (shs ps)) = none) (hin : ∀ q ∈ ps, ∀ s ∈ q.2.2.2, inI s.2) (hL : (shs ps).length ≤ 1048576) :
    Spec Try.prog w0 66 [u, .int .i64 op] A (fun v' A' => ∃ (J : Asn), v' = .tuple #[.int .i64 0, .bool false] ∧ A' = A * J) := by
  refine (s66c rd al hin hL).mono ?_
  rintro v' A' ⟨z', b, J, rfl, h, rfl⟩
  rcases h with ⟨_, rfl, rfl⟩ | ⟨h, rfl⟩
  · exact ⟨J, rfl, rfl⟩
  · rw [hs] at h; cases h
theorem s18 {n : Int} {u : Value} {m : Nat} {ps : List Po} (rd : Rd w0 A u 3 m (Fl encT126 ps)) (al : Alls (GP w0) A ps) (hin : ∀ q ∈ ps, ∀ s ∈ q.2.2.2, inI s.2) (hL : (shs ps).length ≤ 1048576) :
    Spec Try.prog w0 18 [.int .i64 n, u] A (fun v' A' => ∃ v J, v' = .tuple #[v, .int .i64 (totF n (shs ps)).1] ∧ A' = A * J * own 3 1 v (totF n (shs ps)).2.length (I (totF n (shs ps)).2)) := by
  have hl0 := rd.lenFl (fun _ => rfl) (by decide)
  subst hl0
  have hmx := rd.max
  have own0 : own 3 1 (Value.slice none 0 0) (List.length ([] : List Int)) (I ([] : List Int)) = emp := own_nil_eq 3 1
  rcases Decidable.em (n < 1 ∨ 4 < n) with hn | hn
  · have e : totF n (shs ps) = (2, []) := if_pos hn
    rw [e]
    refine Spec.of_run [(0, .int .i64 n), (1, u)] Try.func18 rfl (Nat.le_of_ble_eq_true rfl) (by repeat (first | exact trivial | refine ⟨rfl, ?_⟩)) ?_
    refine Run.seq ?_
    refine Run.region ?_
    refine RunL.ok (OpOk.assign rfl) rfl ?_
    refine RunL.ok (OpOk.assign rfl) rfl ?_
    refine RunL.nil ?_
    refine Run.seq ?_
    refine Run.seq ?_
    refine Run.region ?_
    refine RunL.ok (OpOk.move rfl) rfl ?_
    refine RunL.ok (OpOk.lss rfl rfl) rfl ?_
    refine RunL.ok (OpOk.move rfl) rfl ?_
    refine RunL.splitD (t := 14) rfl (fun x1 => ?_) (fun x1 => ?_)
    · refine RunL.off rfl rfl rfl rfl ?_
      refine RunL.off rfl rfl rfl rfl ?_
      refine RunL.ok (OpOk.pickT rfl rfl) rfl ?_
      refine RunL.nil ?_
      refine Run.condT rfl ?_
      refine Run.seq ?_
      refine Run.region ?_
      refine RunL.ok (OpOk.assign rfl) rfl ?_
      refine RunL.ok (OpOk.assign rfl) rfl ?_
      refine RunL.nil ?_
      refine Run.ent (Ent.ownNil' _ 3 1 (I []) rfl) ?_
      refine Run.ret2 Try.func18 rfl rfl rfl ?_
      exact ⟨_, _, rfl, (Eq.trans (frc rfl rfl) (congrArg (· * _) as0))⟩
    refine RunL.on rfl rfl ?_
    refine RunL.ok (OpOk.move rfl) rfl ?_
    refine RunL.on rfl rfl ?_
    refine RunL.ok (OpOk.asT (OpOk.gtr rfl rfl) (by omega)) rfl ?_
    refine RunL.ok (OpOk.pickF rfl rfl) rfl ?_
    refine RunL.nil ?_
    refine Run.condT rfl ?_
    refine Run.seq ?_
    refine Run.region ?_
    refine RunL.ok (OpOk.assign rfl) rfl ?_
    refine RunL.ok (OpOk.assign rfl) rfl ?_
    refine RunL.nil ?_
    refine Run.ent (Ent.ownNil' _ 3 1 (I []) rfl) ?_
    refine Run.ret2 Try.func18 rfl rfl rfl ?_
    exact ⟨_, _, rfl, (Eq.trans (frc rfl rfl) (congrArg (· * _) as0))⟩
  · obtain ⟨k, rfl⟩ := Int.eq_ofNat_of_zero_le (show 0 ≤ n by omega)
    have hk1 : 1 ≤ k := by omega
    have hk4 : k ≤ 4 := by omega
    refine Spec.of_run [(0, .int .i64 (k : Int)), (1, u)] Try.func18 rfl (Nat.le_of_ble_eq_true rfl) (by repeat (first | exact trivial | refine ⟨rfl, ?_⟩)) ?_
    have hkk : ¬ ((k : Int) < 1 ∨ 4 < (k : Int)) := hn
    refine Run.seq ?_
    refine Run.region ?_
    refine RunL.ok (OpOk.assign rfl) rfl ?_
    refine RunL.ok (OpOk.assign rfl) rfl ?_
    refine RunL.nil ?_
    refine Run.seq ?_
    refine Run.seq ?_
    refine Run.region ?_
    refine RunL.ok (OpOk.move rfl) rfl ?_
    refine RunL.ok (OpOk.asF (OpOk.lss rfl rfl) (by omega)) rfl ?_
    refine RunL.ok (OpOk.move rfl) rfl ?_
    refine RunL.on rfl rfl ?_
    refine RunL.ok (OpOk.move rfl) rfl ?_
    refine RunL.on rfl rfl ?_
    refine RunL.ok (OpOk.asF (OpOk.gtr rfl rfl) (by omega)) rfl ?_
    refine RunL.ok (OpOk.pickF rfl rfl) rfl ?_
    refine RunL.nil ?_
    refine Run.condF rfl ?_
    refine Run.skip ?_
    refine Run.seq ?_
    refine Run.seq ?_
    refine Run.region ?_
    refine RunL.ok (OpOk.assign rfl) rfl ?_
    refine RunL.nil ?_
    refine Run.block ?_
    refine Run.jump ((Run.loopJ (X := Nat) (fun i => [(6, .int .i64 (i : Int)), (0, .int .i64 (k : Int)), (1, u)]) (fun _ => A) (fun i => i ≤ ps.length ∧ (shs (ps.take i)).all (okT k) = true) (fun i => ps.length - i) 0 ⟨Nat.zero_le _, rfl⟩ (fun i hx ih => ?_))) ⟨rfl, rfl, rfl, trivial⟩ ((Grew.refl _))
    obtain ⟨hi, hok⟩ := hx
    rcases Nat.lt_or_ge i ps.length with hlt | hge
    · have rdi : Rd w0 A (ps.getD i default).2.2.1.1 2 (ps.getD i default).2.2.2.length (Fl encT132 (ps.getD i default).2.2.2) := al.get hlt
      have hsl := shs_at_le hlt
      refine Run.seq ?_
      refine Run.seq ?_
      refine Run.region ?_
      refine RunL.ok (OpOk.move rfl) rfl ?_
      refine RunL.ok (OpOk.move rfl) rfl ?_
      refine RunL.ok (OpOk.lenR rfl rfl rd rfl) rfl ?_
      refine RunL.ok (OpOk.asT (OpOk.lss rfl rfl) (by omega)) rfl ?_
      refine RunL.nil ?_
      refine Run.condT rfl ?_
      refine Run.skip ?_
      refine Run.seq ?_
      refine Run.block ?_
      refine Run.seq ?_
      refine Run.region ?_
      refine RunL.ok (OpOk.assign rfl) rfl ?_
      refine RunL.nil ?_
      refine Run.block ?_
      refine Run.jump ((Run.loopJ (X := Nat) (fun j => [(7, .int .i64 (j : Int)), (6, .int .i64 (i : Int)), (0, .int .i64 (k : Int)), (1, u)]) (fun _ => A) (fun j => j ≤ (ps.getD i default).2.2.2.length ∧ ((ps.getD i default).2.2.2.take j).all (okT k) = true) (fun j => (ps.getD i default).2.2.2.length - j) 0 ⟨Nat.zero_le _, rfl⟩ (fun j hx ih2 => ?_))) ⟨rfl, rfl, rfl, rfl, trivial⟩ ((Grew.refl _))
      obtain ⟨hj, hok2⟩ := hx
      rcases Nat.lt_or_ge j (ps.getD i default).2.2.2.length with hjt | hjg
      · rcases Decidable.em (1 ≤ ((ps.getD i default).2.2.2.getD j default).1 ∧ ((ps.getD i default).2.2.2.getD j default).1 ≤ k) with hs | hs
        · obtain ⟨hs1, hs2⟩ := hs
          have hok4 : ((ps.getD i default).2.2.2.take (j + 1)).all (okT k) = true := by
            rw [okT_next hjt, hok2, okT, decide_eq_true hs1, decide_eq_true hs2]; rfl
          refine Run.seq ?_
          refine Run.seq ?_
          refine Run.region ?_
          refine RunL.ok (OpOk.move rfl) rfl ?_
          refine RunL.ok (OpOk.move rfl) rfl ?_
          refine RunL.ok (OpOk.move rfl) rfl ?_
          refine RunL.ok (OpOk.idxN rfl ti126 rfl rd rfl (by omega)) rfl ?_
          refine RunL.ok (OpOk.fieldAddrA fld126_2 rfl) rfl ?_
          refine RunL.ok (OpOk.loadFl1 default rfl rfl rfl rd (fun _ => rfl) rfl (by omega) rfl) rfl ?_
          refine RunL.ok (OpOk.lenR rfl rfl rdi rfl) rfl ?_
          refine RunL.ok (OpOk.asT (OpOk.lss rfl rfl) (by omega)) rfl ?_
          refine RunL.nil ?_
          refine Run.condT rfl ?_
          refine Run.skip ?_
          refine Run.seq ?_
          refine Run.block ?_
          refine Run.seq ?_
          refine Run.region ?_
          refine RunL.ok (OpOk.move rfl) rfl ?_
          refine RunL.ok (OpOk.move rfl) rfl ?_
          refine RunL.ok (OpOk.idxN rfl ti126 rfl rd rfl (by omega)) rfl ?_
          refine RunL.ok (OpOk.fieldAddrA fld126_2 rfl) rfl ?_
          refine RunL.ok (OpOk.loadFl1 default rfl rfl rfl rd (fun _ => rfl) rfl (by omega) rfl) rfl ?_
          refine RunL.ok (OpOk.move rfl) rfl ?_
          refine RunL.ok (OpOk.idxN rfl ti132 rfl rdi rfl (by omega)) rfl ?_
          refine RunL.ok (OpOk.fieldAddrA fld132_0 rfl) rfl ?_
          refine RunL.ok (OpOk.loadFl1 default rfl rfl rfl rdi (fun _ => rfl) rfl (by omega) rfl) rfl ?_
          refine RunL.ok (OpOk.asF (OpOk.lss rfl rfl) (by omega)) rfl ?_
          refine RunL.ok (OpOk.move rfl) rfl ?_
          refine RunL.on rfl rfl ?_
          refine RunL.ok (OpOk.move rfl) rfl ?_
          refine RunL.on rfl rfl ?_
          refine RunL.ok (OpOk.move rfl) rfl ?_
          refine RunL.on rfl rfl ?_
          refine RunL.ok (OpOk.idxN rfl ti126 rfl rd rfl (by omega)) rfl ?_
          refine RunL.on rfl rfl ?_
          refine RunL.ok (OpOk.fieldAddrA fld126_2 rfl) rfl ?_
          refine RunL.on rfl rfl ?_
          refine RunL.ok (OpOk.loadFl1 default rfl rfl rfl rd (fun _ => rfl) rfl (by omega) rfl) rfl ?_
          refine RunL.on rfl rfl ?_
          refine RunL.ok (OpOk.move rfl) rfl ?_
          refine RunL.on rfl rfl ?_
          refine RunL.ok (OpOk.idxN rfl ti132 rfl rdi rfl (by omega)) rfl ?_
          refine RunL.on rfl rfl ?_
          refine RunL.ok (OpOk.fieldAddrA fld132_0 rfl) rfl ?_
          refine RunL.on rfl rfl ?_
          refine RunL.ok (OpOk.loadFl1 default rfl rfl rfl rdi (fun _ => rfl) rfl (by omega) rfl) rfl ?_
          refine RunL.on rfl rfl ?_
          refine RunL.ok (OpOk.move rfl) rfl ?_
          refine RunL.on rfl rfl ?_
          refine RunL.ok (OpOk.asF (OpOk.gtr rfl rfl) (by omega)) rfl ?_
          refine RunL.ok (OpOk.pickF rfl rfl) rfl ?_
          refine RunL.nil ?_
          refine Run.condF rfl ?_
          refine Run.skip ?_
          refine Run.inBlock ?_
          refine Run.region ?_
          refine RunL.ok (OpOk.move rfl) rfl ?_
          refine RunL.ok (OpOk.addN _ 1 rfl rfl rfl rfl (by omega)) rfl ?_
          refine RunL.ok (OpOk.assign rfl) rfl ?_
          refine RunL.nil ?_
          refine Run.jump ((ih2 (j + 1) ⟨by omega, hok4⟩ (by omega))) ⟨rfl, rfl, rfl, rfl, trivial⟩ ((Grew.refl _))
        · have e : totF (k : Int) (shs ps) = (2, []) := by
            rw [totF, if_neg hkk, if_neg]
            rw [okT_fail hlt hjt (by rw [okT, ← Bool.decide_and]; exact decide_eq_false hs)]
            decide
          rw [e]
          refine Run.seq ?_
          refine Run.seq ?_
          refine Run.region ?_
          refine RunL.ok (OpOk.move rfl) rfl ?_
          refine RunL.ok (OpOk.move rfl) rfl ?_
          refine RunL.ok (OpOk.move rfl) rfl ?_
          refine RunL.ok (OpOk.idxN rfl ti126 rfl rd rfl (by omega)) rfl ?_
          refine RunL.ok (OpOk.fieldAddrA fld126_2 rfl) rfl ?_
          refine RunL.ok (OpOk.loadFl1 default rfl rfl rfl rd (fun _ => rfl) rfl (by omega) rfl) rfl ?_
          refine RunL.ok (OpOk.lenR rfl rfl rdi rfl) rfl ?_
          refine RunL.ok (OpOk.asT (OpOk.lss rfl rfl) (by omega)) rfl ?_
          refine RunL.nil ?_
          refine Run.condT rfl ?_
          refine Run.skip ?_
          refine Run.seq ?_
          refine Run.block ?_
          refine Run.seq ?_
          refine Run.region ?_
          refine RunL.ok (OpOk.move rfl) rfl ?_
          refine RunL.ok (OpOk.move rfl) rfl ?_
          refine RunL.ok (OpOk.idxN rfl ti126 rfl rd rfl (by omega)) rfl ?_
          refine RunL.ok (OpOk.fieldAddrA fld126_2 rfl) rfl ?_
          refine RunL.ok (OpOk.loadFl1 default rfl rfl rfl rd (fun _ => rfl) rfl (by omega) rfl) rfl ?_
          refine RunL.ok (OpOk.move rfl) rfl ?_
          refine RunL.ok (OpOk.idxN rfl ti132 rfl rdi rfl (by omega)) rfl ?_
          refine RunL.ok (OpOk.fieldAddrA fld132_0 rfl) rfl ?_
          refine RunL.ok (OpOk.loadFl1 default rfl rfl rfl rdi (fun _ => rfl) rfl (by omega) rfl) rfl ?_
          refine RunL.ok (OpOk.lss rfl rfl) rfl ?_
          refine RunL.ok (OpOk.move rfl) rfl ?_
          refine RunL.splitD (t := 44) rfl (fun z1 => ?_) (fun z1 => ?_)
          · refine RunL.off rfl rfl rfl rfl ?_
            refine RunL.off rfl rfl rfl rfl ?_
            refine RunL.off rfl rfl rfl rfl ?_
            refine RunL.off rfl rfl rfl rfl ?_
            refine RunL.off rfl rfl rfl rfl ?_
            refine RunL.off rfl rfl rfl rfl ?_
            refine RunL.off rfl rfl rfl rfl ?_
            refine RunL.off rfl rfl rfl rfl ?_
            refine RunL.off rfl rfl rfl rfl ?_
            refine RunL.off rfl rfl rfl rfl ?_
            refine RunL.off rfl rfl rfl rfl ?_
            refine RunL.ok (OpOk.pickT rfl rfl) rfl ?_
            refine RunL.nil ?_
            refine Run.condT rfl ?_
            refine Run.seq ?_
            refine Run.region ?_
            refine RunL.ok (OpOk.assign rfl) rfl ?_
            refine RunL.ok (OpOk.assign rfl) rfl ?_
            refine RunL.nil ?_
            refine Run.ent (Ent.ownNil' _ 3 1 (I []) rfl) ?_
            refine Run.ret2 Try.func18 rfl rfl rfl ?_
            exact ⟨_, _, rfl, (Eq.trans (frc rfl rfl) (congrArg (· * _) as0))⟩
          refine RunL.on rfl rfl ?_
          refine RunL.ok (OpOk.move rfl) rfl ?_
          refine RunL.on rfl rfl ?_
          refine RunL.ok (OpOk.move rfl) rfl ?_
          refine RunL.on rfl rfl ?_
          refine RunL.ok (OpOk.idxN rfl ti126 rfl rd rfl (by omega)) rfl ?_
          refine RunL.on rfl rfl ?_
          refine RunL.ok (OpOk.fieldAddrA fld126_2 rfl) rfl ?_
          refine RunL.on rfl rfl ?_
          refine RunL.ok (OpOk.loadFl1 default rfl rfl rfl rd (fun _ => rfl) rfl (by omega) rfl) rfl ?_
          refine RunL.on rfl rfl ?_
          refine RunL.ok (OpOk.move rfl) rfl ?_
          refine RunL.on rfl rfl ?_
          refine RunL.ok (OpOk.idxN rfl ti132 rfl rdi rfl (by omega)) rfl ?_
          refine RunL.on rfl rfl ?_
          refine RunL.ok (OpOk.fieldAddrA fld132_0 rfl) rfl ?_
          refine RunL.on rfl rfl ?_
          refine RunL.ok (OpOk.loadFl1 default rfl rfl rfl rdi (fun _ => rfl) rfl (by omega) rfl) rfl ?_
          refine RunL.on rfl rfl ?_
          refine RunL.ok (OpOk.move rfl) rfl ?_
          refine RunL.on rfl rfl ?_
          refine RunL.ok (OpOk.asT (OpOk.gtr rfl rfl) (by omega)) rfl ?_
          refine RunL.ok (OpOk.pickF rfl rfl) rfl ?_
          refine RunL.nil ?_
          refine Run.condT rfl ?_
          refine Run.seq ?_
          refine Run.region ?_
          refine RunL.ok (OpOk.assign rfl) rfl ?_
          refine RunL.ok (OpOk.assign rfl) rfl ?_
          refine RunL.nil ?_
          refine Run.ent (Ent.ownNil' _ 3 1 (I []) rfl) ?_
          refine Run.ret2 Try.func18 rfl rfl rfl ?_
          exact ⟨_, _, rfl, (Eq.trans (frc rfl rfl) (congrArg (· * _) as0))⟩
      · obtain rfl : j = (ps.getD i default).2.2.2.length := by omega
        clear ih2
        rw [List.take_length] at hok2
        have hok3 : (shs (ps.take (i + 1))).all (okT k) = true := by rw [shs_next hlt, List.all_append, hok, hok2]; rfl
        refine Run.seq ?_
        refine Run.seq ?_
        refine Run.region ?_
        refine RunL.ok (OpOk.move rfl) rfl ?_
        refine RunL.ok (OpOk.move rfl) rfl ?_
        refine RunL.ok (OpOk.move rfl) rfl ?_
        refine RunL.ok (OpOk.idxN rfl ti126 rfl rd rfl (by omega)) rfl ?_
        refine RunL.ok (OpOk.fieldAddrA fld126_2 rfl) rfl ?_
        refine RunL.ok (OpOk.loadFl1 default rfl rfl rfl rd (fun _ => rfl) rfl (by omega) rfl) rfl ?_
        refine RunL.ok (OpOk.lenR rfl rfl rdi rfl) rfl ?_
        refine RunL.ok (OpOk.asF (OpOk.lss rfl rfl) (by omega)) rfl ?_
        refine RunL.nil ?_
        refine Run.condF rfl ?_
        refine Run.exit rfl ?_
        refine Run.inBlock ?_
        refine Run.region ?_
        refine RunL.ok (OpOk.move rfl) rfl ?_
        refine RunL.ok (OpOk.addN _ 1 rfl rfl rfl rfl (by omega)) rfl ?_
        refine RunL.ok (OpOk.assign rfl) rfl ?_
        refine RunL.nil ?_
        refine Run.jump ((ih (i + 1) ⟨by omega, hok3⟩ (by omega))) ⟨rfl, rfl, rfl, trivial⟩ ((Grew.refl _))
    · obtain rfl : i = ps.length := by omega
      clear ih
      rw [List.take_length] at hok
      have e : totF (k : Int) (shs ps) = match sumsO (rowsOf k (shs ps)) with | some o => (0, o) | none => (29, []) := by
        rw [totF, if_neg hkk, if_pos hok, Int.toNat_natCast]
        rfl
      refine Run.seq ?_
      refine Run.seq ?_
      refine Run.region ?_
      refine RunL.ok (OpOk.move rfl) rfl ?_
      refine RunL.ok (OpOk.move rfl) rfl ?_
      refine RunL.ok (OpOk.lenR rfl rfl rd rfl) rfl ?_
      refine RunL.ok (OpOk.asF (OpOk.lss rfl rfl) (by omega)) rfl ?_
      refine RunL.nil ?_
      refine Run.condF rfl ?_
      refine Run.exit rfl ?_
      refine Run.seq ?_
      refine Run.region ?_
      refine RunL.ok (OpOk.assign rfl) rfl ?_
      refine RunL.nil ?_
      refine Run.seq ?_
      refine Run.seq ?_
      refine Run.region ?_
      refine RunL.ok (OpOk.assign rfl) rfl ?_
      refine RunL.nil ?_
      refine Run.block ?_
      refine Run.ent (Ent.ownNil' _ 3 1 (I []) rfl) ?_
      refine Run.mem (congrArg (· * _) (sep_emp _).symm) ?_
      refine Run.jump ((Run.loopJ (X := Nat × Asn × Value × List Int) (fun x => [(9, .int .i64 ((x.1 + 1 : Nat) : Int)), (8, x.2.2.1), (0, .int .i64 (k : Int)), (1, u)]) (fun x => A * x.2.1 * own 3 1 x.2.2.1 x.2.2.2.length (I x.2.2.2)) (fun x => x.1 ≤ k ∧ x.2.2.2.length = x.1 ∧ sumsO (rowsOf k (shs ps)) = (sumsO ((rowsOf k (shs ps)).drop x.1)).map (x.2.2.2 ++ ·)) (fun x => k - x.1) (0, _, .slice none 0 0, []) ⟨Nat.zero_le _, rfl, by dsimp only; rw [List.drop_zero]; cases sumsO (rowsOf k (shs ps)) <;> rfl⟩ (fun x hx ih => ?_))) ⟨rfl, rfl, rfl, rfl, trivial⟩ (Grew.of (Eq.trans (frc rfl rfl) (congrArg (· * _) as1)) (Grew.refl _))
      obtain ⟨i, J2, vo, out⟩ := x
      simp only at hx ih ⊢
      obtain ⟨hi, hol, hso⟩ := hx
      rcases Nat.lt_or_ge i k with hlt | hge
      · rw [sumsO_next (by rw [rowsOf_len]; exact hlt), rowsOf_get hlt] at hso
        cases hsum : sumO 0 (amts ((i : Int) + 1) (shs ps)) with
        | none =>
          rw [hsum] at hso
          rw [e, hso]
          have hsum2 : sumO 0 (amts ((i + 1 : Nat) : Int) (shs ps)) = none := hsum
          refine Run.seq ?_
          refine Run.seq ?_
          refine Run.region ?_
          refine RunL.ok (OpOk.move rfl) rfl ?_
          refine RunL.ok (OpOk.move rfl) rfl ?_
          refine RunL.ok (OpOk.asT (OpOk.leq rfl rfl) (by omega)) rfl ?_
          refine RunL.nil ?_
          refine Run.condT rfl ?_
          refine Run.skip ?_
          refine Run.seq ?_
          refine Run.block ?_
          refine Run.seq ?_
          refine Run.region ?_
          refine RunL.ok (OpOk.move rfl) rfl ?_
          refine RunL.ok (OpOk.move rfl) rfl ?_
          refine RunL.call cal66 rfl (s66b rd.left.left al.left.left (by assumption) (by assumption) (by assumption)) rfl (fun vz2 Az2 hz2 => ?_)
          obtain ⟨z3, ⟨rfl, rfl⟩⟩ := hz2
          refine RunL.ok (OpOk.move rfl) rfl ?_
          refine RunL.ok (OpOk.ext20 rfl) rfl ?_
          refine RunL.ok (OpOk.ext21 rfl) rfl ?_
          refine RunL.ok (OpOk.assign rfl) rfl ?_
          refine RunL.ok (OpOk.assign rfl) rfl ?_
          refine RunL.nil ?_
          refine Run.seq ?_
          refine Run.seq ?_
          refine Run.region ?_
          refine RunL.ok (OpOk.move rfl) rfl ?_
          refine RunL.ok (OpOk.not rfl) rfl ?_
          refine RunL.nil ?_
          refine Run.condT rfl ?_
          refine Run.seq ?_
          refine Run.region ?_
          refine RunL.ok (OpOk.assign rfl) rfl ?_
          refine RunL.ok (OpOk.assign rfl) rfl ?_
          refine RunL.nil ?_
          refine Run.ent (Ent.ownNil' _ 3 1 (I []) rfl) ?_
          refine Run.ret2 Try.func18 rfl rfl rfl ?_
          exact ⟨_, _, rfl, (Eq.trans (frc rfl rfl) (congrArg (· * _) (asg (asg as1))))⟩
        | some q =>
          rw [hsum] at hso
          have hso2 : sumsO (rowsOf k (shs ps)) = (sumsO ((rowsOf k (shs ps)).drop (i + 1))).map ((out ++ [q]) ++ ·) := by
            rw [hso]
            cases sumsO ((rowsOf k (shs ps)).drop (i + 1)) <;> simp
          have hsum2 : sumO 0 (amts ((i + 1 : Nat) : Int) (shs ps)) = some q := hsum
          refine Run.seq ?_
          refine Run.seq ?_
          refine Run.region ?_
          refine RunL.ok (OpOk.move rfl) rfl ?_
          refine RunL.ok (OpOk.move rfl) rfl ?_
          refine RunL.ok (OpOk.asT (OpOk.leq rfl rfl) (by omega)) rfl ?_
          refine RunL.nil ?_
          refine Run.condT rfl ?_
          refine Run.skip ?_
          refine Run.seq ?_
          refine Run.block ?_
          refine Run.seq ?_
          refine Run.region ?_
          refine RunL.ok (OpOk.move rfl) rfl ?_
          refine RunL.ok (OpOk.move rfl) rfl ?_
          refine RunL.call cal66 rfl (s66a rd.left.left al.left.left (by assumption) (by assumption) (by assumption)) rfl (fun vz1 Az1 hz1 => ?_)
          obtain ⟨z2, ⟨rfl, rfl⟩⟩ := hz1
          refine RunL.ok (OpOk.move rfl) rfl ?_
          refine RunL.ok (OpOk.ext20 rfl) rfl ?_
          refine RunL.ok (OpOk.ext21 rfl) rfl ?_
          refine RunL.ok (OpOk.assign rfl) rfl ?_
          refine RunL.ok (OpOk.assign rfl) rfl ?_
          refine RunL.nil ?_
          refine Run.seq ?_
          refine Run.seq ?_
          refine Run.region ?_
          refine RunL.ok (OpOk.move rfl) rfl ?_
          refine RunL.ok (OpOk.not rfl) rfl ?_
          refine RunL.nil ?_
          refine Run.condF rfl ?_
          refine Run.skip ?_
          refine Run.region ?_
          refine RunL.ok (OpOk.move rfl) rfl ?_
          refine RunL.ok (OpOk.move rfl) rfl ?_
          refine RunL.litI (xs := [q]) rfl ti3 rfl rfl rfl (by decide) rfl (fun vz3 rdz3 => ?_)
          refine RunL.know (fun w s => (s.conv rfl).ownRd0) (fun rdz5 => ?_)
          refine RunL.appendI rfl ti3 rfl rfl rfl (frl (frl rfl)) (Rd.right rdz5) (by omega) rfl rfl (fun vz4 rdz4 => ?_)
          refine RunL.ok (OpOk.assign rfl) rfl ?_
          refine RunL.nil ?_
          refine Run.inBlock ?_
          refine Run.region ?_
          refine RunL.ok (OpOk.move rfl) rfl ?_
          refine RunL.ok (OpOk.addN _ 1 rfl rfl rfl rfl (by omega)) rfl ?_
          refine RunL.ok (OpOk.assign rfl) rfl ?_
          refine RunL.nil ?_
          rw [show out.length + 1 = (out ++ [q]).length by simp]
          refine Run.jump ((ih (i + 1, _, _, out ++ [q]) ⟨by dsimp only; omega, by simp [hol], hso2⟩ (by dsimp only; omega))) ⟨rfl, rfl, rfl, rfl, trivial⟩ (Grew.of (congrArg (· * _) (asg (asg as1))) (Grew.refl _))
      · obtain rfl : i = k := by omega
        clear ih
        have hd : (rowsOf i (shs ps)).drop i = [] := List.drop_eq_nil_of_le (by rw [rowsOf_len]; exact Nat.le_refl _)
        rw [hd] at hso
        have hso3 : sumsO (rowsOf i (shs ps)) = some out := by rw [hso]; simp [sumsO]
        rw [e, hso3]
        refine Run.seq ?_
        refine Run.seq ?_
        refine Run.region ?_
        refine RunL.ok (OpOk.move rfl) rfl ?_
        refine RunL.ok (OpOk.move rfl) rfl ?_
        refine RunL.ok (OpOk.asF (OpOk.leq rfl rfl) (by omega)) rfl ?_
        refine RunL.nil ?_
        refine Run.condF rfl ?_
        refine Run.exit rfl ?_
        refine Run.seq ?_
        refine Run.region ?_
        refine RunL.ok (OpOk.move rfl) rfl ?_
        refine RunL.ok (OpOk.assign rfl) rfl ?_
        refine RunL.ok (OpOk.assign rfl) rfl ?_
        refine RunL.nil ?_
        refine Run.ret2 Try.func18 rfl rfl rfl ?_
        exact ⟨_, _, rfl, (congrArg (· * _) as1)⟩
theorem s20 {u1 u2 : Value} {a b : List Int} {m k : Nat} (rd : Rd w0 A u1 1 m (I a)) (rd2 : Rd w0 A u2 1 k (I b)) :
    Spec Try.prog w0 20 [u1, u2] A (fun v' A' => v' = .bool (decide (a = b)) ∧ A' = A) := by
  have hl0 := rd.lenI
  have hl1 := rd2.lenI
  subst hl0 hl1
  have hm1 := rd.max
  refine Spec.of_run [(0, u1), (1, u2)] Try.func20 rfl (Nat.le_of_ble_eq_true rfl) (by repeat (first | exact trivial | refine ⟨rfl, ?_⟩)) ?_
  refine Run.seq ?_
  refine Run.region ?_
  refine RunL.ok (OpOk.assign rfl) rfl ?_
  refine RunL.nil ?_
  refine Run.seq ?_
  refine Run.seq ?_
  refine Run.region ?_
  refine RunL.ok (OpOk.move rfl) rfl ?_
  refine RunL.ok (OpOk.lenR rfl rfl rd rfl) rfl ?_
  refine RunL.ok (OpOk.move rfl) rfl ?_
  refine RunL.ok (OpOk.lenR rfl rfl rd2 rfl) rfl ?_
  refine RunL.ok (OpOk.neq rfl rfl) rfl ?_
  refine RunL.nil ?_
  refine Run.condN rfl (fun x1 => ?_) (fun x1 => ?_)
  · refine Run.seq ?_
    refine Run.region ?_
    refine RunL.ok (OpOk.assign rfl) rfl ?_
    refine RunL.nil ?_
    refine Run.ret1 Try.func20 rfl rfl ?_
    have hne : a ≠ b := fun e => x1 (by rw [e])
    exact ⟨by rw [decide_eq_false hne], rfl⟩
  refine Run.skip ?_
  refine Run.seq ?_
  refine Run.seq ?_
  refine Run.region ?_
  refine RunL.ok (OpOk.assign rfl) rfl ?_
  refine RunL.nil ?_
  refine Run.block ?_
  refine Run.jump ((Run.loopJ (X := Nat) (fun i => [(0, u1), (1, u2), (5, .int .i64 (i : Int))]) (fun _ => A) (fun i => i ≤ a.length ∧ a.take i = b.take i) (fun i => a.length - i) 0 ⟨Nat.zero_le _, by simp⟩ (fun i hi ih => ?_))) ⟨rfl, rfl, rfl, trivial⟩ ((Grew.refl _))
  obtain ⟨hi1, hi2⟩ := hi
  have hlen : a.length = b.length := by omega
  rcases Nat.lt_or_ge i a.length with hlt | hge
  · rcases Decidable.em (a.getD i 0 = b.getD i 0) with hc | hc
    · have e : a.take (i + 1) = b.take (i + 1) := by
        have e1 := take_next hlt
        have e2 := take_next (by omega : i < b.length)
        rw [e1, e2, hi2]
        congr 2
      refine Run.seq ?_
      refine Run.seq ?_
      refine Run.region ?_
      refine RunL.ok (OpOk.move rfl) rfl ?_
      refine RunL.ok (OpOk.move rfl) rfl ?_
      refine RunL.ok (OpOk.lenR rfl rfl rd rfl) rfl ?_
      refine RunL.ok (OpOk.asT (OpOk.lss rfl rfl) (by omega)) rfl ?_
      refine RunL.nil ?_
      refine Run.condT rfl ?_
      refine Run.skip ?_
      refine Run.seq ?_
      refine Run.block ?_
      refine Run.seq ?_
      (apply Run.drawD [] (by rfl) (sep_emp _).symm; case hchk => kernel_rfl)
      refine Sd.quiet 0 _ _ rfl rfl rfl rfl rfl (QOp.ok (fun X => OpOk.move rfl)) ?_
      refine Sd.quiet 1 _ _ rfl rfl rfl rfl rfl (QOp.ok (fun X => OpOk.move rfl)) ?_
      refine Sd.quiet 2 _ _ rfl rfl rfl rfl rfl (QOp.ok (fun X => OpOk.idx1N rfl ti3 rfl rd.left.left rfl (by omega))) ?_
      refine Sd.quiet 3 _ _ rfl rfl rfl rfl rfl (QOp.ok (fun X => OpOk.load rfl rfl rfl (Rd.getIE (by assumption) rd.left.left (by omega)))) ?_
      refine Sd.quiet 4 _ _ rfl rfl rfl rfl rfl (QOp.ok (fun X => OpOk.move rfl)) ?_
      refine Sd.quiet 5 _ _ rfl rfl rfl rfl rfl (QOp.ok (fun X => OpOk.move rfl)) ?_
      refine Sd.quiet 6 _ _ rfl rfl rfl rfl rfl (QOp.ok (fun X => OpOk.idx1N rfl ti3 rfl rd2.left.left rfl (by omega))) ?_
      refine Sd.quiet 7 _ _ rfl rfl rfl rfl rfl (QOp.ok (fun X => OpOk.load rfl rfl rfl (Rd.getI rd2.left.left (by omega)))) ?_
      refine Sd.quiet 8 _ _ rfl rfl rfl rfl rfl (QOp.ok (fun X => OpOk.as (c := false) (OpOk.neq rfl rfl) (by rw [decide_eq_true (by omega)]; rfl))) ?_
      (apply Sd.tail; case hall => kernel_rfl)
      refine RunL.mem (fl2 (sep_emp _) (sep_emp _)) ?_
      refine RunL.nil ?_
      refine Run.condF rfl ?_
      refine Run.skip ?_
      refine Run.inBlock ?_
      refine Run.region ?_
      refine RunL.ok (OpOk.move rfl) rfl ?_
      refine RunL.ok (OpOk.addN _ 1 rfl rfl rfl rfl (by omega)) rfl ?_
      refine RunL.ok (OpOk.assign rfl) rfl ?_
      refine RunL.nil ?_
      refine Run.jump ((ih (i + 1) ⟨by omega, e⟩ (by omega))) ⟨rfl, rfl, rfl, trivial⟩ ((Grew.refl _))
    · have hne : a ≠ b := fun e => hc (by rw [e])
      refine Run.seq ?_
      refine Run.seq ?_
      refine Run.region ?_
      refine RunL.ok (OpOk.move rfl) rfl ?_
      refine RunL.ok (OpOk.move rfl) rfl ?_
      refine RunL.ok (OpOk.lenR rfl rfl rd rfl) rfl ?_
      refine RunL.ok (OpOk.asT (OpOk.lss rfl rfl) (by omega)) rfl ?_
      refine RunL.nil ?_
      refine Run.condT rfl ?_
      refine Run.skip ?_
      refine Run.seq ?_
      refine Run.block ?_
      refine Run.seq ?_
      (apply Run.drawD [] (by rfl) (sep_emp _).symm; case hchk => kernel_rfl)
      refine Sd.quiet 0 _ _ rfl rfl rfl rfl rfl (QOp.ok (fun X => OpOk.move rfl)) ?_
      refine Sd.quiet 1 _ _ rfl rfl rfl rfl rfl (QOp.ok (fun X => OpOk.move rfl)) ?_
      refine Sd.quiet 2 _ _ rfl rfl rfl rfl rfl (QOp.ok (fun X => OpOk.idx1N rfl ti3 rfl rd.left.left rfl (by omega))) ?_
      refine Sd.quiet 3 _ _ rfl rfl rfl rfl rfl (QOp.ok (fun X => OpOk.load rfl rfl rfl (Rd.getI rd.left.left (by omega)))) ?_
      refine Sd.quiet 4 _ _ rfl rfl rfl rfl rfl (QOp.ok (fun X => OpOk.move rfl)) ?_
      refine Sd.quiet 5 _ _ rfl rfl rfl rfl rfl (QOp.ok (fun X => OpOk.move rfl)) ?_
      refine Sd.quiet 6 _ _ rfl rfl rfl rfl rfl (QOp.ok (fun X => OpOk.idx1N rfl ti3 rfl rd2.left.left rfl (by omega))) ?_
      refine Sd.quiet 7 _ _ rfl rfl rfl rfl rfl (QOp.ok (fun X => OpOk.load rfl rfl rfl (Rd.getI rd2.left.left (by omega)))) ?_
      refine Sd.quiet 8 _ _ rfl rfl rfl rfl rfl (QOp.ok (fun X => OpOk.as (c := true) (OpOk.neq rfl rfl) (by rw [decide_eq_false (by omega)]; rfl))) ?_
      (apply Sd.tail; case hall => kernel_rfl)
      refine RunL.mem (fl2 (sep_emp _) (sep_emp _)) ?_
      refine RunL.nil ?_
      refine Run.condT rfl ?_
      refine Run.seq ?_
      refine Run.region ?_
      refine RunL.ok (OpOk.assign rfl) rfl ?_
      refine RunL.nil ?_
      refine Run.ret1 Try.func20 rfl rfl ?_
      exact ⟨by rw [decide_eq_false hne], rfl⟩
  · obtain rfl : i = a.length := by omega
    clear ih
    rw [List.take_length, hlen, List.take_length] at hi2
    refine Run.seq ?_
    refine Run.seq ?_
    refine Run.region ?_
    refine RunL.ok (OpOk.move rfl) rfl ?_
    refine RunL.ok (OpOk.move rfl) rfl ?_
    refine RunL.ok (OpOk.lenR rfl rfl rd rfl) rfl ?_
    refine RunL.ok (OpOk.asF (OpOk.lss rfl rfl) (by omega)) rfl ?_
    refine RunL.nil ?_
    refine Run.condF rfl ?_
    refine Run.exit rfl ?_
    refine Run.seq ?_
    refine Run.region ?_
    refine RunL.ok (OpOk.assign rfl) rfl ?_
    refine RunL.nil ?_
    refine Run.ret1 Try.func20 rfl rfl ?_
    rw [decide_eq_true (by first | omega | with_reducible rfl | assumption)]
    exact ⟨rfl, rfl⟩
/-- What Totals answers of these. -/
structure TotIs (n : Int) (ps : List Po) (e : Int) (l : List Int) : Prop where
  out : totF n (shs ps) = (e, l)
theorem s17b {n e : Int} {u : Value} {m : Nat} {ps : List Po} {l : List Int} (rd : Rd w0 A u 3 m (Fl encT126 ps)) (al : Alls (GP w0) A ps) (ht : TotIs n ps e l) (hin : ∀ q ∈ ps, ∀ s ∈ q.2.2.2, inI s.2) (hL : (shs ps).length ≤ 1048576) :
    Spec Try.prog w0 17 [.int .i64 n, u] A (fun v' A' => ∃ v J, v' = .tuple #[v, .int .i64 e] ∧ A' = A * J * own 3 1 v l.length (I l)) := by
  have h := s17 (n := n) rd al hin hL
  rw [ht.out] at h
  exact h
theorem s17c {n : Int} {u : Value} {m : Nat} {ps : List Po} {L : List Sh} (rd : Rd w0 A u 3 m (Fl encT126 ps)) (al : Alls (GP w0) A ps) (hs : shs ps = L) (hin : ∀ q ∈ ps, ∀ s ∈ q.2.2.2, inI s.2) (hL : (shs ps).length ≤ 1048576) :
    Spec Try.prog w0 17 [.int .i64 n, u] A (fun v' A' => ∃ v J, v' = .tuple #[v, .int .i64 (totF n L).1] ∧ A' = A * J * own 3 1 v (totF n L).2.length (I (totF n L).2)) := by
  subst hs
  exact s17 rd al hin hL
end
end Go.Proofs.Yteopadjihklkmaa
