/- Balances as the document reckons them; the document's Post. -/
import Derived.Test.YtegbfnibjgpbpaaLg9
namespace Go.Proofs.Ytegbfnibjgpbpaa
open Go Go.Proofs
set_option maxRecDepth 100000
set_option maxHeartbeats 4000000
set_option linter.unusedSimpArgs false
def amtS (op : Int) (l : List Sh) : List Int := (l.filter fun s => decide (s.1 = op)).map Prod.snd
def amts (op : Int) (l : List Po) : List Int := l.flatMap fun p => amtS op p.2.2.2
theorem amtS_yes {op : Int} {l : List Sh} {i : Nat} (h : i < l.length) (hc : (l.getD i default).1 = op) : amtS op (l.take (i + 1)) = amtS op (l.take i) ++ [(l.getD i default).2] := by
  rw [take_next h, amtS, List.filter_append, List.map_append, amtS]
  have e : ([l.getD i default].filter fun s : Sh => decide (s.1 = op)) = [l.getD i default] := by
    rw [List.filter_cons, if_pos (decide_eq_true hc)]; rfl
  rw [e]; rfl
theorem amtS_no {op : Int} {l : List Sh} {i : Nat} (h : i < l.length) (hc : ¬ (l.getD i default).1 = op) : amtS op (l.take (i + 1)) = amtS op (l.take i) := by
  rw [take_next h, amtS, List.filter_append, List.map_append, amtS]
  have e : ([l.getD i default].filter fun s : Sh => decide (s.1 = op)) = [] := by
    rw [List.filter_cons, if_neg (by rw [decide_eq_true_eq]; exact hc)]; rfl
  rw [e]; simp
theorem amts_next {op : Int} {l : List Po} {i : Nat} (h : i < l.length) : amts op (l.take (i + 1)) = amts op (l.take i) ++ amtS op (l.getD i default).2.2.2 := by
  rw [take_next h, amts, List.flatMap_append, amts]
  simp
theorem amts_append {op : Int} (l m : List Po) : amts op (l ++ m) = amts op l ++ amts op m := by
  unfold amts; rw [List.flatMap_append]
theorem amtS_len (op : Int) (l : List Sh) : (amtS op l).length ≤ l.length := by
  unfold amtS; rw [List.length_map]; exact List.length_filter_le _ _
theorem amts_len (op : Int) : ∀ {l : List Po}, (∀ q ∈ l, q.2.2.2.length ≤ 1048576) → (amts op l).length ≤ l.length * 1048576
  | [], _ => by simp [amts]
  | q :: r, h => by
    have h1 := amts_len op (l := r) (fun p hp => h p (by simp [hp]))
    have h2 := amtS_len op q.2.2.2
    have h3 := h q (by simp)
    have e : amts op (q :: r) = amtS op q.2.2.2 ++ amts op r := by simp [amts]
    rw [e, List.length_append, List.length_cons]
    omega
theorem amts_in {op : Int} {l : List Po} (h : ∀ q ∈ l, ∀ s ∈ q.2.2.2, inI s.2) : ∀ z ∈ amts op l, inI z := fun z hz => by
  obtain ⟨q, hq, hz⟩ := List.mem_flatMap.1 hz
  obtain ⟨s, hs, rfl⟩ := List.mem_map.1 hz
  exact h q hq s (List.mem_filter.1 hs).1
theorem getD_set1 {l : List Int} {k : Nat} {z : Int} (h : k < l.length) : (l.set k z).getD k 0 = z := by
  rw [List.getD_eq_getElem?_getD, List.getElem?_set_self h]; rfl
theorem getD_set2 {l : List Int} {k j : Nat} {z : Int} (h : j ≠ k) : (l.set j z).getD k 0 = l.getD k 0 := by
  rw [List.getD_eq_getElem?_getD, List.getElem?_set_ne h, ← List.getD_eq_getElem?_getD]
theorem amtS_cons_yes {k : Nat} {s : Sh} {r : List Sh} (h : s.1.toNat = k) (h1 : 1 ≤ s.1) : amtS (k : Int) (s :: r) = s.2 :: amtS (k : Int) r := by
  have : s.1 = (k : Int) := by omega
  simp [amtS, List.filter_cons, this]
theorem amtS_cons_no {k : Nat} {s : Sh} {r : List Sh} (h : s.1.toNat ≠ k) (h1 : 1 ≤ s.1) : amtS (k : Int) (s :: r) = amtS (k : Int) r := by
  have : ¬ s.1 = (k : Int) := by omega
  simp [amtS, List.filter_cons, this]
theorem adds_some {n : Nat} : ∀ {l : List Sh} {bal b : List Int}, addsO bal l = some b → (∀ s ∈ l, okS n s = true) → bal.length = n → ∀ k : Nat, sumO (bal.getD k 0) (amtS (k : Int) l) = some (b.getD k 0)
  | [], bal, b, h, _, _, k => by cases h; rfl
  | s :: r, bal, b, h, hok, hl, k => by
    simp only [addsO] at h
    have hs := hok s (by simp)
    simp only [okS, Bool.and_eq_true, decide_eq_true_eq] at hs
    split at h
    · rename_i hc
      have ih := adds_some h (fun q hq => hok q (by simp [hq])) (by rw [List.length_set]; exact hl) k
      rcases Decidable.em (s.1.toNat = k) with hk | hk
      · rw [amtS_cons_yes hk hs.1]
        subst hk
        rw [getD_set1 (by omega)] at ih
        simp only [sumO]
        rw [if_pos (show _ ∧ _ from hc)]
        exact ih
      · rw [amtS_cons_no hk hs.1, ← getD_set2 (z := bal.getD s.1.toNat 0 + s.2) hk]
        exact ih
    · cases h
theorem adds_none {n : Nat} : ∀ {l : List Sh} {bal : List Int}, addsO bal l = none → (∀ s ∈ l, okS n s = true) → bal.length = n → ∃ k : Nat, 1 ≤ k ∧ k < n ∧ sumO (bal.getD k 0) (amtS (k : Int) l) = none
  | [], bal, h, _, _ => by cases h
  | s :: r, bal, h, hok, hl => by
    simp only [addsO] at h
    have hs := hok s (by simp)
    simp only [okS, Bool.and_eq_true, decide_eq_true_eq] at hs
    split at h
    · rename_i hc
      obtain ⟨k, hk1, hk2, ih⟩ := adds_none h (fun q hq => hok q (by simp [hq])) (by rw [List.length_set]; exact hl)
      refine ⟨k, hk1, hk2, ?_⟩
      rcases Decidable.em (s.1.toNat = k) with hk | hk
      · rw [amtS_cons_yes hk hs.1]
        subst hk
        rw [getD_set1 (by omega)] at ih
        simp only [sumO]
        rw [if_pos (show _ ∧ _ from hc)]
        exact ih
      · rw [amtS_cons_no hk hs.1, ← getD_set2 (z := bal.getD s.1.toNat 0 + s.2) hk]
        exact ih
    · rename_i hc
      refine ⟨s.1.toNat, by omega, by omega, ?_⟩
      rw [amtS_cons_yes rfl hs.1]
      simp only [sumO]
      rw [if_neg (show ¬ (_ ∧ _) from hc)]
/-- Balances are the sums of all shares. -/
def Rel (n : Nat) (bal : List Int) (all : List Po) : Prop := ∀ k : Nat, 1 ≤ k → k < n → sumO 0 (amts (k : Int) all) = some (bal.getD k 0)
theorem Rel.app {n : Nat} {bal : List Int} {all : List Po} {p : Po} (h : Rel n bal all) {k : Nat} (h1 : 1 ≤ k) (h2 : k < n) : sumO 0 (amts (k : Int) (all ++ [p])) = sumO (bal.getD k 0) (amtS (k : Int) p.2.2.2) := by
  rw [amts_append, sumO_append, h k h1 h2]
  simp [amts]
theorem postF_rel {n : Nat} {ks : List (Int × Int)} : ∀ {ps : List Po} {bal b : List Int} {fr : List (Int × Int)} {all : List Po}, postF n ks bal fr ps = (0, b) → bal.length = n → Rel n bal all → Rel n b (all ++ ps)
  | [], bal, b, fr, all, h, _, hr => by cases h; simpa using hr
  | p :: r, bal, b, fr, all, h, hl, hr => by
    simp only [postF] at h
    split at h
    · split at h
      · cases h
      · cases ha : addsO bal p.2.2.2 with
        | none => rw [ha] at h; cases h
        | some c =>
          rw [ha] at h
          have hok := (right_sum (n := n) (p := p) ‹_›).2
          have := postF_rel h ((addsO_len ha).1.trans hl) (all := all ++ [p]) (fun k h1 h2 => by rw [hr.app h1 h2]; exact adds_some ha hok hl k)
          simpa using this
    · cases h
section
variable {w0 : World} {A : Asn} {p mb nb : Nat} {av pv : Value} {bal : List Int} {ks : List (Int × Int)} {L : List Po}
theorem s55c {u : Value} {m : Nat} {op : Int} {l : List Po} (rd : Rd w0 A u 3 m (Fl encT63 l)) (al : Alls (GP w0) A l) (hin : ∀ q ∈ l, ∀ s ∈ q.2.2.2, inI s.2) (hm : ∀ q ∈ l, q.2.2.2.length ≤ 1048576) (hL : l.length ≤ 1048576) :
    Spec Try.prog w0 55 [u, .int .i64 op] A (fun v' A' => ∃ (z : Int) (b : Bool) (J : Asn), v' = .tuple #[.int .i64 z, .bool b] ∧ ((sumO 0 (amts op l) = none ∧ z = 0 ∧ b = false) ∨ (sumO 0 (amts op l) = some z ∧ b = true)) ∧ A' = A * J) := by
  have hl0 := rd.lenFl (fun _ => rfl) (by decide)
  subst hl0
  have hmx := rd.max
  have hin2 := amts_in (op := op) hin
  refine Spec.of_run [(0, u), (1, .int .i64 op)] Try.func55 rfl (Nat.le_of_ble_eq_true rfl) (by repeat (first | exact trivial | refine ⟨rfl, ?_⟩)) ?_
  refine Run.seq ?_
  refine Run.region ?_
  refine RunL.ok (OpOk.assign rfl) rfl ?_
  refine RunL.ok (OpOk.assign rfl) rfl ?_
  refine RunL.nil ?_
  refine Run.seq ?_
  refine Run.region ?_
  refine RunL.ok (OpOk.assign rfl) rfl ?_
  refine RunL.nil ?_
  refine Run.seq ?_
  refine Run.seq ?_
  refine Run.region ?_
  refine RunL.ok (OpOk.assign rfl) rfl ?_
  refine RunL.nil ?_
  refine Run.block ?_
  refine Run.ent (Ent.ownNil' _ 3 1 (I []) rfl) ?_
  refine Run.mem (congrArg (· * _) (sep_emp _).symm) ?_
  refine Run.jump ((Run.loopJ (X := Nat × Asn × Value) (fun x => [(7, .int .i64 (x.1 : Int)), (6, x.2.2), (0, u), (1, .int .i64 op)]) (fun x => A * x.2.1 * own 3 1 x.2.2 (amts op (l.take x.1)).length (I (amts op (l.take x.1)))) (fun x => x.1 ≤ l.length) (fun x => l.length - x.1) (0, _, .slice none 0 0) (Nat.zero_le _) (fun x hx ih => ?_))) ⟨rfl, rfl, rfl, rfl, trivial⟩ (Grew.of (Eq.trans (frc rfl rfl) (congrArg (· * _) as1)) (Grew.refl _))
  obtain ⟨i, J, v6⟩ := x
  simp only at hx ih ⊢
  rcases Nat.lt_or_ge i l.length with hlt | hge
  · have rdi : Rd w0 A (l.getD i default).2.2.1.1 2 (l.getD i default).2.2.2.length (Fl encT97 (l.getD i default).2.2.2) := al.get hlt
    have hmi := hm _ (getD_mem hlt)
    have hz := amts_len op (l := l.take i) (fun q hq => hm q (List.mem_of_mem_take hq))
    have hzl : (l.take i).length ≤ 1048576 := by rw [List.length_take]; omega
    refine Run.seq ?_
    refine Run.seq ?_
    refine Run.region ?_
    refine RunL.ok (OpOk.move rfl) rfl ?_
    refine RunL.ok (OpOk.move rfl) rfl ?_
    refine RunL.ok (OpOk.lenR rfl rfl rd.left.left rfl) rfl ?_
    refine RunL.ok (OpOk.asT (OpOk.lss rfl rfl) (by omega)) rfl ?_
    refine RunL.nil ?_
    refine Run.condT rfl ?_
    refine Run.skip ?_
    refine Run.seq ?_
    refine Run.block ?_
    refine Run.seq ?_
    refine Run.region ?_
    refine RunL.ok (OpOk.assign rfl) rfl ?_
    refine RunL.nil ?_
    refine Run.block ?_
    rw [show amts op (l.take i) = amts op (l.take i) ++ amtS op ((l.getD i default).2.2.2.take 0) by simp [amtS]]
    refine Run.jump ((Run.loopJ (X := Nat × Asn × Value) (fun x => [(8, .int .i64 (x.1 : Int)), (7, .int .i64 (i : Int)), (6, x.2.2), (0, u), (1, .int .i64 op)]) (fun x => A * x.2.1 * own 3 1 x.2.2 (amts op (l.take i) ++ amtS op ((l.getD i default).2.2.2.take x.1)).length (I (amts op (l.take i) ++ amtS op ((l.getD i default).2.2.2.take x.1)))) (fun x => x.1 ≤ (l.getD i default).2.2.2.length) (fun x => (l.getD i default).2.2.2.length - x.1) (0, J, v6) (Nat.zero_le _) (fun x hx ih2 => ?_))) ⟨rfl, rfl, rfl, rfl, rfl, trivial⟩ ((Grew.refl _))
    obtain ⟨k, J2, v6⟩ := x
    simp only at hx ih2 ⊢
    have hz2 := amtS_len op ((l.getD i default).2.2.2.take k)
    rw [List.length_take] at hz2
    have hz3 : (amts op (l.take i) ++ amtS op ((l.getD i default).2.2.2.take k)).length ≤ 1099512676352 := by rw [List.length_append]; omega
    rcases Nat.lt_or_ge k (l.getD i default).2.2.2.length with hkt | hkg
    · rcases Decidable.em (((l.getD i default).2.2.2.getD k default).1 = op) with hc | hc
      · have e := amtS_yes (op := op) hkt hc
        refine Run.seq ?_
        refine Run.seq ?_
        refine Run.region ?_
        refine RunL.ok (OpOk.move rfl) rfl ?_
        refine RunL.ok (OpOk.move rfl) rfl ?_
        refine RunL.ok (OpOk.move rfl) rfl ?_
        refine RunL.ok (OpOk.idxN rfl ti63 rfl rd.left.left rfl (by omega)) rfl ?_
        refine RunL.ok (OpOk.fieldAddrA fld63_2 rfl) rfl ?_
        refine RunL.ok (OpOk.loadFl1 default rfl rfl rfl rd.left.left (fun _ => rfl) rfl (by omega) rfl) rfl ?_
        refine RunL.ok (OpOk.lenR rfl rfl rdi.left.left rfl) rfl ?_
        refine RunL.ok (OpOk.asT (OpOk.lss rfl rfl) (by omega)) rfl ?_
        refine RunL.nil ?_
        refine Run.condT rfl ?_
        refine Run.skip ?_
        refine Run.seq ?_
        refine Run.block ?_
        refine Run.seq ?_
        refine Run.region ?_
        refine RunL.ok (OpOk.move rfl) rfl ?_
        refine RunL.ok (OpOk.move rfl) rfl ?_
        refine RunL.ok (OpOk.idxN rfl ti63 rfl rd.left.left rfl (by omega)) rfl ?_
        refine RunL.ok (OpOk.fieldAddrA fld63_2 rfl) rfl ?_
        refine RunL.ok (OpOk.loadFl1 default rfl rfl rfl rd.left.left (fun _ => rfl) rfl (by omega) rfl) rfl ?_
        refine RunL.ok (OpOk.move rfl) rfl ?_
        refine RunL.ok (OpOk.idxN rfl ti97 rfl rdi.left.left rfl (by omega)) rfl ?_
        refine RunL.ok (OpOk.fieldAddrA fld97_0 rfl) rfl ?_
        refine RunL.ok (OpOk.loadFl1 default rfl rfl rfl rdi.left.left (fun _ => rfl) rfl (by omega) rfl) rfl ?_
        refine RunL.ok (OpOk.move rfl) rfl ?_
        refine RunL.ok (OpOk.asT (OpOk.eql rfl rfl) (by omega)) rfl ?_
        refine RunL.nil ?_
        refine Run.condT rfl ?_
        refine Run.region ?_
        refine RunL.ok (OpOk.move rfl) rfl ?_
        refine RunL.ok (OpOk.move rfl) rfl ?_
        refine RunL.ok (OpOk.move rfl) rfl ?_
        refine RunL.ok (OpOk.idxN rfl ti63 rfl rd.left.left rfl (by omega)) rfl ?_
        refine RunL.ok (OpOk.fieldAddrA fld63_2 rfl) rfl ?_
        refine RunL.ok (OpOk.loadFl1 default rfl rfl rfl rd.left.left (fun _ => rfl) rfl (by omega) rfl) rfl ?_
        refine RunL.ok (OpOk.move rfl) rfl ?_
        refine RunL.ok (OpOk.idxN rfl ti97 rfl rdi.left.left rfl (by omega)) rfl ?_
        refine RunL.ok (OpOk.fieldAddrA fld97_1 rfl) rfl ?_
        refine RunL.ok (OpOk.loadFl1 default rfl rfl rfl rdi.left.left (fun _ => rfl) rfl (by omega) rfl) rfl ?_
        refine RunL.litI (xs := [((l.getD i default).snd.snd.snd.getD k default).snd]) rfl ti3 rfl rfl rfl (by decide) rfl (fun vz1 rdz1 => ?_)
        refine RunL.know (fun w s => (s.conv rfl).ownRd0) (fun rdz3 => ?_)
        refine RunL.appendI rfl ti3 rfl rfl rfl (frl rfl) (Rd.right rdz3) (by omega) rfl rfl (fun vz2 rdz2 => ?_)
        refine RunL.ok (OpOk.assign rfl) rfl ?_
        refine RunL.nil ?_
        refine Run.inBlock ?_
        refine Run.region ?_
        refine RunL.ok (OpOk.move rfl) rfl ?_
        refine RunL.ok (OpOk.addN _ 1 rfl rfl rfl rfl (by omega)) rfl ?_
        refine RunL.ok (OpOk.assign rfl) rfl ?_
        refine RunL.nil ?_
        rw [show (amts op (l.take i) ++ amtS op ((l.getD i default).2.2.2.take k)).length + 1 = (amts op (l.take i) ++ amtS op ((l.getD i default).2.2.2.take (k + 1))).length by rw [e]; simp; omega, List.append_assoc, ← e]
        refine Run.jump ((ih2 (k + 1, _, _) (by dsimp only; omega) (by dsimp only; omega))) ⟨rfl, rfl, rfl, rfl, rfl, trivial⟩ (Grew.of (congrArg (· * _) (asg as1)) (Grew.refl _))
      · have e := amtS_no (op := op) hkt hc
        rw [← e]
        refine Run.seq ?_
        refine Run.seq ?_
        refine Run.region ?_
        refine RunL.ok (OpOk.move rfl) rfl ?_
        refine RunL.ok (OpOk.move rfl) rfl ?_
        refine RunL.ok (OpOk.move rfl) rfl ?_
        refine RunL.ok (OpOk.idxN rfl ti63 rfl rd.left.left rfl (by omega)) rfl ?_
        refine RunL.ok (OpOk.fieldAddrA fld63_2 rfl) rfl ?_
        refine RunL.ok (OpOk.loadFl1 default rfl rfl rfl rd.left.left (fun _ => rfl) rfl (by omega) rfl) rfl ?_
        refine RunL.ok (OpOk.lenR rfl rfl rdi.left.left rfl) rfl ?_
        refine RunL.ok (OpOk.asT (OpOk.lss rfl rfl) (by omega)) rfl ?_
        refine RunL.nil ?_
        refine Run.condT rfl ?_
        refine Run.skip ?_
        refine Run.seq ?_
        refine Run.block ?_
        refine Run.seq ?_
        refine Run.region ?_
        refine RunL.ok (OpOk.move rfl) rfl ?_
        refine RunL.ok (OpOk.move rfl) rfl ?_
        refine RunL.ok (OpOk.idxN rfl ti63 rfl rd.left.left rfl (by omega)) rfl ?_
        refine RunL.ok (OpOk.fieldAddrA fld63_2 rfl) rfl ?_
        refine RunL.ok (OpOk.loadFl1 default rfl rfl rfl rd.left.left (fun _ => rfl) rfl (by omega) rfl) rfl ?_
        refine RunL.ok (OpOk.move rfl) rfl ?_
        refine RunL.ok (OpOk.idxN rfl ti97 rfl rdi.left.left rfl (by omega)) rfl ?_
        refine RunL.ok (OpOk.fieldAddrA fld97_0 rfl) rfl ?_
        refine RunL.ok (OpOk.loadFl1 default rfl rfl rfl rdi.left.left (fun _ => rfl) rfl (by omega) rfl) rfl ?_
        refine RunL.ok (OpOk.move rfl) rfl ?_
        refine RunL.ok (OpOk.asF (OpOk.eql rfl rfl) (by omega)) rfl ?_
        refine RunL.nil ?_
        refine Run.condF rfl ?_
        refine Run.skip ?_
        refine Run.inBlock ?_
        refine Run.region ?_
        refine RunL.ok (OpOk.move rfl) rfl ?_
        refine RunL.ok (OpOk.addN _ 1 rfl rfl rfl rfl (by omega)) rfl ?_
        refine RunL.ok (OpOk.assign rfl) rfl ?_
        refine RunL.nil ?_
        refine Run.jump ((ih2 (k + 1, _, _) (by dsimp only; omega) (by dsimp only; omega))) ⟨rfl, rfl, rfl, rfl, rfl, trivial⟩ (Grew.of (congrArg (· * _) as1) (Grew.refl _))
    · obtain rfl : k = (l.getD i default).2.2.2.length := by omega
      clear ih2
      rw [List.take_length, ← amts_next hlt]
      refine Run.seq ?_
      refine Run.seq ?_
      refine Run.region ?_
      refine RunL.ok (OpOk.move rfl) rfl ?_
      refine RunL.ok (OpOk.move rfl) rfl ?_
      refine RunL.ok (OpOk.move rfl) rfl ?_
      refine RunL.ok (OpOk.idxN rfl ti63 rfl rd.left.left rfl (by omega)) rfl ?_
      refine RunL.ok (OpOk.fieldAddrA fld63_2 rfl) rfl ?_
      refine RunL.ok (OpOk.loadFl1 default rfl rfl rfl rd.left.left (fun _ => rfl) rfl (by omega) rfl) rfl ?_
      refine RunL.ok (OpOk.lenR rfl rfl rdi.left.left rfl) rfl ?_
      refine RunL.ok (OpOk.asF (OpOk.lss rfl rfl) (by omega)) rfl ?_
      refine RunL.nil ?_
      refine Run.condF rfl ?_
      refine Run.exit rfl ?_
      refine Run.inBlock ?_
      refine Run.region ?_
      refine RunL.ok (OpOk.move rfl) rfl ?_
      refine RunL.ok (OpOk.addN _ 1 rfl rfl rfl rfl (by omega)) rfl ?_
      refine RunL.ok (OpOk.assign rfl) rfl ?_
      refine RunL.nil ?_
      refine Run.jump ((ih (i + 1, _, _) (by dsimp only; omega) (by dsimp only; omega))) ⟨rfl, rfl, rfl, rfl, trivial⟩ (Grew.of (congrArg (· * _) as1) (Grew.refl _))
  · obtain rfl : i = l.length := by omega
    clear ih
    rw [List.take_length]
    cases hs : sumO 0 (amts op l) with
    | none =>
      refine Run.seq ?_
      refine Run.seq ?_
      refine Run.region ?_
      refine RunL.ok (OpOk.move rfl) rfl ?_
      refine RunL.ok (OpOk.move rfl) rfl ?_
      refine RunL.ok (OpOk.lenR rfl rfl rd.left.left rfl) rfl ?_
      refine RunL.ok (OpOk.asF (OpOk.lss rfl rfl) (by omega)) rfl ?_
      refine RunL.nil ?_
      refine Run.condF rfl ?_
      refine Run.exit rfl ?_
      refine Run.seq ?_
      refine Run.region ?_
      refine RunL.ok (OpOk.move rfl) rfl ?_
      refine RunL.know (fun w s => (s.conv rfl).ownRd0) (fun rdy1 => ?_)
      refine RunL.call cal75 rfl (s75b (Rd.right rdy1) (by assumption) (by assumption)) rfl (fun vy3 Ay3 hy3 => ?_)
      obtain ⟨rfl, rfl⟩ := hy3
      refine RunL.ok (OpOk.ext20 rfl) rfl ?_
      refine RunL.ok (OpOk.ext21 rfl) rfl ?_
      refine RunL.ok (OpOk.assign rfl) rfl ?_
      refine RunL.ok (OpOk.assign rfl) rfl ?_
      refine RunL.nil ?_
      refine Run.ret2 Try.func55 rfl rfl rfl ?_
      exact ⟨0, false, _, rfl, .inl ⟨rfl, rfl, rfl⟩, by ac_rfl⟩
    | some z =>
      refine Run.seq ?_
      refine Run.seq ?_
      refine Run.region ?_
      refine RunL.ok (OpOk.move rfl) rfl ?_
      refine RunL.ok (OpOk.move rfl) rfl ?_
      refine RunL.ok (OpOk.lenR rfl rfl rd.left.left rfl) rfl ?_
      refine RunL.ok (OpOk.asF (OpOk.lss rfl rfl) (by omega)) rfl ?_
      refine RunL.nil ?_
      refine Run.condF rfl ?_
      refine Run.exit rfl ?_
      refine Run.seq ?_
      refine Run.region ?_
      refine RunL.ok (OpOk.move rfl) rfl ?_
      refine RunL.know (fun w s => (s.conv rfl).ownRd0) (fun rdy1 => ?_)
      refine RunL.call cal75 rfl (s75a (Rd.right rdy1) (by assumption) (by assumption)) rfl (fun vy2 Ay2 hy2 => ?_)
      obtain ⟨rfl, rfl⟩ := hy2
      refine RunL.ok (OpOk.ext20 rfl) rfl ?_
      refine RunL.ok (OpOk.ext21 rfl) rfl ?_
      refine RunL.ok (OpOk.assign rfl) rfl ?_
      refine RunL.ok (OpOk.assign rfl) rfl ?_
      refine RunL.nil ?_
      refine Run.ret2 Try.func55 rfl rfl rfl ?_
      exact ⟨z, true, _, rfl, .inr ⟨rfl, rfl⟩, by ac_rfl⟩
theorem s55a {u : Value} {m : Nat} {op z : Int} {l : List Po} (rd : Rd w0 A u 3 m (Fl encT63 l)) (al : Alls (GP w0) A l) (hs : sumO 0 (amts op l) = some z) (hin : ∀ q ∈ l, ∀ s ∈ q.2.2.2, inI s.2) (hm : ∀ q ∈ l, q.2.2.2.length ≤ 1048576) (hL : l.length ≤ 1048576) :
    Spec Try.prog w0 55 [u, .int .i64 op] A (fun v' A' => ∃ (J : Asn), v' = .tuple #[.int .i64 z, .bool true] ∧ A' = A * J) := by
  refine (s55c rd al hin hm hL).mono ?_
  rintro v' A' ⟨z', b, J, rfl, h, rfl⟩
  rcases h with ⟨h, _⟩ | ⟨h, rfl⟩
  · rw [hs] at h; cases h
  · rw [hs] at h; cases h; exact ⟨J, rfl, rfl⟩
theorem s55b {u : Value} {m : Nat} {op : Int} {l : List Po} (rd : Rd w0 A u 3 m (Fl encT63 l)) (al : Alls (GP w0) A l) (hs : sumO 0 (amts op l) = none) (hin : ∀ q ∈ l, ∀ s ∈ q.2.2.2, inI s.2) (hm : ∀ q ∈ l, q.2.2.2.length ≤ 1048576) (hL : l.length ≤ 1048576) :
    Spec Try.prog w0 55 [u, .int .i64 op] A (fun v' A' => ∃ (J : Asn), v' = .tuple #[.int .i64 0, .bool false] ∧ A' = A * J) := by
  refine (s55c rd al hin hm hL).mono ?_
  rintro v' A' ⟨z', b, J, rfl, h, rfl⟩
  rcases h with ⟨_, rfl, rfl⟩ | ⟨h, rfl⟩
  · exact ⟨J, rfl, rfl⟩
  · rw [hs] at h; cases h
end
end Go.Proofs.Ytegbfnibjgpbpaa
