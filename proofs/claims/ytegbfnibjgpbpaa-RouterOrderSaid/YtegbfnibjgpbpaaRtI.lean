/- The router's plain law; contracts by contents. -/
import Derived.Test.YtegbfnibjgpbpaaRtH
namespace Go.Proofs.Ytegbfnibjgpbpaa
open Go Go.Proofs
set_option maxRecDepth 100000
set_option maxHeartbeats 4000000
set_option linter.unusedSimpArgs false
abbrev c0 : Cm := (0, 0, 0, 0, [])
/-- Next by contents: the message, the error, the rows behind it. -/
def nextC (C : List (List Cm)) (to : Int) : Cm × Int × List (List Cm) :=
  if 0 ≤ to ∧ to < (C.length : Int) then match C.getD to.toNat [] with
    | [] => (c0, 21, C)
    | m :: r => (m, 0, C.set to.toNat r)
  else (c0, 2, C)
/-- Rows and the reference's list. -/
structure RelC (C : List (List Cm)) (L : List Ms) : Prop where
  row : ∀ t, t < C.length → C.getD t [] = (wt (t : Int) L).map cm
  inn : ∀ m ∈ L, 0 ≤ m.2.2.1 ∧ m.2.2.1 < (C.length : Int)
def RowB (room : Int) (C : List (List Cm)) : Prop := ∀ t, t < C.length → ((C.getD t []).length : Int) ≤ room
theorem wt_snoc (to : Int) (L : List Ms) (m : Ms) : wt to (L ++ [m]) = wt to L ++ (if m.2.2.1 = to then [m] else []) := by
  rw [wt, List.filter_append, wt]
  congr 1
  rw [List.filter_cons, List.filter_nil]
  simp only [decide_eq_true_eq]
theorem wt_nil {to : Int} {L : List Ms} (h : wt to L = []) : ∀ j, j < L.length → (L.getD j default).2.2.1 ≠ to := fun j hj e => by
  have : L.getD j default ∈ wt to L := List.mem_filter.2 ⟨getD_mem hj, decide_eq_true e⟩
  rw [h] at this
  cases this
theorem wt_none {to : Int} {L : List Ms} (h : ∀ m ∈ L, m.2.2.1 ≠ to) : wt to L = [] := by
  rw [wt, List.filter_eq_nil_iff]
  intro m hm
  simp [h m hm]
theorem wt_first {to : Int} : ∀ {L : List Ms} {m : Ms} {r : List Ms}, wt to L = m :: r → ∃ q, q < L.length ∧ L.getD q default = m ∧ m.2.2.1 = to ∧ (∀ j, j < q → (L.getD j default).2.2.1 ≠ to) ∧ wt to (delM q L) = r ∧ ∀ s, s ≠ to → wt s (delM q L) = wt s L
  | [], m, r, h => by cases h
  | x :: L, m, r, h => by
    have hc : wt to (x :: L) = if x.2.2.1 = to then x :: wt to L else wt to L := by
      rw [wt, List.filter_cons, wt]
      simp only [decide_eq_true_eq]
    rw [hc] at h
    rcases Decidable.em (x.2.2.1 = to) with hx | hx
    · rw [if_pos hx] at h
      obtain ⟨rfl, rfl⟩ := List.cons.inj h
      refine ⟨0, Nat.zero_lt_succ _, rfl, hx, fun j hj => by omega, rfl, fun s hs => ?_⟩
      show wt s L = wt s (x :: L)
      rw [wt, wt, List.filter_cons]
      simp [show ¬ x.2.2.1 = s from fun e => hs (e.symm.trans hx)]
    · rw [if_neg hx] at h
      obtain ⟨q, h1, h2, h3, h4, h5, h6⟩ := wt_first h
      have hd : delM (q + 1) (x :: L) = x :: delM q L := rfl
      refine ⟨q + 1, by simpa using h1, by simpa using h2, h3, fun j hj => ?_, ?_, fun s hs => ?_⟩
      · cases j with
        | zero => simpa using hx
        | succ j => simpa using h4 j (by omega)
      · rw [hd, wt, List.filter_cons, ← h5, wt]
        simp [hx]
      · have h7 := h6 s hs
        rw [wt, wt] at h7
        rw [hd, wt, wt, List.filter_cons, List.filter_cons, h7]
theorem delM_mem {q : Nat} {L : List Ms} {m : Ms} (h : m ∈ delM q L) : m ∈ L := by
  rw [delM, List.mem_append] at h
  exact h.elim List.mem_of_mem_take List.mem_of_mem_drop
theorem offerC_len (room : Int) (C : List (List Cm)) (m : Cm) : (offerC room C m).length = C.length := by
  unfold offerC; split <;> simp
theorem rel_offer {room : Int} {C : List (List Cm)} {L : List Ms} {m : Ms} (h : RelC C L) : RelC (offerC room C (cm m)) (if fits room C m.2.2.1 then L ++ [m] else L) := by
  have hcm : (cm m).2.2.1 = m.2.2.1 := rfl
  rcases Decidable.em (fits room C m.2.2.1) with hf | hf
  · rw [if_pos hf]
    obtain ⟨h0, h1, h2⟩ := hf
    obtain ⟨t, ht⟩ := Int.eq_ofNat_of_zero_le h0
    refine ⟨fun s hs => ?_, fun x hx => ?_⟩
    · rw [offerC_len] at hs
      rw [offerC, hcm, if_pos ⟨h0, h1, h2⟩, wt_snoc, ht, Int.toNat_natCast, List.map_append]
      have h3 := h.row s hs
      rcases Decidable.em (s = t) with e | e
      · subst e
        rw [List.getD_eq_getElem?_getD, List.getElem?_set_self (by omega), if_pos rfl, h3]
        rfl
      · rw [List.getD_eq_getElem?_getD, List.getElem?_set_ne (fun e2 => e e2.symm), ← List.getD_eq_getElem?_getD, h3, if_neg (by omega)]
        simp
    · rw [offerC_len]
      rcases List.mem_append.1 hx with hx | hx
      · exact h.inn x hx
      · simp only [List.mem_singleton] at hx
        subst hx
        exact ⟨h0, h1⟩
  · rw [if_neg hf, offerC, hcm, if_neg hf]
    exact h
theorem row_offer {room : Int} {C : List (List Cm)} {m : Cm} (h : RowB room C) : RowB room (offerC room C m) := fun s hs => by
  rw [offerC_len] at hs
  unfold offerC
  split
  · rename_i hf
    obtain ⟨h0, h1, h2⟩ := hf
    obtain ⟨t, ht⟩ := Int.eq_ofNat_of_zero_le h0
    rw [ht, Int.toNat_natCast] at h2 ⊢
    rcases Decidable.em (s = t) with e | e
    · subst e
      rw [List.getD_eq_getElem?_getD, List.getElem?_set_self (by omega)]
      simp only [Option.getD_some, List.length_append, List.length_singleton]
      omega
    · rw [List.getD_eq_getElem?_getD, List.getElem?_set_ne (fun e2 => e e2.symm), ← List.getD_eq_getElem?_getD]
      exact h s hs
  · exact h s hs
theorem row_offers {room : Int} (l : List Cm) : ∀ {C : List (List Cm)}, RowB room C → RowB room (offersC room C l) := by
  induction l with
  | nil => exact fun h => h
  | cons m r ih => exact fun h => ih (row_offer h)
theorem nextC_len {C C2 : List (List Cm)} {to e : Int} {x : Cm} (h : nextC C to = (x, e, C2)) : C2.length = C.length := by
  unfold nextC at h
  split at h
  · split at h <;> (cases h; simp)
  · cases h; rfl
theorem row_next {room to e : Int} {C C2 : List (List Cm)} {x : Cm} (hn : nextC C to = (x, e, C2)) (h : RowB room C) : RowB room C2 := fun s hs => by
  rw [nextC_len hn] at hs
  unfold nextC at hn
  split at hn
  · rename_i hb
    split at hn
    · cases hn; exact h s hs
    · rename_i m r hm
      cases hn
      rcases Decidable.em (s = to.toNat) with e | e
      · subst e
        have := h _ hs
        rw [hm] at this
        rw [List.getD_eq_getElem?_getD, List.getElem?_set_self hs]
        simp only [Option.getD_some]
        rw [List.length_cons] at this
        omega
      · rw [List.getD_eq_getElem?_getD, List.getElem?_set_ne (fun e2 => e e2.symm), ← List.getD_eq_getElem?_getD]
        exact h s hs
  · cases hn; exact h s hs
theorem filt_sum (L : List Ms) : ∀ n : Nat, ((List.range n).map fun (t : Nat) => (wt (t : Int) L).length).sum = (L.filter fun m => decide (0 ≤ m.2.2.1 ∧ m.2.2.1 < (n : Int))).length
  | 0 => by
    rw [List.filter_eq_nil_iff.2 (fun m _ => by simp)]
    rfl
  | n + 1 => by
    rw [List.range_succ, List.map_append, List.sum_append, filt_sum L n]
    simp only [List.map_cons, List.map_nil, List.sum_cons, List.sum_nil, Nat.add_zero]
    induction L with
    | nil => rfl
    | cons x r ih =>
      have e1 : (wt (n : Int) (x :: r)).length = (wt (n : Int) r).length + if x.2.2.1 = (n : Int) then 1 else 0 := by
        rw [wt, List.filter_cons, wt]
        simp only [decide_eq_true_eq]
        split <;> simp
      rw [e1, List.filter_cons, List.filter_cons]
      simp only [decide_eq_true_eq]
      rcases Decidable.em (x.2.2.1 = (n : Int)) with h1 | h1
      · rw [if_pos h1, if_neg (by omega), if_pos (by omega), List.length_cons]
        omega
      · rcases Decidable.em (0 ≤ x.2.2.1 ∧ x.2.2.1 < (n : Int)) with h2 | h2
        · rw [if_neg h1, if_pos h2, if_pos (by omega), List.length_cons, List.length_cons]
          omega
        · rw [if_neg h1, if_neg h2, if_neg (by omega)]
          omega
def lenC (C : List (List Cm)) : Nat := (C.map List.length).sum
theorem cQ_lenQ (Q : List Qu) : lenC (cQ Q) = lenQ Q := by
  rw [lenC, cQ, List.map_map, lenQ]
  congr 1
  refine List.map_congr_left fun q _ => ?_
  simp
theorem lenC_rel {C : List (List Cm)} {L : List Ms} (h : RelC C L) : lenC C = L.length := by
  have e1 : L.filter (fun m => decide (0 ≤ m.2.2.1 ∧ m.2.2.1 < (C.length : Int))) = L := List.filter_eq_self.2 fun m hm => by
    have := h.inn m hm
    simp [this]
  have e2 := filt_sum L C.length
  rw [e1] at e2
  rw [← e2, lenC]
  congr 1
  refine List.ext_getElem (by simp) fun t h1 h2 => ?_
  simp only [List.length_map] at h1
  have h3 := congrArg List.length (h.row t h1)
  rw [List.getD_eq_getElem?_getD, List.getElem?_eq_getElem h1] at h3
  simpa using h3
theorem lenC_row {C : List (List Cm)} {room : Int} (h : RowB room C) (hr : room ≤ 16) : lenC C ≤ C.length * 16 := by
  have key : ∀ l : List Nat, (∀ x ∈ l, x ≤ 16) → l.sum ≤ l.length * 16 := fun l => by
    induction l with
    | nil => exact fun _ => Nat.le_refl _
    | cons a r ih =>
      intro hl
      have h1 := ih fun x hx => hl x (List.mem_cons_of_mem _ hx)
      have h2 := hl a (List.mem_cons_self ..)
      rw [List.sum_cons, List.length_cons]
      omega
  have := key (C.map List.length) fun x hx => by
    obtain ⟨q, hq, rfl⟩ := List.mem_map.1 hx
    obtain ⟨t, ht, rfl⟩ := List.mem_iff_getElem.1 hq
    have h1 := h t ht
    rw [List.getD_eq_getElem?_getD, List.getElem?_eq_getElem ht] at h1
    simp only [Option.getD_some] at h1
    omega
  rw [List.length_map] at this
  exact this
theorem rel_small {C : List (List Cm)} {L : List Ms} {room : Int} (h : RelC C L) (h1 : RowB room C) (hr : room ≤ 16) (h2 : C.length ≤ 5) : L.length ≤ 80 := by
  have := lenC_rel h
  have := lenC_row h1 hr
  omega
theorem offersC_len (room : Int) (l : List Cm) : ∀ C : List (List Cm), (offersC room C l).length = C.length := by
  induction l with
  | nil => exact fun _ => rfl
  | cons m r ih => exact fun C => (ih _).trans (offerC_len room C m)
theorem RowB.new (room : Int) (h : 0 ≤ room) (k : Nat) : RowB room (cQ (List.replicate k q0)) := fun t ht => by
  rw [cQ_len, List.length_replicate] at ht
  rw [cQ, List.getD_eq_getElem?_getD, List.getElem?_map, List.getElem?_replicate, if_pos ht]
  simpa [q0] using h
theorem RelC.new (k : Nat) : RelC (cQ (List.replicate k q0)) [] := ⟨fun t ht => by
  rw [cQ_len, List.length_replicate] at ht
  rw [cQ, List.getD_eq_getElem?_getD, List.getElem?_map, List.getElem?_replicate, if_pos ht]
  rfl, fun m hm => by cases hm⟩
end Go.Proofs.Ytegbfnibjgpbpaa
