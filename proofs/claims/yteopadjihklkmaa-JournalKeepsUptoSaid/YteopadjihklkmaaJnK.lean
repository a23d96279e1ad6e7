/- What files say: cut, appended to, torn. -/
import Derived.Test.YteopadjihklkmaaJnJ
namespace Go.Proofs.Yteopadjihklkmaa
open Go Go.Proofs
set_option maxRecDepth 100000
set_option maxHeartbeats 4000000
set_option linter.unusedSimpArgs false
set_option linter.unusedVariables false
theorem nextF_pre {d e body : List UInt8} {k : UInt8} {n : Nat} (h : nextF d = some (k, body, n)) : nextF (d.take n ++ e) = some (k, body, n) := by
  obtain ⟨_, h5, hl, _⟩ := nextF_some h
  have hl2 : (d.take n).length = n := by rw [List.length_take]; omega
  have g : ∀ i, i < n → (d.take n ++ e).getD i 0 = d.getD i 0 := fun i hi => by
    rw [List.getD_eq_getElem?_getD, List.getD_eq_getElem?_getD, List.getElem?_append_left (by omega), List.getElem?_take, if_pos hi]
  have t : (d.take n ++ e).take n = d.take n := List.take_left' hl2
  rw [nextF] at h
  split at h
  · rename_i hc
    simp only [Option.some.injEq, Prod.mk.injEq] at h
    obtain ⟨h1, h2, h3⟩ := h
    rw [h3] at hc h2
    rw [nextF, g 0 (by omega), g 1 (by omega), g 2 (by omega), h3, t, if_pos ⟨by rw [List.length_append]; omega, hc.2.1, by rw [List.length_append]; omega, hc.2.2.2⟩, h1, h2]
  · cases h
theorem row_eq (k : UInt8) (b : List UInt8) : rowB k b = k :: UInt8.ofNat (b.length / 2 ^ 8) :: UInt8.ofNat b.length :: (b ++ [hiB (headB k b ++ b), loB (headB k b ++ b)]) := by
  simp [rowB, sealed, headB]
theorem row_n {b : List UInt8} (hb : b.length ≤ 65535) : (UInt8.ofNat (b.length / 2 ^ 8)).toNat * 256 + (UInt8.ofNat b.length).toNat + 5 = b.length + 5 := by
  rw [UInt8.toNat_ofNat', UInt8.toNat_ofNat']
  omega
theorem nextF_row {k : UInt8} {b : List UInt8} (e : List UInt8) (hk : k.toNat = 1 ∨ k.toNat = 2) (hb : b.length ≤ 65535) : nextF (rowB k b ++ e) = some (k, b, b.length + 5) := by
  have hl := rowB_len k b
  have g0 : (rowB k b ++ e).getD 0 0 = k := by rw [row_eq]; rfl
  have g1 : (rowB k b ++ e).getD 1 0 = UInt8.ofNat (b.length / 2 ^ 8) := by rw [row_eq]; rfl
  have g2 : (rowB k b ++ e).getD 2 0 = UInt8.ofNat b.length := by rw [row_eq]; rfl
  have t : (rowB k b ++ e).take (b.length + 5) = rowB k b := List.take_left' hl
  have t2 : (rowB k b).take (b.length + 5 - 2) = headB k b ++ b := by
    rw [rowB, sealed]
    exact List.take_left' (by simp [headB])
  rw [nextF, g0, g1, g2, row_n hb, t, t2, if_pos ⟨by rw [List.length_append]; omega, hk, by rw [List.length_append]; omega, rfl⟩]
  rfl
theorem says_pre : ∀ (n : Nat) (d e : List UInt8), d.length ≤ n → says (d.take (says d).2 ++ e) = ((says d).1 ++ (says e).1, (says d).2 + (says e).2) := by
  intro n
  induction n with
  | zero =>
    intro d e h
    rw [List.eq_nil_of_length_eq_zero (by omega : d.length = 0), says_nil]
    simp
  | succ n ih =>
    intro d e h
    cases hn : nextF d with
    | none =>
      rw [says_none hn]
      simp
    | some q =>
      obtain ⟨k, body, m⟩ := q
      obtain ⟨_, h5, hl, h65, _, hb⟩ := nextF_some hn
      have hdl : (d.drop m).length = d.length - m := List.length_drop
      have hi := ih (d.drop m) e (by omega)
      have hml : (d.take m).length = m := by rw [List.length_take]; omega
      rw [says_some hn]
      dsimp only
      rw [List.take_add, List.append_assoc, says_some (nextF_pre hn), List.drop_left' hml, hi]
      dsimp only
      rw [List.cons_append, Nat.add_assoc]
theorem says_cut (d : List UInt8) : says (d.take (says d).2) = says d := by
  have := says_pre d.length d [] (Nat.le_refl _)
  rw [says_nil, List.append_nil] at this
  simpa using this
theorem says_row {k : UInt8} {b : List UInt8} (e : List UInt8) (hk : k.toNat = 1 ∨ k.toNat = 2) (hb : b.length ≤ 65535) : says (rowB k b ++ e) = ((k, b) :: (says e).1, b.length + 5 + (says e).2) := by
  rw [says_some (nextF_row e hk hb), List.drop_left' (rowB_len k b)]
theorem rowsB_cons (k : UInt8) (b : List UInt8) (l : List (List UInt8)) : rowsB k (b :: l) = rowB k b ++ rowsB k l := by simp [rowsB]
theorem says_rows {k : UInt8} (hk : k.toNat = 1 ∨ k.toNat = 2) (e : List UInt8) : ∀ {l : List (List UInt8)}, l.all fine = true → says (rowsB k l ++ e) = (l.map (fun b => (k, b)) ++ (says e).1, (rowsB k l).length + (says e).2)
  | [], _ => by simp [rowsB]
  | b :: r, h => by
    rw [List.all_cons, Bool.and_eq_true] at h
    rw [rowsB_cons, List.append_assoc, says_row _ hk (of_decide_eq_true h.1), says_rows hk e h.2, List.length_append, rowB_len]
    simp only [List.map_cons, List.cons_append, Nat.add_assoc]
theorem says_more {k : UInt8} (hk : k.toNat = 1 ∨ k.toNat = 2) {d e : List UInt8} {l : List (List UInt8)} (hw : (says d).2 = d.length) (h : l.all fine = true) : says (d ++ rowsB k l ++ e) = ((says d).1 ++ (l.map (fun b => (k, b)) ++ (says e).1), d.length + ((rowsB k l).length + (says e).2)) := by
  have := says_pre d.length d (rowsB k l ++ e) (Nat.le_refl _)
  rw [hw, List.take_of_length_le (Nat.le_refl _), says_rows hk e h] at this
  rw [List.append_assoc]
  exact this
theorem contC_more {k : UInt8} (hk : k.toNat = 1 ∨ k.toNat = 2) {d : List UInt8} {l : List (List UInt8)} (hw : (says d).2 = d.length) (h : l.all fine = true) : contC (d ++ rowsB k l) = takesC k (contC d) l ∧ (says (d ++ rowsB k l)).2 = (d ++ rowsB k l).length := by
  have := says_more hk (e := []) hw h
  rw [says_nil, List.append_nil] at this
  rw [contC, this]
  dsimp only
  refine ⟨?_, by rw [List.length_append]; rfl⟩
  rw [List.append_nil, List.foldl_append, List.foldl_map]
  rfl
/-- A part of a row is none. -/
theorem nextF_torn {k : UInt8} {b : List UInt8} {j : Nat} (hb : b.length ≤ 65535) (hj : j < b.length + 5) : nextF ((rowB k b).take j) = none := by
  have hl := rowB_len k b
  have hl2 : ((rowB k b).take j).length = j := by rw [List.length_take]; omega
  rw [nextF, if_neg]
  rintro ⟨h3, _, hn, _⟩
  rw [hl2] at h3 hn
  have g : ∀ i, i < 3 → ((rowB k b).take j).getD i 0 = (rowB k b).getD i 0 := fun i hi => by
    rw [List.getD_eq_getElem?_getD, List.getD_eq_getElem?_getD, List.getElem?_take, if_pos (by omega)]
  have g1 : (rowB k b).getD 1 0 = UInt8.ofNat (b.length / 2 ^ 8) := by rw [row_eq]; rfl
  have g2 : (rowB k b).getD 2 0 = UInt8.ofNat b.length := by rw [row_eq]; rfl
  rw [g 1 (by decide), g 2 (by decide), g1, g2, row_n hb] at hn
  omega
/-- A part of some rows says the first of them. -/
theorem says_torn {k : UInt8} (hk : k.toNat = 1 ∨ k.toNat = 2) : ∀ {l : List (List UInt8)} {j : Nat}, l.all fine = true → j < (rowsB k l).length → ∃ q, q < l.length ∧ (rowsB k (l.take q)).length ≤ j ∧ says ((rowsB k l).take j) = ((l.take q).map (fun b => (k, b)), (rowsB k (l.take q)).length)
  | [], j, _, hj => by simp [rowsB] at hj
  | b :: r, j, h, hj => by
    rw [List.all_cons, Bool.and_eq_true] at h
    have hb : b.length ≤ 65535 := of_decide_eq_true h.1
    have hl := rowB_len k b
    rw [rowsB_cons, List.length_append] at hj
    rw [rowsB_cons]
    rcases Nat.lt_or_ge j (b.length + 5) with hlt | hge
    · refine ⟨0, by simp, by simp [rowsB], ?_⟩
      rw [List.take_append_of_le_length (by omega), says_none (nextF_torn hb hlt)]
      simp [rowsB]
    · obtain ⟨q, h1, h2, h3⟩ := says_torn hk (l := r) (j := j - (rowB k b).length) h.2 (by omega)
      refine ⟨q + 1, by rw [List.length_cons]; omega, ?_, ?_⟩
      · rw [List.take_succ_cons, rowsB_cons, List.length_append]
        omega
      · rw [List.take_append, List.take_of_length_le (by omega), says_row _ hk hb, h3, List.take_succ_cons, rowsB_cons, List.length_append, hl]
        rfl
end Go.Proofs.Yteopadjihklkmaa
