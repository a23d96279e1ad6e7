/- Plain laws: order in one row; what is for others doesn't matter. -/
import Derived.Test.YtegbfnibjgpbpaaRtM
namespace Go.Proofs.Ytegbfnibjgpbpaa
open Go Go.Proofs
set_option maxRecDepth 100000
set_option maxHeartbeats 4000000
set_option linter.unusedSimpArgs false
def rowO (t : Nat) (a b : Int) : List Cm := (List.range (b - a).toNat).map fun (j : Nat) => ((0, 0, (t : Int), a + (j : Int) + 1, []) : Cm)
theorem rowO_len (t : Nat) (a b : Int) : (rowO t a b).length = (b - a).toNat := by simp [rowO]
theorem rowO_snoc (t : Nat) {a b : Int} (h : a ≤ b) : rowO t a (b + 1) = rowO t a b ++ [(0, 0, (t : Int), b + 1, [])] := by
  rw [rowO, show (b + 1 - a).toNat = (b - a).toNat + 1 by omega, List.range_succ, List.map_append, rowO]
  simp only [List.map_cons, List.map_nil]
  rw [show a + ((b - a).toNat : Int) + 1 = b + 1 by omega]
theorem rowO_cons (t : Nat) {a b : Int} (h : a < b) : rowO t a b = (0, 0, (t : Int), a + 1, []) :: rowO t (a + 1) b := by
  rw [rowO, show (b - a).toNat = (b - (a + 1)).toNat + 1 by omega, List.range_succ_eq_map, List.map_cons, List.map_map, rowO]
  congr 1
  · simp
  · refine List.map_congr_left fun j _ => ?_
    simp only [Function.comp]
    rw [show a + ((j.succ : Nat) : Int) + 1 = a + 1 + (j : Int) + 1 by omega]
theorem rowO_nil (t : Nat) {a b : Int} (h : b ≤ a) : rowO t a b = [] := by
  rw [rowO, show (b - a).toNat = 0 by omega]; rfl
theorem getD_set_eq {α : Type} {l : List α} {i : Nat} {d x : α} (h : i < l.length) : (l.set i x).getD i d = x := by
  rw [List.getD_eq_getElem?_getD, List.getElem?_set_self h]; rfl
theorem getD_set_ne {α : Type} {l : List α} {i j : Nat} {d x : α} (h : i ≠ j) : (l.set i x).getD j d = l.getD j d := by
  rw [List.getD_eq_getElem?_getD, List.getElem?_set_ne h, ← List.getD_eq_getElem?_getD]
structure OrdI (room : Int) (C : List (List Cm)) (tk nx : List Int) (i : Nat) : Prop where
  l0 : C.length = 4
  l1 : tk.length = 4
  l2 : nx.length = 4
  row : ∀ t, t < 4 → C.getD t [] = rowO t (nx.getD t 0) (tk.getD t 0)
  le : ∀ t, t < 4 → 0 ≤ nx.getD t 0 ∧ nx.getD t 0 ≤ tk.getD t 0 ∧ tk.getD t 0 ≤ (i : Int)
  rb : RowB room C
theorem OrdI.len {room : Int} {C : List (List Cm)} {tk nx : List Int} {i t : Nat} (h : OrdI room C tk nx i) (ht : t < 4) : ((C.getD t []).length : Int) = tk.getD t 0 - nx.getD t 0 := by
  have := h.le t ht
  rw [h.row t ht, rowO_len]
  omega
theorem OrdI.up {room : Int} {C : List (List Cm)} {tk nx : List Int} {i : Nat} (h : OrdI room C tk nx i) : OrdI room C tk nx (i + 1) := ⟨h.l0, h.l1, h.l2, h.row, fun t ht => by
  have := h.le t ht
  omega, h.rb⟩
theorem OrdI.put {room : Int} {C : List (List Cm)} {tk nx : List Int} {i t : Nat} (h : OrdI room C tk nx i) (ht : t < 4) (hf : ((C.getD t []).length : Int) < room) : OrdI room (offerC room C (0, 0, (t : Int), tk.getD t 0 + 1, [])) (tk.set t (tk.getD t 0 + 1)) nx (i + 1) := by
  have hff : fits room C (t : Int) := ⟨by omega, by rw [h.l0]; omega, by rw [Int.toNat_natCast]; exact hf⟩
  have hle := h.le t ht
  refine ⟨(offerC_len _ _ _).trans h.l0, by rw [List.length_set]; exact h.l1, h.l2, fun s hs => ?_, fun s hs => ?_, row_offer h.rb⟩
  · rw [offerC, if_pos hff]
    simp only [Int.toNat_natCast]
    rcases Decidable.em (t = s) with e | e
    · subst e
      rw [getD_set_eq (by rw [h.l0]; exact ht), getD_set_eq (by rw [h.l1]; exact ht), rowO_snoc t hle.2.1, h.row t ht]
    · rw [getD_set_ne e, getD_set_ne e]
      exact h.row s hs
  · have := h.le s hs
    rcases Decidable.em (t = s) with e | e
    · subst e
      rw [getD_set_eq (by rw [h.l1]; exact ht)]
      omega
    · rw [getD_set_ne e]
      omega
theorem OrdI.take {room : Int} {C : List (List Cm)} {tk nx : List Int} {i t : Nat} (h : OrdI room C tk nx i) (ht : t < 4) (hlt : nx.getD t 0 < tk.getD t 0) : ∃ C2, nextC C (t : Int) = ((0, 0, (t : Int), nx.getD t 0 + 1, []), 0, C2) ∧ OrdI room C2 tk (nx.set t (nx.getD t 0 + 1)) (i + 1) := by
  have hle := h.le t ht
  have hb : 0 ≤ (t : Int) ∧ (t : Int) < (C.length : Int) := ⟨by omega, by rw [h.l0]; omega⟩
  have e : nextC C (t : Int) = ((0, 0, (t : Int), nx.getD t 0 + 1, []), 0, C.set t (rowO t (nx.getD t 0 + 1) (tk.getD t 0))) := by
    rw [nextC, if_pos hb, Int.toNat_natCast, h.row t ht, rowO_cons t hlt]
  refine ⟨_, e, by rw [List.length_set]; exact h.l0, h.l1, by rw [List.length_set]; exact h.l2, fun s hs => ?_, fun s hs => ?_, row_next e h.rb⟩
  · rcases Decidable.em (t = s) with e | e
    · subst e
      rw [getD_set_eq (by rw [h.l0]; exact ht), getD_set_eq (by rw [h.l2]; exact ht)]
    · rw [getD_set_ne e, getD_set_ne e]
      exact h.row s hs
  · have := h.le s hs
    rcases Decidable.em (t = s) with e | e
    · subst e
      rw [getD_set_eq (by rw [h.l2]; exact ht)]
      omega
    · rw [getD_set_ne e]
      omega
theorem OrdI.none {room : Int} {C : List (List Cm)} {tk nx : List Int} {i t : Nat} (h : OrdI room C tk nx i) (ht : t < 4) (hge : tk.getD t 0 ≤ nx.getD t 0) : nextC C (t : Int) = ((0, 0, 0, 0, []), 21, C) := by
  have hb : 0 ≤ (t : Int) ∧ (t : Int) < (C.length : Int) := ⟨by omega, by rw [h.l0]; omega⟩
  rw [nextC, if_pos hb, Int.toNat_natCast, h.row t ht, rowO_nil t hge]
theorem OrdI.wait {room : Int} {C : List (List Cm)} {tk nx : List Int} {i t : Nat} (h : OrdI room C tk nx i) (ht : t < 4) : waitC C (t : Int) = rowO t (nx.getD t 0) (tk.getD t 0) := by
  rw [waitC, if_pos ⟨by omega, by rw [h.l0]; omega⟩, Int.toNat_natCast, h.row t ht]
theorem rowO_bd (t : Nat) (a b : Int) : ∀ m ∈ rowO t a b, m.2.2.2.2.length ≤ 140737488351232 := fun m hm => by
  obtain ⟨j, _, rfl⟩ := List.mem_map.1 hm
  simp
theorem OrdI.new (room : Int) (h : 1 ≤ room) : OrdI room (cQ (List.replicate 4 q0)) [0, 0, 0, 0] [0, 0, 0, 0] 0 := by
  refine ⟨rfl, rfl, rfl, fun t ht => ?_, fun t ht => ?_, RowB.new room (by omega) 4⟩
  · have : t = 0 ∨ t = 1 ∨ t = 2 ∨ t = 3 := by omega
    rcases this with rfl | rfl | rfl | rfl <;> rfl
  · have : t = 0 ∨ t = 1 ∨ t = 2 ∨ t = 3 := by omega
    rcases this with rfl | rfl | rfl | rfl <;> simp
/-! ### What is for others -/
def step1 (room : Int) (r : List Cm) (m : Cm) : List Cm := if (r.length : Int) < room then r ++ [m] else r
theorem row_step {room : Int} {C : List (List Cm)} {m : Cm} {t : Nat} (ht : t < C.length) : (offerC room C m).getD t [] = if m.2.2.1 = (t : Int) then step1 room (C.getD t []) m else C.getD t [] := by
  unfold offerC step1
  rcases Decidable.em (m.2.2.1 = (t : Int)) with e | e
  · rw [if_pos e]
    rcases Decidable.em (((C.getD t []).length : Int) < room) with h | h
    · rw [if_pos h, e, if_pos ⟨by omega, by omega, by rw [Int.toNat_natCast]; exact h⟩, Int.toNat_natCast, getD_set_eq ht]
    · rw [if_neg h, e, if_neg (fun hf => h (by have := hf.2.2; rwa [Int.toNat_natCast] at this))]
  · rw [if_neg e]
    split
    · rename_i hf
      rw [getD_set_ne (fun h => e (by have := hf.1; omega))]
    · rfl
def BodB (C : List (List Cm)) : Prop := ∀ t, t < C.length → ∀ m ∈ C.getD t [], m.2.2.2.2.length ≤ 140737488351232
theorem bod_offer {room : Int} {C : List (List Cm)} {m : Cm} (h : BodB C) (hm : m.2.2.2.2.length ≤ 140737488351232) : BodB (offerC room C m) := fun t ht x hx => by
  rw [offerC_len] at ht
  rw [row_step ht] at hx
  split at hx
  · unfold step1 at hx
    split at hx
    · rcases List.mem_append.1 hx with hx | hx
      · exact h t ht x hx
      · rw [List.mem_singleton.1 hx]; exact hm
    · exact h t ht x hx
  · exact h t ht x hx
theorem bod_offers {room : Int} : ∀ {l : List Cm} {C : List (List Cm)}, BodB C → (∀ m ∈ l, m.2.2.2.2.length ≤ 140737488351232) → BodB (offersC room C l)
  | [], _, h, _ => h
  | m :: r, _, h, hl => bod_offers (l := r) (bod_offer h (hl m (List.mem_cons_self ..))) fun x hx => hl x (List.mem_cons_of_mem _ hx)
theorem next_row {C C2 : List (List Cm)} {to e : Int} {x : Cm} (h : nextC C to = (x, e, C2)) {t : Nat} (ht : t < C.length) : C2.getD t [] = if to = (t : Int) then (C.getD t []).tail else C.getD t [] := by
  unfold nextC at h
  split at h
  · rename_i hb
    split at h
    · rename_i hn
      cases h
      split
      · rename_i e2
        subst e2
        rw [Int.toNat_natCast] at hn
        rw [hn]; rfl
      · rfl
    · rename_i m r hm
      cases h
      split
      · rename_i e2
        subst e2
        rw [Int.toNat_natCast] at hm ⊢
        rw [getD_set_eq ht, hm]; rfl
      · rename_i e2
        rw [getD_set_ne (fun h => e2 (by omega))]
  · rename_i hb
    cases h
    rw [if_neg (fun e2 => hb (by omega))]
theorem bod_next {C C2 : List (List Cm)} {to e : Int} {x : Cm} (h : nextC C to = (x, e, C2)) (hb : BodB C) : BodB C2 := fun t ht m hm => by
  rw [nextC_len h] at ht
  rw [next_row h ht] at hm
  split at hm
  · exact hb t ht m (List.mem_of_mem_tail hm)
  · exact hb t ht m hm
theorem next_same {C D C2 : List (List Cm)} {e : Int} {x : Cm} {t : Nat} (h : nextC C (t : Int) = (x, e, C2)) (h1 : t < C.length) (h2 : t < D.length) (hr : C.getD t [] = D.getD t []) : ∃ D2, nextC D (t : Int) = (x, e, D2) := by
  unfold nextC at h ⊢
  rw [if_pos ⟨by omega, by omega⟩, Int.toNat_natCast] at h
  rw [if_pos ⟨by omega, by omega⟩, Int.toNat_natCast, ← hr]
  split at h
  · cases h; exact ⟨_, rfl⟩
  · cases h; exact ⟨_, rfl⟩
theorem wait_row {C : List (List Cm)} {t : Nat} (ht : t < C.length) : waitC C (t : Int) = C.getD t [] := by
  rw [waitC, if_pos ⟨by omega, by omega⟩, Int.toNat_natCast]
theorem countC_one (room : Int) (C : List (List Cm)) (m : Cm) : countC room C [m] = if fits room C m.2.2.1 then 1 else 0 := by
  have h := countC_snoc room C [] m
  exact h
theorem BodB.new (k : Nat) : BodB (cQ (List.replicate k q0)) := fun t ht m hm => by
  rw [cQ_len, List.length_replicate] at ht
  rw [cQ, List.getD_eq_getElem?_getD, List.getElem?_map, List.getElem?_replicate, if_pos ht] at hm
  cases hm
theorem mod_sh {z m : Int} {n : Nat} (hn : 0 < n) (hz : ((z.tmod n) + n).tmod n = m) : 0 ≤ m ∧ m < n := by
  subst hz
  have h2 := Int.emod_nonneg z (show (n : Int) ≠ 0 by omega)
  have h3 := Int.emod_lt_of_pos z (show (0 : Int) < n by omega)
  have h4 : 0 ≤ z.tmod n + n := by
    have := Int.lt_tmod_of_pos z (show (0 : Int) < n by omega)
    omega
  rw [Int.tmod_eq_emod_of_nonneg h4]
  exact ⟨Int.emod_nonneg _ (by omega), Int.emod_lt_of_pos _ (by omega)⟩
theorem row_len3 {ys : List Ms} {t : Nat} {a b : Int} (e : ys.map cm = rowO t a b) (h : 0 ≤ a ∧ a ≤ b ∧ b ≤ 1000) : (ys.length : Int) = b - a := by
  have h1 := congrArg List.length e
  rw [List.length_map, rowO_len] at h1
  omega
theorem row_eq {ys : List Ms} {t : Nat} {a b : Int} (e : ys.map cm = rowO t a b) (h : 0 ≤ a ∧ a ≤ b ∧ b ≤ 1000) : (ys.length : Int) = IntKind.i64.wrap (b - a) := by
  rw [wrapI (by omega) (by omega)]
  exact row_len3 e h
theorem mod_w (z : Int) {n : Nat} (hn : 0 < n) (hn2 : n ≤ 1000) : 0 ≤ (IntKind.i64.wrap (z.tmod n + n)).tmod n ∧ (IntKind.i64.wrap (z.tmod n + n)).tmod n < n := by
  have h1 := Int.tmod_lt_of_pos z (show (0 : Int) < n by omega)
  have h2 := Int.lt_tmod_of_pos z (show (0 : Int) < n by omega)
  rw [wrapI (by omega) (by omega)]
  exact mod_sh hn rfl
theorem mod_16 (z : Int) : ∃ r : Int, IntKind.i64.wrap (1 + (IntKind.i64.wrap (z.tmod 16 + 16)).tmod 16) = r ∧ 1 ≤ r ∧ r ≤ 16 := by
  obtain ⟨h1, h2⟩ : 0 ≤ (IntKind.i64.wrap (z.tmod 16 + 16)).tmod 16 ∧ (IntKind.i64.wrap (z.tmod 16 + 16)).tmod 16 < 16 := mod_w z (n := 16) (by decide) (by decide)
  exact ⟨_, wrapI (by omega) (by omega), by omega, by omega⟩
theorem mod_4 (z : Int) : ∃ t : Nat, (IntKind.i64.wrap (z.tmod 4 + 4)).tmod 4 = (t : Int) ∧ t < 4 := by
  obtain ⟨h1, h2⟩ : 0 ≤ (IntKind.i64.wrap (z.tmod 4 + 4)).tmod 4 ∧ (IntKind.i64.wrap (z.tmod 4 + 4)).tmod 4 < 4 := mod_w z (n := 4) (by decide) (by decide)
  exact ⟨((IntKind.i64.wrap (z.tmod 4 + 4)).tmod 4).toNat, by omega, by omega⟩
end Go.Proofs.Ytegbfnibjgpbpaa
