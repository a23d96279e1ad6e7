/- Arguments whose type holds itself: what can be read through them, by their bulk. Words of our own. -/
import Derived.Test.YtlheianbmpgefaaCow
namespace Go.Proofs.Ytlheianbmpgefaa
open Go Go.ChangeShapes Go.WideShapes
structure RepK (P : Program) (W : World) (e : TypeId) (C : Cod) (n k : Nat) : Prop where
  cells : P.cellsOf e = n
  len : ∀ a, (C.enc a).length = n
  out : ∀ {H : Type} {enc : TypeId × Value → H} (fuel : Nat) (cs : List Value) (x : DataW H × List MemPlace), DataW.trod enc P W 0 (fun _ => true) true fuel e cs = some x → Rows.uptoBulk x.1 ≤ k →
    ∃ a, cs = C.enc a ∧ C.good W a ∧ ((∀ q ∈ x.1.weights P e, q ≤ reachBytes) → C.sized a) ∧ C.bulk a ≤ Rows.uptoBulk x.1
theorem bulk_in {H : Type} (D : Nat → DataW H) : ∀ {n i : Nat}, i < n → Rows.uptoBulk (D i) ≤ Rows.uptoBulkAll ((List.range n).map D)
  | 0, _, h => by omega
  | n + 1, i, h => by
    have happ : ∀ (u v : List (DataW H)), Rows.uptoBulkAll (u ++ v) = Rows.uptoBulkAll u + Rows.uptoBulkAll v := by
      intro u v
      induction u with
      | nil => simp [Rows.uptoBulkAll]
      | cons q r ih2 => simp only [List.cons_append, Rows.uptoBulkAll, ih2]; omega
    rw [List.range_succ, List.map_append, happ]
    simp only [List.map_cons, List.map_nil, Rows.uptoBulkAll]
    rcases Nat.lt_or_ge i n with h1 | h1
    · have := bulk_in D h1
      omega
    · obtain rfl : i = n := by omega
      omega
theorem repK_w {P : Program} {W : World} {t e : TypeId} {C : Cod} {size bytes k : Nat} (h : P.underlying t = some (.slice e)) (hc : P.cellsOf t = 1) (hb : P.bytesOf e = bytes) (R : RepK P W e C size k) : RepK P W t (cW C size bytes) 1 (k + 1) :=
  ⟨hc, fun _ => rfl, fun fuel cs x hx hbk => by
    rcases Go.Deep.open_slice h hx with ⟨rfl, rfl⟩ | ⟨a, len, cap, m, n, D, Pl, rfl, _, hlc, hcm, hm, rfl, hel⟩
    · refine ⟨(⟨.slice none 0 0, rfl⟩, []), rfl, ⟨Rd.nil size, by simp⟩, fun _ => ⟨by simp, by simp⟩, by simp [cW, Rows.uptoBulk]⟩
    · simp only [if_true] at hm
      subst hm
      have key : ∀ i, i < len → ∃ y : C.α, W.cells? 0 (a.add (i * size)) size = some (C.enc y) ∧ C.good W y ∧ ((∀ q ∈ (D i).weights P e, q ≤ reachBytes) → C.sized y) ∧ C.bulk y ≤ Rows.uptoBulk (D i) := fun i hi => by
        obtain ⟨cs', h1, h2⟩ := hel i (by omega)
        obtain ⟨y, rfl, g1, g2, g3⟩ := R.out _ _ _ h2 (by
          simp only [Rows.uptoBulk] at hbk
          exact Nat.le_trans (bulk_in D hi) (by omega))
        rw [R.cells] at h1
        exact ⟨y, h1, g1, g2, g3⟩
      have build : ∀ l, l ≤ len → ∃ ys : List C.α, ys.length = l ∧ ∀ i y, ys[i]? = some y → W.cells? 0 (a.add (i * size)) size = some (C.enc y) ∧ C.good W y ∧ ((∀ q ∈ (D i).weights P e, q ≤ reachBytes) → C.sized y) ∧ C.bulk y ≤ Rows.uptoBulk (D i) := by
        intro l
        induction l with
        | zero => intro _; exact ⟨[], rfl, by simp⟩
        | succ l ih =>
          intro hl
          obtain ⟨ys, h1, h2⟩ := ih (by omega)
          obtain ⟨y, hy⟩ := key l (by omega)
          refine ⟨ys ++ [y], by simp [h1], fun i z hz => ?_⟩
          rw [List.getElem?_append] at hz
          by_cases hi : i < ys.length
          · rw [if_pos hi] at hz; exact h2 i z hz
          · rw [if_neg hi] at hz
            have hi2 : i - ys.length < 1 := by
              have := (List.getElem?_eq_some_iff.1 hz).1
              simpa using this
            have hi3 : i = l := by omega
            subst hi3
            rw [h1, Nat.sub_self] at hz
            simp at hz
            subst hz
            exact hy
      obtain ⟨ys, hys, hall⟩ := build len (Nat.le_refl _)
      have hmem : ∀ y ∈ ys, ∃ i, i < len ∧ ys[i]? = some y := fun y hy => by
        obtain ⟨i, hi, he⟩ := List.mem_iff_getElem.1 hy
        exact ⟨i, by omega, by rw [List.getElem?_eq_getElem hi, he]⟩
      refine ⟨(⟨.slice (some a) len m, rfl⟩, ys), rfl, ⟨⟨by rw [Fl_length R.len], by simp only [hys]; omega, some a, m, by simp [hys], by simp only [hys]; omega, fun _ => ⟨a, rfl, fun j u hj => ?_⟩⟩, fun y hy => ?_⟩, fun hq => ⟨?_, fun y hy => ?_⟩, ?_⟩
      · obtain ⟨i, hi, y, hy, k, hk, rfl, hu⟩ := Fl_at R.len hj
        obtain ⟨hcells, _⟩ := hall i y hy
        obtain ⟨_, _, hcell⟩ := World.cells?_some hcells
        have := hcell k hk
        rw [hu, Go.Deep.add_add] at this
        exact Cell.base0 this
      · obtain ⟨i, _, he⟩ := hmem y hy
        exact (hall i y he).2.1
      · have := hq ((((List.range len).map D).length + ((List.range (m - len)).map fun j => D (len + j)).length) * P.bytesOf e) (by simp [DataW.weights, h])
        rw [hb] at this
        simp only [List.length_map, List.length_range] at this
        simp only [hys]
        exact Nat.le_trans (Nat.mul_le_mul_right _ (by omega)) this
      · obtain ⟨i, hi, he⟩ := hmem y hy
        refine (hall i y he).2.2.1 fun q hqi => hq q ?_
        simp only [DataW.weights, h, List.mem_cons, List.mem_append]
        exact .inr (.inl (weights_all (List.mem_map.2 ⟨i, List.mem_range.2 hi, rfl⟩) q hqi))
      · simp only [cW, Rows.uptoBulk]
        have hb2 : ∀ l, l ≤ len → ((ys.take l).map C.bulk).sum ≤ Rows.uptoBulkAll ((List.range l).map D) := by
          intro l
          induction l with
          | zero => intro _; simp [Rows.uptoBulkAll]
          | succ l ih =>
            intro hl
            have happ : ∀ {H' : Type} (u v : List (DataW H')), Rows.uptoBulkAll (u ++ v) = Rows.uptoBulkAll u + Rows.uptoBulkAll v := by
              intro H' u v
              induction u with
              | nil => simp [Rows.uptoBulkAll]
              | cons q r ih2 => simp only [List.cons_append, Rows.uptoBulkAll, ih2]; omega
            rw [List.range_succ, List.map_append, happ, List.take_succ_eq_append_getElem (by omega), List.map_append, List.sum_append]
            have h1 := ih (by omega)
            have h2 := (hall l ys[l] (by rw [List.getElem?_eq_getElem (by omega)])).2.2.2
            simp only [List.map_cons, List.map_nil, List.sum_cons, List.sum_nil, Rows.uptoBulkAll]
            omega
        have := hb2 len (Nat.le_refl _)
        rw [List.take_of_length_le (by omega)] at this
        omega⟩
end Go.Proofs.Ytlheianbmpgefaa
