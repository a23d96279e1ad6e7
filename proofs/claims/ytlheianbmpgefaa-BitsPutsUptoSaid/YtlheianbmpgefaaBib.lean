/- What was put is taken. Plain law. -/
import Derived.Test.YtlheianbmpgefaaBr
namespace Go.Proofs.Ytlheianbmpgefaa
open Go
theorem numAt_div {xs : List UInt8} {a w v : Nat} (h : ∀ j, j < w → bitAt xs (a + j) = v.testBit (w - 1 - j)) (hv : v < 2 ^ w) : ∀ j, j ≤ w → numAt xs a j = v / 2 ^ (w - j)
  | 0, _ => by
    show 0 = _
    rw [Nat.sub_zero, Nat.div_eq_of_lt hv]
  | j + 1, hj => by
    have ih := numAt_div h hv j (by omega)
    have e := testBit_b2n v (w - 1 - j)
    have e2 : v / 2 ^ (w - j) = v / 2 ^ (w - 1 - j) / 2 := by rw [Nat.div_div_eq_div_mul, ← Nat.pow_succ]; congr 2; omega
    simp only [numAt]
    rw [ih, h j (by omega), ← e, e2, show w - (j + 1) = w - 1 - j by omega]
    omega
theorem numAt_field {p q : List Bool} {w v k : Nat} (hv : v < 2 ^ w) (hk : p.length + w ≤ 8 * k) : numAt (pack (p ++ bitsOf w v ++ q) k) p.length w = v := by
  have h := numAt_div (xs := pack (p ++ bitsOf w v ++ q) k) (a := p.length) (w := w) (v := v) (fun j hj => by
    rw [bitAt_pack (by omega)]
    unfold bitOf
    rw [List.getD_eq_getElem?_getD, List.append_assoc, List.getElem?_append_right (by omega), List.getElem?_append_left (by rw [bitsOf_length]; omega), show p.length + j - p.length = j by omega, bitsOf_at hj]
    rfl) hv w (Nat.le_refl _)
  rw [h, Nat.sub_self, Nat.pow_zero, Nat.div_one]
theorem fieldBits_length (fs : List (Int × Int)) : (fieldBits fs).length = widthsN (fs.map Prod.fst) := by
  induction fs with
  | nil => rfl
  | cons f r ih =>
    simp only [fieldBits, List.flatMap_cons, List.length_append, bitsOf_length, widthsN, List.map_cons, List.sum_cons] at *
    omega
theorem fieldBits_append (a b : List (Int × Int)) : fieldBits (a ++ b) = fieldBits a ++ fieldBits b := by simp [fieldBits]
theorem fits_widths {fs : List (Int × Int)} (h : fs.all fitsF = true) : (fs.map Prod.fst).any badW = false := by
  rw [List.any_eq_false]
  intro w hw
  obtain ⟨f, hf, rfl⟩ := List.mem_map.1 hw
  have := fits_lt (List.all_eq_true.1 h f hf)
  simp only [badW, decide_eq_true_eq]
  omega
theorem fits_pow {f : Int × Int} (h : fitsF f = true) : f.2.toNat < 2 ^ f.1.toNat := by
  simp only [fitsF, rightF, decide_eq_true_eq] at h
  obtain ⟨h1, h2, h3, h4⟩ := h
  obtain ⟨v, hv⟩ := Int.eq_ofNat_of_zero_le h3
  rw [hv] at h4 ⊢
  have e : ((v : Nat) : Int) / 2 ^ f.1.toNat = ((v / 2 ^ f.1.toNat : Nat) : Int) := by push_cast; rfl
  rw [e] at h4
  have h5 : v / 2 ^ f.1.toNat = 0 := by omega
  rcases Nat.div_eq_zero_iff.1 h5 with h6 | h6
  · exact absurd h6 (Nat.ne_of_gt (Nat.pow_pos (by decide)))
  · simpa using h6
theorem nums_fields (fs : List (Int × Int)) (h : fs.all fitsF = true) : ∀ (p q : List Bool) (k : Nat), p.length + (fieldBits fs).length ≤ 8 * k → nums (pack (p ++ fieldBits fs ++ q) k) p.length (fs.map Prod.fst) = fs.map Prod.snd := by
  induction fs with
  | nil => intro p q k _; rfl
  | cons f r ih =>
    intro p q k hk
    rw [List.all_cons, Bool.and_eq_true] at h
    have h1 := fits_lt h.1
    have hp := fits_pow h.1
    have e : fieldBits (f :: r) = bitsOf f.1.toNat f.2.toNat ++ fieldBits r := rfl
    rw [e, List.length_append, bitsOf_length] at hk
    have h2 := ih h.2 (p ++ bitsOf f.1.toNat f.2.toNat) q k (by rw [List.length_append, bitsOf_length]; omega)
    have h3 := numAt_field (p := p) (q := fieldBits r ++ q) (k := k) hp (by omega)
    rw [List.length_append, bitsOf_length] at h2
    simp only [List.map_cons, nums]
    rw [e]
    simp only [List.append_assoc] at h2 h3 ⊢
    rw [h2, h3, show ((f.2.toNat : Nat) : Int) = f.2 by omega]
theorem take_fits {fs : List (Int × Int)} (i : Nat) (h : fs.all fitsF = true) : (fs.take i).all fitsF = true := by
  rw [List.all_eq_true] at *
  exact fun x hx => h x (List.mem_of_mem_take hx)
theorem getD_fits {fs : List (Int × Int)} {i : Nat} (h : fs.all fitsF = true) (hi : i < fs.length) : fitsF (fs.getD i default) = true := by
  rw [List.getD_eq_getElem?_getD, List.getElem?_eq_getElem hi]
  exact List.all_eq_true.1 h _ (List.getElem_mem hi)
theorem take_fieldBits {fs : List (Int × Int)} {i : Nat} (hi : i < fs.length) : fieldBits fs = fieldBits (fs.take i) ++ bitsOf (fs.getD i default).1.toNat (fs.getD i default).2.toNat ++ fieldBits (fs.drop (i + 1)) := by
  have h := (List.take_append_drop i fs).symm
  rw [drop_next hi] at h
  have e : fieldBits (fs.getD i default :: fs.drop (i + 1)) = bitsOf (fs.getD i default).1.toNat (fs.getD i default).2.toNat ++ fieldBits (fs.drop (i + 1)) := rfl
  rw [List.append_assoc, ← e, ← fieldBits_append, ← h]
/-- One field taken where it lies. -/
theorem take_one {fs : List (Int × Int)} {i : Nat} {q : List Bool} {k : Nat} (h : fs.all fitsF = true) (hi : i < fs.length) (hk : (fieldBits fs).length ≤ 8 * k) :
    takeE (pack (fieldBits fs ++ q) k) (fieldBits (fs.take i)).length 0 [(fs.getD i default).1] = 0 ∧
    takeL (pack (fieldBits fs ++ q) k) (fieldBits (fs.take i)).length 0 [(fs.getD i default).1] = [(fs.getD i default).2] ∧
    takeA (pack (fieldBits fs ++ q) k) (fieldBits (fs.take i)).length 0 [(fs.getD i default).1] = (fieldBits (fs.take (i + 1))).length := by
  have hf := getD_fits h hi
  have h1 := fits_lt hf
  have hp := fits_pow hf
  have e := take_fieldBits hi
  have ht : fieldBits (fs.take (i + 1)) = fieldBits (fs.take i) ++ bitsOf (fs.getD i default).1.toNat (fs.getD i default).2.toNat := by
    rw [take_next hi, fieldBits_append]; simp [fieldBits]
  have hn : numAt (pack (fieldBits fs ++ q) k) (fieldBits (fs.take i)).length (fs.getD i default).1.toNat = (fs.getD i default).2.toNat := by
    rw [e, List.append_assoc]
    refine numAt_field hp ?_
    rw [e, List.length_append, List.length_append, bitsOf_length] at hk
    omega
  have hl : (fieldBits (fs.take i)).length + (fs.getD i default).1.toNat ≤ 8 * k := by
    rw [e, List.length_append, List.length_append, bitsOf_length] at hk
    omega
  generalize fs.getD i default = f at *
  have hb : badW f.1 = false := by simp only [badW, decide_eq_false_iff_not]; omega
  have hE : takeE (pack (fieldBits fs ++ q) k) (fieldBits (fs.take i)).length 0 [f.1] = 0 := by
    simp only [takeE, List.any_cons, hb, List.any_nil, Bool.or_false, pack_length, widthsN, List.map_cons, List.map_nil, List.sum_cons, List.sum_nil]
    rw [if_pos trivial, if_neg (by decide), if_neg (by omega)]
  refine ⟨hE, ?_, ?_⟩
  · rw [takeL, if_pos hE]
    simp only [nums, hn]
    rw [show ((f.2.toNat : Nat) : Int) = f.2 by omega]
  · rw [takeA, if_pos hE, ht, List.length_append, bitsOf_length]
    simp [widthsN]
/-- All fields taken at once. -/
theorem take_all {fs : List (Int × Int)} {q : List Bool} {k : Nat} (h : fs.all fitsF = true) (hk : (fieldBits fs).length ≤ 8 * k) :
    takeE (pack (fieldBits fs ++ q) k) 0 0 (fs.map Prod.fst) = 0 ∧ takeL (pack (fieldBits fs ++ q) k) 0 0 (fs.map Prod.fst) = fs.map Prod.snd ∧ takeA (pack (fieldBits fs ++ q) k) 0 0 (fs.map Prod.fst) = (fieldBits fs).length := by
  have hl := fieldBits_length fs
  have hE : takeE (pack (fieldBits fs ++ q) k) 0 0 (fs.map Prod.fst) = 0 := by
    simp only [takeE, fits_widths h, pack_length]
    rw [if_pos trivial, if_neg (by decide), if_neg (by omega)]
  have hn := nums_fields fs h [] q k (by simpa using hk)
  refine ⟨hE, ?_, ?_⟩
  · rw [takeL, if_pos hE]
    exact hn
  · rw [takeA, if_pos hE, hl]
    omega
/-- One number taken, or none as it is too short. -/
theorem take1_ok {xs : List UInt8} {a : Nat} {w : Int} (hw : badW w = false) (h : a + w.toNat ≤ 8 * xs.length) :
    takeE xs a 0 [w] = 0 ∧ takeL xs a 0 [w] = [((numAt xs a w.toNat : Nat) : Int)] ∧ takeA xs a 0 [w] = a + w.toNat := by
  have hE : takeE xs a 0 [w] = 0 := by
    simp only [takeE, List.any_cons, hw, List.any_nil, Bool.or_false, widthsN, List.map_cons, List.map_nil, List.sum_cons, List.sum_nil]
    rw [if_pos trivial, if_neg (by decide), if_neg (by omega)]
  refine ⟨hE, ?_, ?_⟩
  · rw [takeL, if_pos hE]
    rfl
  · rw [takeA, if_pos hE]
    simp [widthsN]
theorem take1_short {xs : List UInt8} {a : Nat} {w : Int} (hw : badW w = false) (h : 8 * xs.length - a < w.toNat) :
    takeE xs a 0 [w] = 10 ∧ takeL xs a 0 [w] = [] ∧ takeA xs a 0 [w] = a := by
  have hE : takeE xs a 0 [w] = 10 := by
    simp only [takeE, List.any_cons, hw, List.any_nil, Bool.or_false, widthsN, List.map_cons, List.map_nil, List.sum_cons, List.sum_nil]
    rw [if_pos trivial, if_neg (by decide), if_pos (by omega)]
  refine ⟨hE, ?_, ?_⟩
  · rw [takeL, if_neg (by rw [hE]; decide)]
  · rw [takeA, if_neg (by rw [hE]; decide)]
theorem bitAt_take {xs : List UInt8} {k i : Nat} (h : i < 8 * k) : bitAt (xs.take k) i = bitAt xs i := by
  unfold bitAt
  rw [List.getD_eq_getElem?_getD, List.getD_eq_getElem?_getD, List.getElem?_take, if_pos (by omega)]
theorem numAt_take {xs : List UInt8} {k a : Nat} : ∀ {w : Nat}, a + w ≤ 8 * k → numAt (xs.take k) a w = numAt xs a w
  | 0, _ => rfl
  | w + 1, h => by
    simp only [numAt]
    rw [numAt_take (w := w) (by omega), bitAt_take (by omega)]
end Go.Proofs.Ytlheianbmpgefaa
