/- Numbers' bytes: the plain law. -/
import Derived.Test.YtlheianbmpgefaaTvK
namespace Go.Proofs.Ytlheianbmpgefaa
open Go Go.Proofs
set_option maxRecDepth 100000
def numT (n : Nat) : List UInt8 := if _h : n = 0 then [] else numT (n / 256) ++ [UInt8.ofNat (n % 256)]
termination_by n
decreasing_by exact Nat.div_lt_self (by omega) (by decide)
theorem numT_zero : numT 0 = [] := by rw [numT]; rfl
theorem numT_pos {n : Nat} (h : n ≠ 0) : numT n = numT (n / 256) ++ [UInt8.ofNat (n % 256)] := by rw [numT, dif_neg h]
def beT (b : List UInt8) : Nat := b.foldl (fun a x => 256 * a + x.toNat) 0
theorem beT_nil : beT [] = 0 := rfl
theorem beT_snoc (b : List UInt8) (x : UInt8) : beT (b ++ [x]) = 256 * beT b + x.toNat := by
  unfold beT; rw [List.foldl_append]; rfl
theorem beT_num : ∀ (n : Nat), beT (numT n) = n := fun n => by
  induction n using Nat.strongRecOn with
  | ind n ih =>
  rcases Decidable.em (n = 0) with h | h
  · rw [h, numT_zero, beT_nil]
  · rw [numT_pos h, beT_snoc, ih _ (Nat.div_lt_self (by omega) (by decide)), UInt8.toNat_ofNat', Nat.mod_eq_of_lt (show n % 256 < 2 ^ 8 from Nat.mod_lt _ (by decide))]
    omega
theorem numT_len : ∀ (k n : Nat), (numT n).length ≤ k ↔ n < 256 ^ k := by
  intro k
  induction k with
  | zero =>
    intro n
    rcases Decidable.em (n = 0) with h | h
    · rw [h, numT_zero]; simp
    · rw [numT_pos h, List.length_append, List.length_singleton]
      constructor
      · intro h1; omega
      · intro h1; simp at h1; omega
  | succ k ih =>
    intro n
    rcases Decidable.em (n = 0) with h | h
    · rw [h, numT_zero]; simp [Nat.pow_pos]
    · rw [numT_pos h, List.length_append, List.length_singleton, Nat.pow_succ]
      have h1 := ih (n / 256)
      have h2 : n / 256 < 256 ^ k ↔ n < 256 ^ k * 256 := Nat.div_lt_iff_lt_mul (by decide)
      rw [← h2, ← h1]
      omega
theorem numT_head : ∀ (n : Nat), n ≠ 0 → (numT n).getD 0 0 ≠ 0 := fun n => by
  induction n using Nat.strongRecOn with
  | ind n ih =>
  intro h
  rw [numT_pos h]
  rcases Decidable.em (n / 256 = 0) with h1 | h1
  · rw [h1, numT_zero, List.nil_append]
    intro h2
    have h3 : (UInt8.ofNat (n % 256)).toNat = 0 := by
      have := congrArg UInt8.toNat h2
      simpa using this
    rw [UInt8.toNat_ofNat', Nat.mod_eq_of_lt (show n % 256 < 2 ^ 8 from Nat.mod_lt _ (by decide))] at h3
    omega
  · have h2 := ih _ (Nat.div_lt_self (by omega) (by decide)) h1
    have h3 : 0 < (numT (n / 256)).length := by
      rcases Nat.eq_zero_or_pos (numT (n / 256)).length with h4 | h4
      · have := (numT_len 0 (n / 256)).1 (by omega)
        simp at this
        omega
      · exact h4
    rw [List.getD_eq_getElem?_getD, List.getElem?_append_left h3, ← List.getD_eq_getElem?_getD]
    exact h2
theorem num_beT : ∀ (k : Nat) (b : List UInt8), b.length = k → (b ≠ [] → b.getD 0 0 ≠ 0) → numT (beT b) = b := by
  intro k
  induction k with
  | zero => intro b h _; rw [List.eq_nil_of_length_eq_zero h, beT_nil, numT_zero]
  | succ k ih =>
    intro b h hb
    obtain ⟨r, x, rfl⟩ : ∃ r x, b = r ++ [x] := ⟨b.dropLast, b.getLast (by intro e; simp [e] at h), (List.dropLast_concat_getLast _).symm⟩
    have hr : r.length = k := by simpa using h
    have hx := x.toNat_lt
    have hb1 := hb (by simp)
    have hrh : r ≠ [] → r.getD 0 0 ≠ 0 := fun h1 => by
      rw [List.getD_eq_getElem?_getD, List.getElem?_append_left (List.length_pos_iff.2 h1), ← List.getD_eq_getElem?_getD] at hb1
      exact hb1
    have hi := ih r hr hrh
    have hne : beT (r ++ [x]) ≠ 0 := by
      rw [beT_snoc]
      rcases Decidable.em (r = []) with h1 | h1
      · subst h1
        intro h2
        have h3 : x.toNat = 0 := by rw [beT_nil] at h2; omega
        exact hb1 (by
          have : x = 0 := by
            have := congrArg UInt8.ofNat h3
            simpa using this
          rw [this]; rfl)
      · have h2 : beT r ≠ 0 := fun h3 => by
          rw [h3, numT_zero] at hi
          exact h1 hi.symm
        omega
    rw [numT_pos hne, beT_snoc, show (256 * beT r + x.toNat) / 256 = beT r by omega, show (256 * beT r + x.toNat) % 256 = x.toNat by omega, hi]
    simp
theorem beT_lt : ∀ b : List UInt8, beT b < 256 ^ b.length := fun b => by
  obtain ⟨k, hk⟩ : ∃ k, b.length = k := ⟨_, rfl⟩
  induction k generalizing b with
  | zero => rw [List.eq_nil_of_length_eq_zero hk]; decide
  | succ k ih =>
    obtain ⟨r, x, rfl⟩ : ∃ r x, b = r ++ [x] := ⟨b.dropLast, b.getLast (by intro e; simp [e] at hk), (List.dropLast_concat_getLast _).symm⟩
    have hr : r.length = k := by simpa using hk
    have h1 := ih r hr
    have hx := x.toNat_lt
    rw [beT_snoc, List.length_append, List.length_singleton, Nat.pow_succ]
    omega
def intT (b : List UInt8) : Int × Int := if 7 < b.length then (0, 11) else if 0 < b.length ∧ b.getD 0 0 = 0 then (0, 12) else ((beT b : Int), 0)
/-- the other way round -/
def leT (n : Nat) : List UInt8 := (numT n).reverse
theorem leT_pos {n : Nat} (h : n ≠ 0) : leT n = UInt8.ofNat (n % 256) :: leT (n / 256) := by
  rw [leT, numT_pos h, List.reverse_append]; rfl
theorem leT_zero : leT 0 = [] := by rw [leT, numT_zero]; rfl
end Go.Proofs.Ytlheianbmpgefaa
