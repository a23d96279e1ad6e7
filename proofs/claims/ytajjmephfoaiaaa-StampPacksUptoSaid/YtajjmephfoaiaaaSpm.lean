/- Decimal digits, two a byte. Words of our own. -/
import Derived.Test.YtajjmephfoaiaaaSc
namespace Go.Proofs.Ytajjmephfoaiaaa
open Go
/-- The digit i of n, of the c lowest. -/
def nib (c n i : Nat) : Nat := if i < c then n / 10 ^ i % 10 else 0
theorem nib_lt (c n i : Nat) : nib c n i < 10 := by unfold nib; split <;> omega
theorem nib_next {c n i : Nat} (h : i ≠ c) : nib (c + 1) n i = nib c n i := by
  unfold nib
  by_cases h1 : i < c
  · rw [if_pos h1, if_pos (by omega)]
  · rw [if_neg h1, if_neg (by omega)]
/-- The k bytes with n's c lowest digits. -/
def digs (c n k : Nat) : List UInt8 := (List.range k).map fun j => UInt8.ofNat (16 * nib c n (2 * (k - 1 - j) + 1) + nib c n (2 * (k - 1 - j)))
theorem digs_length (c n k : Nat) : (digs c n k).length = k := by simp [digs]
theorem digs_at {c n k j : Nat} (h : j < k) : (digs c n k)[j]? = some (UInt8.ofNat (16 * nib c n (2 * (k - 1 - j) + 1) + nib c n (2 * (k - 1 - j)))) := by
  simp [digs, h]
theorem digs_zero (n k : Nat) : digs 0 n k = List.replicate k 0 := by
  apply List.ext_getElem?
  intro j
  rcases Nat.lt_or_ge j k with h | h
  · rw [digs_at h, List.getElem?_replicate, if_pos h]
    simp [nib]
  · rw [List.getElem?_eq_none (by simp [digs_length, h]), List.getElem?_eq_none (by simpa using h)]
theorem or_add {x d : Nat} (hx : x < 16) : x ||| (d * 16) = 16 * d + x := by
  rw [Nat.or_comm, show d * 16 = d <<< 4 by rw [Nat.shiftLeft_eq], ← Nat.shiftLeft_add_eq_or_of_lt (by omega), Nat.shiftLeft_eq]
  omega
theorem digs_step {c n k : Nat} (hc : c < 2 * k) :
    digs (c + 1) n k = (digs c n k).set (k - 1 - c / 2) ((digs c n k).getD (k - 1 - c / 2) 0 ||| UInt8.ofNat (n / 10 ^ c % 10 * 2 ^ (4 * (c % 2)))) := by
  apply List.ext_getElem?
  intro j
  rcases Nat.lt_or_ge j k with h | h
  · rw [digs_at h, List.getElem?_set]
    by_cases e : k - 1 - c / 2 = j
    · rw [if_pos e, if_pos (by rw [digs_length]; omega)]
      have hj : k - 1 - j = c / 2 := by omega
      rw [e, hj, List.getD_eq_getElem?_getD, digs_at h, hj]
      congr 1
      apply UInt8.toNat_inj.1
      simp only [Option.getD_some]
      rw [UInt8.toNat_or, UInt8.toNat_ofNat', UInt8.toNat_ofNat', UInt8.toNat_ofNat']
      have hn := nib_lt c n (2 * (c / 2))
      have hdl : n / 10 ^ c % 10 < 10 := Nat.mod_lt _ (by decide)
      rcases Nat.mod_two_eq_zero_or_one c with h2 | h2
      · have e1 : 2 * (c / 2) = c := by omega
        rw [e1, nib_next (show c + 1 ≠ c by omega), h2]
        have z1 : nib c n c = 0 := by simp [nib]
        have z2 : nib c n (c + 1) = 0 := by unfold nib; exact if_neg (by omega)
        have z3 : nib (c + 1) n c = n / 10 ^ c % 10 := by simp [nib]
        rw [z1, z2, z3]
        simp
      · have e1 : 2 * (c / 2) + 1 = c := by omega
        have e2 : 2 * (c / 2) ≠ c := by omega
        rw [e1, nib_next e2, h2]
        have z1 : nib c n c = 0 := by simp [nib]
        have z3 : nib (c + 1) n c = n / 10 ^ c % 10 := by simp [nib]
        rw [z1, z3, show (2 : Nat) ^ (4 * 1) = 16 from rfl]
        generalize n / 10 ^ c % 10 = d at *
        generalize nib c n (2 * (c / 2)) = x at *
        rw [Nat.mod_eq_of_lt (by omega : 16 * d + x < 2 ^ 8), Nat.mod_eq_of_lt (by omega : 16 * 0 + x < 2 ^ 8), Nat.mod_eq_of_lt (by omega : d * 16 < 2 ^ 8), show 16 * 0 + x = x by omega, or_add (by omega)]
    · rw [if_neg e, digs_at h]
      have h1 : 2 * (k - 1 - j) + 1 ≠ c := by omega
      have h2 : 2 * (k - 1 - j) ≠ c := by omega
      rw [nib_next h1, nib_next h2]
  · rw [List.getElem?_eq_none (by simp [digs_length, h]), List.getElem?_eq_none (by simp [digs_length, h])]
end Go.Proofs.Ytajjmephfoaiaaa
