/- A text of bits and its numbers. Plain law. -/
import Derived.Test.YtlheianbmpgefaaBiR
namespace Go.Proofs.Ytlheianbmpgefaa
open Go
theorem bitsB_length (l : List UInt8) : (bitsB l).length = 8 * l.length := by
  induction l with
  | nil => rfl
  | cons c r ih => simp only [bitsB, List.flatMap_cons, List.length_append, bitsOf_length, List.length_cons] at *; omega
theorem bitsB_at : ∀ (xs : List UInt8) (i : Nat), i < 8 * xs.length → (bitsB xs)[i]? = some (bitAt xs i)
  | [], i, h => by simp at h
  | c :: r, i, h => by
    have e : bitsB (c :: r) = bitsOf 8 c.toNat ++ bitsB r := rfl
    rw [e]
    rcases Nat.lt_or_ge i 8 with hi | hi
    · rw [List.getElem?_append_left (by rw [bitsOf_length]; exact hi), bitsOf_at hi]
      unfold bitAt
      rw [show i / 8 = 0 by omega, show i % 8 = i by omega]
      rfl
    · rw [List.getElem?_append_right (by rw [bitsOf_length]; exact hi), bitsOf_length, bitsB_at r (i - 8) (by simp only [List.length_cons] at h; omega)]
      unfold bitAt
      rw [show i / 8 = (i - 8) / 8 + 1 by omega, show i % 8 = (i - 8) % 8 by omega]
      rfl
theorem numB_append (a : List Bool) (b : Bool) : numB (a ++ [b]) = 2 * numB a + b2n b := by simp [numB, List.foldl_append]
theorem numB_cut {xs : List UInt8} {a : Nat} : ∀ w, a + w ≤ 8 * xs.length → numB (((bitsB xs).drop a).take w) = numAt xs a w
  | 0, _ => rfl
  | w + 1, h => by
    have hl : w < ((bitsB xs).drop a).length := by rw [List.length_drop, bitsB_length]; omega
    rw [List.take_succ_eq_append_getElem hl, numB_append, numB_cut w (by omega)]
    have hb := bitsB_at xs (a + w) (by omega)
    have hg : ((bitsB xs).drop a)[w] = bitAt xs (a + w) := by
      have h2 : ((bitsB xs).drop a)[w]? = some (bitAt xs (a + w)) := by rw [List.getElem?_drop]; exact hb
      rw [List.getElem?_eq_getElem hl] at h2
      exact Option.some.inj h2
    rw [hg]
    rfl
end Go.Proofs.Ytlheianbmpgefaa
