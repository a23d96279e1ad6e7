/- Bits in bytes, the first at the top. Words of our own. -/
import Derived.Test.YtajjmephfoaiaaaSc
namespace Go.Proofs.Ytajjmephfoaiaaa
open Go
def bitOf (bs : List Bool) (i : Nat) : Bool := bs.getD i false
def byteAt (bs : List Bool) (j : Nat) : UInt8 :=
  UInt8.ofBitVec (BitVec.ofBoolListLE [bitOf bs (8 * j + 7), bitOf bs (8 * j + 6), bitOf bs (8 * j + 5), bitOf bs (8 * j + 4), bitOf bs (8 * j + 3), bitOf bs (8 * j + 2), bitOf bs (8 * j + 1), bitOf bs (8 * j)])
theorem byteAt_bit (bs : List Bool) (j i : Nat) (h : i < 8) : (byteAt bs j).toBitVec.getLsbD i = bitOf bs (8 * j + (7 - i)) := by
  have e : (byteAt bs j).toBitVec = BitVec.ofBoolListLE [bitOf bs (8 * j + 7), bitOf bs (8 * j + 6), bitOf bs (8 * j + 5), bitOf bs (8 * j + 4), bitOf bs (8 * j + 3), bitOf bs (8 * j + 2), bitOf bs (8 * j + 1), bitOf bs (8 * j)] := rfl
  rw [e]
  refine (BitVec.getLsbD_ofBoolListLE).trans ?_
  match i, h with
  | 0, _ => rfl
  | 1, _ => rfl
  | 2, _ => rfl
  | 3, _ => rfl
  | 4, _ => rfl
  | 5, _ => rfl
  | 6, _ => rfl
  | 7, _ => rfl
/-- k bytes of these bits. -/
def pack (bs : List Bool) (k : Nat) : List UInt8 := (List.range k).map (byteAt bs)
theorem pack_length (bs : List Bool) (k : Nat) : (pack bs k).length = k := by simp [pack]
theorem pack_at {bs : List Bool} {k j : Nat} (h : j < k) : (pack bs k)[j]? = some (byteAt bs j) := by simp [pack, h]
theorem byte_ext {x y : UInt8} (h : ∀ i, i < 8 → x.toBitVec.getLsbD i = y.toBitVec.getLsbD i) : x = y := by
  have := BitVec.eq_of_getLsbD_eq h
  exact UInt8.toBitVec_inj.1 this
theorem bitOf_append {bs : List Bool} {b : Bool} {i : Nat} : bitOf (bs ++ [b]) i = if i = bs.length then b else bitOf bs i := by
  unfold bitOf
  simp only [List.getD_eq_getElem?_getD, List.getElem?_append]
  by_cases h : i < bs.length
  · rw [if_pos h, if_neg (by omega)]
  · rw [if_neg h]
    by_cases e : i = bs.length
    · subst e; simp
    · rw [if_neg e, List.getElem?_eq_none (show [b].length ≤ i - bs.length by rw [List.length_singleton]; omega), List.getElem?_eq_none (by omega)]
theorem bitOf_past {bs : List Bool} {i : Nat} (h : bs.length ≤ i) : bitOf bs i = false := by
  unfold bitOf
  rw [List.getD_eq_getElem?_getD, List.getElem?_eq_none h]
  rfl
def b2n (b : Bool) : Nat := if b then 1 else 0
theorem one_bit (b : Bool) (r : Nat) (hr : r < 8) : ∀ i, i < 8 → (UInt8.ofNat (b2n b * 2 ^ (7 - r))).toBitVec.getLsbD i = (b && decide (i = 7 - r)) := by
  have key : ∀ b : Bool, ∀ r : Fin 8, ∀ i : Fin 8, (UInt8.ofNat (b2n b * 2 ^ (7 - r.val))).toBitVec.getLsbD i.val = (b && decide (i.val = 7 - r.val)) := by decide +kernel
  intro i hi
  exact key b ⟨r, hr⟩ ⟨i, hi⟩
/-- A bit more: the byte that takes it. -/
theorem byteAt_more (bs : List Bool) (b : Bool) : byteAt (bs ++ [b]) (bs.length / 8) = byteAt bs (bs.length / 8) ||| UInt8.ofNat (b2n b * 2 ^ (7 - bs.length % 8)) := by
  apply byte_ext
  intro i hi
  rw [UInt8.toBitVec_or, BitVec.getLsbD_or, byteAt_bit _ _ _ hi, byteAt_bit _ _ _ hi, one_bit b _ (Nat.mod_lt _ (by decide)) i hi, bitOf_append]
  by_cases e : i = 7 - bs.length % 8
  · rw [if_pos (by omega), bitOf_past (by omega)]
    simp [e]
  · rw [if_neg (by omega)]
    simp [e]
theorem byteAt_same {bs : List Bool} {b : Bool} {j : Nat} (h : j ≠ bs.length / 8) : byteAt (bs ++ [b]) j = byteAt bs j := by
  apply byte_ext
  intro i hi
  rw [byteAt_bit _ _ _ hi, byteAt_bit _ _ _ hi, bitOf_append, if_neg (by omega)]
theorem byteAt_past {bs : List Bool} {j : Nat} (h : bs.length ≤ 8 * j) : byteAt bs j = 0 := by
  apply byte_ext
  intro i hi
  rw [byteAt_bit _ _ _ hi, bitOf_past (by omega)]
  simp
theorem pack_grow {bs : List Bool} {k : Nat} (h : bs.length ≤ 8 * k) : pack bs (k + 1) = pack bs k ++ [0] := by
  unfold pack
  rw [List.range_succ, List.map_append, List.map_singleton, byteAt_past h]
theorem pack_more {bs : List Bool} {b : Bool} {k : Nat} (h : bs.length / 8 < k) :
    pack (bs ++ [b]) k = (pack bs k).set (bs.length / 8) ((pack bs k).getD (bs.length / 8) 0 ||| UInt8.ofNat (b2n b * 2 ^ (7 - bs.length % 8))) := by
  apply List.ext_getElem?
  intro j
  rcases Nat.lt_or_ge j k with hj | hj
  · rw [pack_at hj, List.getElem?_set]
    by_cases e : bs.length / 8 = j
    · rw [if_pos e, if_pos (by rw [pack_length]; omega), List.getD_eq_getElem?_getD, pack_at h, ← e, byteAt_more]
      rfl
    · rw [if_neg e, pack_at hj, byteAt_same (fun h => e h.symm)]
  · rw [List.getElem?_eq_none (by simp [pack_length, hj]), List.getElem?_eq_none (by simp [pack_length, hj])]
/-- The bits of bytes. -/
def bitAt (xs : List UInt8) (i : Nat) : Bool := (xs.getD (i / 8) 0).toBitVec.getLsbD (7 - i % 8)
theorem bitAt_pack {bs : List Bool} {k i : Nat} (h : i < 8 * k) : bitAt (pack bs k) i = bitOf bs i := by
  unfold bitAt
  rw [List.getD_eq_getElem?_getD, pack_at (by omega)]
  show (byteAt bs (i / 8)).toBitVec.getLsbD (7 - i % 8) = _
  rw [byteAt_bit _ _ _ (by omega)]
  congr 1
  omega
/-- The w lowest bits of v, the highest first. -/
def bitsOf (w v : Nat) : List Bool := (List.range w).map fun i => v.testBit (w - 1 - i)
theorem bitsOf_length (w v : Nat) : (bitsOf w v).length = w := by simp [bitsOf]
theorem bitsOf_at {w v i : Nat} (h : i < w) : (bitsOf w v)[i]? = some (v.testBit (w - 1 - i)) := by simp [bitsOf, h]
theorem and_one {x : Nat} (h : x < 2 ^ 63) : IntKind.i64.wrap ((BitVec.ofInt IntKind.i64.bits (x : Int) &&& BitVec.ofInt IntKind.i64.bits 1).toNat : Int) = ((x % 2 : Nat) : Int) := by
  show IntKind.i64.wrap ((BitVec.ofInt 64 (x : Int) &&& BitVec.ofInt 64 ((1 : Nat) : Int)).toNat : Int) = _
  rw [BitVec.ofInt_natCast, BitVec.ofInt_natCast, BitVec.toNat_and, BitVec.toNat_ofNat, BitVec.toNat_ofNat, Nat.mod_eq_of_lt (by omega), Nat.mod_eq_of_lt (by omega), Nat.and_one_is_mod]
  exact wrapI (by omega) (by omega)
theorem testBit_b2n (v j : Nat) : v / 2 ^ j % 2 = b2n (v.testBit j) := by
  rw [Nat.testBit_eq_decide_div_mod_eq]
  have := Nat.mod_lt (v / 2 ^ j) (show 0 < 2 by decide)
  unfold b2n
  by_cases h : v / 2 ^ j % 2 = 1
  · simp [h]
  · simp [h]; omega
theorem bit_shl (b : Bool) {r : Nat} (hr : r < 8) : IntKind.u8.wrap ((b2n b : Int) * 2 ^ min (7 - (r : Int)).toNat IntKind.u8.bits) = ((UInt8.ofNat (b2n b * 2 ^ (7 - r))).toNat : Int) := by
  have key : ∀ b : Bool, ∀ r : Fin 8, IntKind.u8.wrap ((b2n b : Int) * 2 ^ min (7 - (r.val : Int)).toNat IntKind.u8.bits) = ((UInt8.ofNat (b2n b * 2 ^ (7 - r.val))).toNat : Int) := by decide +kernel
  exact key b ⟨r, hr⟩
theorem bit_shlN (b : Bool) {r : Nat} (hr : r < 8) : IntKind.u8.wrap ((b2n b : Int) * 2 ^ min (((7 - r : Nat) : Int)).toNat IntKind.u8.bits) = ((UInt8.ofNat (b2n b * 2 ^ (7 - r))).toNat : Int) := by
  have key : ∀ b : Bool, ∀ r : Fin 8, IntKind.u8.wrap ((b2n b : Int) * 2 ^ min (((7 - r.val : Nat) : Int)).toNat IntKind.u8.bits) = ((UInt8.ofNat (b2n b * 2 ^ (7 - r.val))).toNat : Int) := by decide +kernel
  exact key b ⟨r, hr⟩
theorem rbitN (c : UInt8) {r : Nat} (hr : r < 8) : IntKind.u8.wrap ((BitVec.ofInt IntKind.u8.bits ((c.toNat : Int) / 2 ^ min (((7 - r : Nat) : Int)).toNat IntKind.u8.bits) &&& BitVec.ofInt IntKind.u8.bits 1).toNat : Int) = (b2n (c.toBitVec.getLsbD (7 - r)) : Int) := by
  have key : ∀ c : Fin 256, ∀ r : Fin 8, IntKind.u8.wrap ((BitVec.ofInt IntKind.u8.bits (((UInt8.ofNat c.val).toNat : Int) / 2 ^ min (((7 - r.val : Nat) : Int)).toNat IntKind.u8.bits) &&& BitVec.ofInt IntKind.u8.bits 1).toNat : Int) = (b2n ((UInt8.ofNat c.val).toBitVec.getLsbD (7 - r.val)) : Int) := by decide +kernel
  have h := key ⟨c.toNat, c.toNat_lt⟩ ⟨r, hr⟩
  simpa using h
/-- The number in k bits from a place on. -/
def numAt (xs : List UInt8) (at_ : Nat) : Nat → Nat
  | 0 => 0
  | k + 1 => 2 * numAt xs at_ k + b2n (bitAt xs (at_ + k))
theorem b2n_le (b : Bool) : b2n b ≤ 1 := by cases b <;> decide
theorem numAt_lt (xs : List UInt8) (at_ k : Nat) : numAt xs at_ k < 2 ^ k := by
  induction k with
  | zero => simp [numAt]
  | succ k ih => have := b2n_le (bitAt xs (at_ + k)); simp only [numAt, Nat.pow_succ]; omega
theorem bits_take {w v q : Nat} (h : q < w) : (bitsOf w v).take (q + 1) = (bitsOf w v).take q ++ [v.testBit (w - 1 - q)] := by
  have hl : q < (bitsOf w v).length := by rw [bitsOf_length]; exact h
  rw [List.take_succ_eq_append_getElem hl]
  have := bitsOf_at (v := v) h
  rw [List.getElem?_eq_getElem hl] at this
  rw [Option.some.inj this]
end Go.Proofs.Ytajjmephfoaiaaa
