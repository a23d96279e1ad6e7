/- The sum of bytes in plain words: sixteen bits, bit by bit. -/
import Derived.Test.YteopadjihklkmaaWr
namespace Go.Proofs.Yteopadjihklkmaa
open Go
def step1 (s : BitVec 16) : BitVec 16 := (s <<< 1) ^^^ (4129#16 &&& -(s >>> 15))
def steps : Nat → BitVec 16 → BitVec 16
  | 0, s => s
  | n + 1, s => step1 (steps n s)
def put8 (s : BitVec 16) (x : UInt8) : BitVec 16 := s ^^^ (BitVec.ofNat 16 x.toNat <<< 8)
def crcB (s : BitVec 16) (x : UInt8) : BitVec 16 := steps 8 (put8 s x)
def crc (s : BitVec 16) (xs : List UInt8) : BitVec 16 := xs.foldl crcB s
theorem crc_append (s : BitVec 16) (xs ys : List UInt8) : crc s (xs ++ ys) = crc (crc s xs) ys := by simp [crc]
theorem crc_nil (s : BitVec 16) : crc s [] = s := rfl
def sum (xs : List UInt8) : BitVec 16 := crc 65535#16 xs
theorem sum_append (xs ys : List UInt8) : sum (xs ++ ys) = crc (sum xs) ys := crc_append _ _ _
/-! As the machine's words have it. -/
theorem w16 (s : BitVec 16) : IntKind.u16.wrap (s.toNat : Int) = (s.toNat : Int) := wrapU16 (by omega) (by have := s.isLt; omega)
theorem of16 (s : BitVec 16) : BitVec.ofInt 16 (s.toNat : Int) = s := by
  rw [BitVec.ofInt_natCast, BitVec.ofNat_toNat, BitVec.setWidth_eq]
theorem m_shl (s : BitVec 16) (k : Nat) (h : k ≤ 16) : IntKind.u16.wrap ((s.toNat : Int) * 2 ^ min (k : Int).toNat IntKind.u16.bits) = ((s <<< k).toNat : Int) := by
  have e : min (k : Int).toNat IntKind.u16.bits = k := by rw [Int.toNat_natCast]; exact Nat.min_eq_left h
  rw [e, wrapU16m, BitVec.toNat_shiftLeft, Nat.shiftLeft_eq, Int.natCast_emod, Int.natCast_mul, Int.natCast_pow]
  rfl
theorem m_shr (s : BitVec 16) (k : Nat) (h : k ≤ 16) : (s.toNat : Int) / 2 ^ min (k : Int).toNat IntKind.u16.bits = ((s >>> k).toNat : Int) := by
  have e : min (k : Int).toNat IntKind.u16.bits = k := by rw [Int.toNat_natCast]; exact Nat.min_eq_left h
  rw [e, BitVec.toNat_ushiftRight, Nat.shiftRight_eq_div_pow, Int.natCast_ediv, Int.natCast_pow]
  rfl
theorem m_neg (s : BitVec 16) : IntKind.u16.wrap (0 - (s.toNat : Int)) = ((-s).toNat : Int) := by
  rw [wrapU16m, BitVec.toNat_neg]
  have := s.isLt
  omega
theorem m_and (s t : BitVec 16) : IntKind.u16.wrap ((BitVec.ofInt IntKind.u16.bits (s.toNat : Int) &&& BitVec.ofInt IntKind.u16.bits (t.toNat : Int)).toNat : Int) = ((s &&& t).toNat : Int) := by
  show IntKind.u16.wrap ((BitVec.ofInt 16 (s.toNat : Int) &&& BitVec.ofInt 16 (t.toNat : Int)).toNat : Int) = _
  rw [of16, of16, w16]
theorem m_xor (s t : BitVec 16) : IntKind.u16.wrap ((BitVec.ofInt IntKind.u16.bits (s.toNat : Int) ^^^ BitVec.ofInt IntKind.u16.bits (t.toNat : Int)).toNat : Int) = ((s ^^^ t).toNat : Int) := by
  show IntKind.u16.wrap ((BitVec.ofInt 16 (s.toNat : Int) ^^^ BitVec.ofInt 16 (t.toNat : Int)).toNat : Int) = _
  rw [of16, of16, w16]
theorem m_byte (x : UInt8) : IntKind.u16.wrap (x.toNat : Int) = ((BitVec.ofNat 16 x.toNat).toNat : Int) := by
  have := x.toNat_lt
  rw [wrapU16 (by omega) (by omega), BitVec.toNat_ofNat, Nat.mod_eq_of_lt (by omega)]
/-! As the document's text has it: whole numbers of 64 bits. -/
theorem r_xor (a b : Nat) (ha : a < 2 ^ 63) (hb : b < 2 ^ 63) : IntKind.i64.wrap ((BitVec.ofInt IntKind.i64.bits (a : Int) ^^^ BitVec.ofInt IntKind.i64.bits (b : Int)).toNat : Int) = ((a ^^^ b : Nat) : Int) := by
  show IntKind.i64.wrap ((BitVec.ofInt 64 (a : Int) ^^^ BitVec.ofInt 64 (b : Int)).toNat : Int) = _
  rw [BitVec.ofInt_natCast, BitVec.ofInt_natCast, BitVec.toNat_xor, BitVec.toNat_ofNat, BitVec.toNat_ofNat, Nat.mod_eq_of_lt (by omega), Nat.mod_eq_of_lt (by omega)]
  have := Nat.xor_lt_two_pow ha hb
  exact wrapI (by omega) (by omega)
theorem r_put (s : BitVec 16) (x : UInt8) : s.toNat ^^^ (x.toNat * 256) = (put8 s x).toNat := by
  have := x.toNat_lt
  unfold put8
  rw [BitVec.toNat_xor, BitVec.toNat_shiftLeft, BitVec.toNat_ofNat, Nat.shiftLeft_eq, Nat.mod_eq_of_lt (by omega : x.toNat < 2 ^ 16), Nat.mod_eq_of_lt (by omega)]
theorem top_bit (s : BitVec 16) : -(s >>> 15) = if 32768 ≤ s.toNat then 65535#16 else 0#16 := by
  have hs := s.isLt
  apply BitVec.eq_of_toNat_eq
  rw [BitVec.toNat_neg, BitVec.toNat_ushiftRight, Nat.shiftRight_eq_div_pow]
  split
  · rw [show s.toNat / 2 ^ 15 = 1 by omega]
    rfl
  · rw [show s.toNat / 2 ^ 15 = 0 by omega]
    rfl
theorem r_step_hi (s : BitVec 16) (h : 32768 ≤ s.toNat) : (((2 * s.toNat) ^^^ 4129) % 65536 : Nat) = (step1 s).toNat := by
  have hs := s.isLt
  unfold step1
  rw [top_bit, if_pos h, show (4129#16 &&& 65535#16) = 4129#16 from rfl, BitVec.toNat_xor, BitVec.toNat_shiftLeft, Nat.shiftLeft_eq]
  rw [show (65536 : Nat) = 2 ^ 16 from rfl, Nat.xor_mod_two_pow, Nat.mul_comm]
  rfl
theorem r_step_lo (s : BitVec 16) (h : ¬ 32768 ≤ s.toNat) : (2 * s.toNat) % 65536 = (step1 s).toNat := by
  unfold step1
  rw [top_bit, if_neg h, show (4129#16 &&& 0#16) = 0#16 from rfl, BitVec.toNat_xor, BitVec.toNat_shiftLeft, Nat.shiftLeft_eq]
  simp [Nat.mul_comm]
theorem sum_lt (xs : List UInt8) : (sum xs).toNat < 65536 := (sum xs).isLt
/-! Sealed bytes. -/
def hiB (xs : List UInt8) : UInt8 := UInt8.ofNat ((sum xs).toNat / 256)
def loB (xs : List UInt8) : UInt8 := UInt8.ofNat (sum xs).toNat
def sealed (xs : List UInt8) : List UInt8 := xs ++ [hiB xs, loB xs]
theorem sealed_length (xs : List UInt8) : (sealed xs).length = xs.length + 2 := by simp [sealed]
theorem m_hi (xs : List UInt8) : IntKind.u8.wrap (((sum xs).toNat : Int) / 2 ^ min (8 : Int).toNat IntKind.i64.bits) = ((hiB xs).toNat : Int) := by
  rw [show min (8 : Int).toNat IntKind.i64.bits = 8 from rfl, wrapU8m, hiB, UInt8.toNat_ofNat']
  have := sum_lt xs
  omega
theorem m_lo (xs : List UInt8) : IntKind.u8.wrap ((sum xs).toNat : Int) = ((loB xs).toNat : Int) := by
  rw [wrapU8m, loB, UInt8.toNat_ofNat']
  omega
theorem sealed_take (xs : List UInt8) : (sealed xs).take ((sealed xs).length - 2) = xs := by
  rw [sealed_length, sealed]
  simp
end Go.Proofs.Yteopadjihklkmaa
