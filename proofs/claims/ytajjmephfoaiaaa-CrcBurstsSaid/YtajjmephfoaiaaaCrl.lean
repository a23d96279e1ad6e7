/- The sum is linear: what a changed bit does to it. Words of our own. -/
import Derived.Test.YtajjmephfoaiaaaCrp
namespace Go.Proofs.Ytajjmephfoaiaaa
open Go
theorem top_bit2 (s : BitVec 16) : -(s >>> 15) = if s.getLsbD 15 then 65535#16 else 0#16 := by
  rw [top_bit]
  have h : s.getLsbD 15 = decide (32768 ≤ s.toNat) := by
    have hs := s.isLt
    rw [BitVec.getLsbD, Nat.testBit_eq_decide_div_mod_eq, decide_eq_decide]
    omega
  rw [h]
  by_cases h2 : 32768 ≤ s.toNat <;> simp [h2]
theorem step1_xor (a b : BitVec 16) : step1 (a ^^^ b) = step1 a ^^^ step1 b := by
  unfold step1
  rw [top_bit2, top_bit2, top_bit2, BitVec.getLsbD_xor, BitVec.shiftLeft_xor_distrib]
  cases a.getLsbD 15 <;> cases b.getLsbD 15 <;> simp only [Bool.xor_false, Bool.xor_true, Bool.not_true, Bool.not_false, if_true, if_false, Bool.false_eq_true]
  · simp
  · rw [show (4129#16 &&& 65535#16) = 4129#16 from rfl, show (4129#16 &&& 0#16) = 0#16 from rfl]; simp [BitVec.xor_assoc]
  · rw [show (4129#16 &&& 65535#16) = 4129#16 from rfl, show (4129#16 &&& 0#16) = 0#16 from rfl]
    simp only [BitVec.xor_zero, BitVec.xor_assoc]
    rw [BitVec.xor_comm (b <<< 1) 4129#16]
  · rw [show (4129#16 &&& 65535#16) = 4129#16 from rfl, show (4129#16 &&& 0#16) = 0#16 from rfl]
    have e : a <<< 1 ^^^ 4129#16 ^^^ (b <<< 1 ^^^ 4129#16) = a <<< 1 ^^^ b <<< 1 ^^^ (4129#16 ^^^ 4129#16) := by ac_rfl
    rw [e]
    simp
theorem steps_xor (a b : BitVec 16) : ∀ n, steps n (a ^^^ b) = steps n a ^^^ steps n b
  | 0 => rfl
  | n + 1 => by
    show step1 (steps n (a ^^^ b)) = _
    rw [steps_xor a b n, step1_xor]
    rfl
theorem steps_add (a : Nat) (s : BitVec 16) : ∀ b, steps (b + a) s = steps b (steps a s)
  | 0 => by rw [Nat.zero_add]; rfl
  | b + 1 => by
    rw [Nat.succ_add]
    show step1 (steps (b + a) s) = step1 (steps b (steps a s))
    rw [steps_add a s b]
theorem steps_zero : ∀ n, steps n 0#16 = 0#16
  | 0 => rfl
  | n + 1 => by
    show step1 (steps n 0#16) = _
    rw [steps_zero n]
    rfl
theorem step1_nought {s : BitVec 16} (h : step1 s = 0#16) : s = 0#16 := by
  have hs := s.isLt
  have h0 := congrArg BitVec.toNat h
  by_cases h2 : 32768 ≤ s.toNat
  · exfalso
    rw [← r_step_hi s h2] at h0
    have h1 := congrArg (fun n => Nat.testBit n 0) h0
    rw [show (65536 : Nat) = 2 ^ 16 from rfl, Nat.testBit_mod_two_pow, Nat.testBit_xor] at h1
    simp [Nat.testBit_eq_decide_div_mod_eq] at h1
  · rw [← r_step_lo s h2] at h0
    apply BitVec.eq_of_toNat_eq
    simp at h0 ⊢
    omega
theorem steps_nought {s : BitVec 16} : ∀ {n}, steps n s = 0#16 → s = 0#16
  | 0, h => h
  | _ + 1, h => steps_nought (step1_nought h)
theorem crcB_xor (s e : BitVec 16) (x : UInt8) : crcB (s ^^^ e) x = crcB s x ^^^ steps 8 e := by
  unfold crcB
  rw [← steps_xor]
  unfold put8
  congr 1
  ac_rfl
theorem crc_xor : ∀ (xs : List UInt8) (s : BitVec 16) (e : BitVec 16), crc (s ^^^ e) xs = crc s xs ^^^ steps (8 * xs.length) e
  | [], s, e => rfl
  | x :: r, s, e => by
    show crc (crcB (s ^^^ e) x) r = crc (crcB s x) r ^^^ _
    rw [crcB_xor, crc_xor r, List.length_cons, show 8 * (r.length + 1) = 8 * r.length + 8 by omega, steps_add]
theorem of_xor (a b : Nat) : BitVec.ofNat 16 (a ^^^ b) = BitVec.ofNat 16 a ^^^ BitVec.ofNat 16 b := by
  apply BitVec.eq_of_toNat_eq
  simp only [BitVec.toNat_ofNat, BitVec.toNat_xor]
  exact Nat.xor_mod_two_pow
theorem crcB_byte (s : BitVec 16) (x u : UInt8) : crcB s (x ^^^ u) = crcB s x ^^^ steps 8 (BitVec.ofNat 16 u.toNat <<< 8) := by
  unfold crcB
  rw [← steps_xor]
  unfold put8
  rw [UInt8.toNat_xor, of_xor, BitVec.shiftLeft_xor_distrib, BitVec.xor_assoc]
theorem bit_step : ∀ q : Fin 8, steps 8 (BitVec.ofNat 16 (UInt8.ofNat (128 / 2 ^ q.val)).toNat <<< 8) = steps (8 - q.val) 32768#16 := by decide +kernel
theorem top_step : ∀ k : Fin 16, steps k.val (32768#16 >>> k.val) = 32768#16 := by decide +kernel
theorem crc_flip {q : Nat} (hq : q < 8) : ∀ (xs : List UInt8) (s : BitVec 16) (i : Nat), i < xs.length →
    crc s (xs.set i (xs.getD i 0 ^^^ UInt8.ofNat (128 / 2 ^ q))) = crc s xs ^^^ steps (8 * xs.length - (8 * i + q)) 32768#16
  | [], _, _, h => absurd h (Nat.not_lt_zero _)
  | x :: r, s, 0, _ => by
    show crc (crcB s (x ^^^ _)) r = crc (crcB s x) r ^^^ _
    rw [crcB_byte, bit_step ⟨q, hq⟩, crc_xor, List.length_cons, ← steps_add]
    congr 2
    show 8 * r.length + (8 - q) = _
    omega
  | x :: r, s, i + 1, h => by
    show crc (crcB s x) (r.set i (r.getD i 0 ^^^ _)) = crc (crcB s x) r ^^^ _
    rw [crc_flip hq r _ i (by simpa using h), List.length_cons]
    congr 2
    omega
theorem steps_low (t : BitVec 16) (ht : t.toNat < 256) : ∀ k, k ≤ 8 → (steps k t).toNat = t.toNat * 2 ^ k := by
  intro k
  induction k with
  | zero => intro _; simp [steps]
  | succ k ih =>
    intro hk
    have h := ih (by omega)
    have hp : 2 ^ k ≤ 128 := Nat.pow_le_pow_right (n := 2) (by decide) (show k ≤ 7 by omega)
    have hlt : (steps k t).toNat < 32768 := by
      rw [h]
      have : t.toNat * 2 ^ k ≤ 255 * 128 := Nat.mul_le_mul (by omega) hp
      omega
    show (step1 (steps k t)).toNat = _
    have h2 : t.toNat * 2 ^ k < 32768 := by omega
    rw [← r_step_lo _ (by omega), h, Nat.pow_succ, show t.toNat * (2 ^ k * 2) = 2 * (t.toNat * 2 ^ k) by rw [Nat.mul_comm (2 ^ k) 2, ← Nat.mul_assoc, Nat.mul_comm t.toNat 2, Nat.mul_assoc]]
    exact Nat.mod_eq_of_lt (by omega)
theorem crc_two (s : BitVec 16) (a b : UInt8) : crc s [a, b] = steps 16 (s ^^^ (BitVec.ofNat 16 a.toNat <<< 8) ^^^ BitVec.ofNat 16 b.toNat) := by
  show steps 8 (put8 (steps 8 (put8 s a)) b) = _
  have hb := b.toNat_lt
  have e : BitVec.ofNat 16 b.toNat <<< 8 = steps 8 (BitVec.ofNat 16 b.toNat) := by
    apply BitVec.eq_of_toNat_eq
    have h1 : (BitVec.ofNat 16 b.toNat).toNat = b.toNat := by rw [BitVec.toNat_ofNat]; exact Nat.mod_eq_of_lt (by omega)
    rw [steps_low _ (by rw [h1]; omega) 8 (Nat.le_refl _), BitVec.toNat_shiftLeft, Nat.shiftLeft_eq, h1]
    exact Nat.mod_eq_of_lt (by omega)
  have e2 : put8 (steps 8 (put8 s a)) b = steps 8 (put8 s a) ^^^ (BitVec.ofNat 16 b.toNat <<< 8) := rfl
  rw [e2, e, ← steps_xor, ← steps_add]
  rfl
theorem sum_nought {bs : List UInt8} (p : List UInt8) (a b : UInt8) (e : bs = p ++ [a, b]) : sum bs = 0#16 ↔ sealed p = bs := by
  subst e
  rw [sum_append, crc_two, sealed, List.append_cancel_left_eq]
  have ha := a.toNat_lt
  have hb := b.toNat_lt
  have hs := sum_lt p
  have key : (BitVec.ofNat 16 a.toNat <<< 8 ^^^ BitVec.ofNat 16 b.toNat).toNat = a.toNat * 256 + b.toNat := by
    rw [BitVec.toNat_xor, BitVec.toNat_shiftLeft, BitVec.toNat_ofNat, BitVec.toNat_ofNat, Nat.shiftLeft_eq, Nat.mod_eq_of_lt (by omega : a.toNat < 2 ^ 16), Nat.mod_eq_of_lt (by omega : b.toNat < 2 ^ 16), Nat.mod_eq_of_lt (by omega)]
    rw [show a.toNat * 2 ^ 8 = a.toNat <<< 8 from (Nat.shiftLeft_eq _ _).symm, Nat.shiftLeft_add_eq_or_of_lt (by omega)]
    apply Nat.eq_of_testBit_eq
    intro i
    rw [Nat.testBit_xor, Nat.testBit_or, Nat.testBit_shiftLeft]
    by_cases h : 8 ≤ i
    · have h3 : b.toNat.testBit i = false := Nat.testBit_lt_two_pow (Nat.lt_of_lt_of_le hb (Nat.pow_le_pow_right (n := 2) (by decide) h))
      simp [h3]
    · simp [h]
  constructor
  · intro h
    have h1 := steps_nought h
    rw [BitVec.xor_assoc] at h1
    have h2 : sum p = BitVec.ofNat 16 a.toNat <<< 8 ^^^ BitVec.ofNat 16 b.toNat := by
      have := congrArg (fun z => z ^^^ (BitVec.ofNat 16 a.toNat <<< 8 ^^^ BitVec.ofNat 16 b.toNat)) h1
      simpa [BitVec.xor_assoc] using this
    have h3 := congrArg BitVec.toNat h2
    rw [key] at h3
    rw [hiB, loB, h3]
    congr 1
    · apply UInt8.toNat_inj.1
      rw [UInt8.toNat_ofNat']
      omega
    · congr 1
      apply UInt8.toNat_inj.1
      rw [UInt8.toNat_ofNat']
      omega
  · intro h
    simp only [List.cons.injEq, and_true] at h
    have h1 := congrArg UInt8.toNat h.1
    have h2 := congrArg UInt8.toNat h.2
    rw [hiB, UInt8.toNat_ofNat'] at h1
    rw [loB, UInt8.toNat_ofNat'] at h2
    have h3 : sum p = BitVec.ofNat 16 a.toNat <<< 8 ^^^ BitVec.ofNat 16 b.toNat := by
      apply BitVec.eq_of_toNat_eq
      rw [key]
      omega
    rw [BitVec.xor_assoc, ← h3, BitVec.xor_self, steps_zero]
theorem put8_hi (s : BitVec 16) : (put8 s (UInt8.ofNat (s.toNat / 256))).toNat = s.toNat % 256 := by
  have hs := s.isLt
  rw [← r_put, UInt8.toNat_ofNat']
  have e : s.toNat / 256 % 2 ^ 8 * 256 = (s.toNat >>> 8) <<< 8 := by
    rw [Nat.shiftRight_eq_div_pow, Nat.shiftLeft_eq]
    omega
  rw [e]
  apply Nat.eq_of_testBit_eq
  intro i
  rw [Nat.testBit_xor, Nat.testBit_shiftLeft, Nat.testBit_shiftRight, show (256 : Nat) = 2 ^ 8 from rfl, Nat.testBit_mod_two_pow]
  by_cases h : i < 8
  · have h2 : ¬ 8 ≤ i := by omega
    simp [h, h2]
  · have h2 : 8 ≤ i := by omega
    have h3 : 8 + (i - 8) = i := by omega
    simp [h, h2, h3]
theorem crc_self (xs : List UInt8) : sum (sealed xs) = 0#16 := by
  rw [sealed, sum_append]
  show crcB (crcB (sum xs) (hiB xs)) (loB xs) = 0#16
  have h1 := put8_hi (sum xs)
  have h2 := steps_low (put8 (sum xs) (hiB xs)) (by rw [hiB, h1]; omega) 8 (Nat.le_refl _)
  rw [hiB, h1] at h2
  have h3 : put8 (crcB (sum xs) (hiB xs)) (loB xs) = 0#16 := by
    apply BitVec.eq_of_toNat_eq
    rw [← r_put]
    have e : (crcB (sum xs) (hiB xs)).toNat = (sum xs).toNat % 256 * 2 ^ 8 := h2
    rw [e, loB, UInt8.toNat_ofNat']
    simp
  rw [crcB, h3]
  decide
theorem last_two {bs : List UInt8} {m : Nat} (hl : bs.length = m) (hm : 2 ≤ m) : bs = bs.take (m - 2) ++ [bs.getD (m - 2) 0, bs.getD (m - 1) 0] := by
  apply List.ext_getElem?
  intro i
  have h0 : (bs.take (m - 2)).length = m - 2 := by rw [List.length_take]; omega
  rw [List.getElem?_append, h0]
  split
  · rw [List.getElem?_take, if_pos (by omega)]
  · rcases Nat.lt_or_ge i m with h1 | h1
    · rcases Nat.eq_or_lt_of_le (show m - 2 ≤ i by omega) with h2 | h2
      · subst h2; rw [getD_at (d := 0) (by omega)]; simp
      · have h3 : i = m - 1 := by omega
        subst h3
        have h4 : m - 1 - (m - 2) = 1 := by omega
        rw [h4, getD_at (d := 0) (by omega)]; simp
    · rw [List.getElem?_eq_none (by omega), List.getElem?_eq_none (by simp; omega)]
/-- The turned bits of a window of sixteen, the first at the top. -/
structure Burst (k m : Nat) (w : BitVec 16) (turned : Bool) (ys : List UInt8) : Prop where
  low : ∀ j, j + k < 16 → w.getLsbD j = false
  on : turned = decide (w ≠ 0#16)
  sum : Go.Proofs.Ytajjmephfoaiaaa.sum ys = steps m w
theorem Burst.turn {k m i q : Nat} {w : BitVec 16} {t : Bool} {ys : List UInt8} (h : Burst k m w t ys) (hk : k < 16) (hkm : k < m) (hq : q < 8) (hi : i < ys.length) (hm : 8 * ys.length - (8 * i + q) = m - k) :
    Burst (k + 1) m (w ^^^ (32768#16 >>> k)) true (ys.set i (ys.getD i 0 ^^^ UInt8.ofNat (128 / 2 ^ q))) := by
  have hb : ∀ j, (32768#16 >>> k).getLsbD j = decide (k + j = 15) := by
    intro j
    rw [BitVec.getLsbD_ushiftRight, show (32768#16) = BitVec.twoPow 16 15 from rfl, BitVec.getLsbD_twoPow]
    by_cases e : k + j = 15
    · simp [e]
    · have : ¬ 15 = k + j := fun e' => e e'.symm
      simp [e, this]
  refine ⟨fun j hj => ?_, ?_, ?_⟩
  · rw [BitVec.getLsbD_xor, h.low j (by omega), hb, decide_eq_false (by omega)]
    rfl
  · symm
    rw [decide_eq_true_eq]
    intro e
    have h1 := congrArg (fun z => BitVec.getLsbD z (15 - k)) e
    rw [BitVec.getLsbD_xor, h.low _ (by omega), hb, decide_eq_true (by omega)] at h1
    simp at h1
  · show crc _ _ = _
    rw [crc_flip hq _ _ _ hi, steps_xor, hm]
    congr 1
    · exact h.sum
    · rw [show m = (m - k) + k by omega, steps_add, top_step ⟨k, hk⟩, show m - k + k - k = m - k by omega]
theorem Burst.pass {k m : Nat} {w : BitVec 16} {t : Bool} {ys : List UInt8} (h : Burst k m w t ys) : Burst (k + 1) m w t ys := ⟨fun j hj => h.low j (by omega), h.on, h.sum⟩
theorem Burst.tells {k m n : Nat} {w : BitVec 16} {t : Bool} {ys : List UInt8} (h : Burst k m w t ys) (hl : ys.length = n) (hn : 2 ≤ n) : sealed (ys.take (n - 2)) = ys ↔ t = false := by
  rw [← sum_nought _ _ _ (last_two hl hn), h.sum, h.on, decide_eq_false_iff_not]
  constructor
  · intro e; simpa using steps_nought e
  · intro e
    rw [Decidable.not_not.1 e, steps_zero]
end Go.Proofs.Ytajjmephfoaiaaa
