/- Stamps as four bytes each. Plain law. -/
import Derived.Test.YtajjmephfoaiaaaSp2
namespace Go.Proofs.Ytajjmephfoaiaaa
open Go
theorem bitsOf_add (a b v : Nat) : bitsOf (a + b) v = bitsOf a (v / 2 ^ b) ++ bitsOf b v := by
  apply List.ext_getElem?
  intro i
  rw [List.getElem?_append, bitsOf_length]
  by_cases h : i < a
  · rw [if_pos h, bitsOf_at (by omega), bitsOf_at h, Nat.testBit_div_two_pow]
    congr 2
    omega
  · rw [if_neg h]
    by_cases h2 : i < a + b
    · rw [bitsOf_at h2, bitsOf_at (by omega)]
      congr 2
      omega
    · rw [List.getElem?_eq_none (by rw [bitsOf_length]; omega), List.getElem?_eq_none (by rw [bitsOf_length]; omega)]
theorem bitsOf_mod (w v : Nat) : bitsOf w (v % 2 ^ w) = bitsOf w v := by
  apply List.ext_getElem?
  intro i
  rcases Nat.lt_or_ge i w with h | h
  · rw [bitsOf_at h, bitsOf_at h, Nat.testBit_mod_two_pow, decide_eq_true (by omega), Bool.true_and]
  · rw [List.getElem?_eq_none (by rw [bitsOf_length]; omega), List.getElem?_eq_none (by rw [bitsOf_length]; omega)]
theorem numAt_add (xs : List UInt8) (a k : Nat) : ∀ l, numAt xs a (k + l) = numAt xs a k * 2 ^ l + numAt xs (a + k) l
  | 0 => by simp [numAt]
  | l + 1 => by
    rw [← Nat.add_assoc, numAt, numAt, numAt_add xs a k l, Nat.pow_succ, Nat.add_assoc a k l]
    have h : numAt xs a k * (2 ^ l * 2) = 2 * (numAt xs a k * 2 ^ l) := by rw [← Nat.mul_assoc, Nat.mul_comm]
    rw [h]
    omega
theorem numAt_byte (xs : List UInt8) (j : Nat) : numAt xs (8 * j) 8 = (xs.getD j 0).toNat := by
  simp only [numAt, bitAt]
  have e : ∀ k, k < 8 → (8 * j + k) / 8 = j ∧ (8 * j + k) % 8 = k := fun k h => by omega
  have e0 := e 0 (by decide); have e1 := e 1 (by decide); have e2 := e 2 (by decide); have e3 := e 3 (by decide)
  have e4 := e 4 (by decide); have e5 := e 5 (by decide); have e6 := e 6 (by decide); have e7 := e 7 (by decide)
  rw [e0.1, e0.2, e1.1, e1.2, e2.1, e2.2, e3.1, e3.2, e4.1, e4.2, e5.1, e5.2, e6.1, e6.2, e7.1, e7.2]
  generalize xs.getD j 0 = c
  have key : ∀ c : Fin 256, 2 * (2 * (2 * (2 * (2 * (2 * (2 * (2 * 0 + b2n ((UInt8.ofNat c.val).toBitVec.getLsbD (7 - 0))) + b2n ((UInt8.ofNat c.val).toBitVec.getLsbD (7 - 1))) + b2n ((UInt8.ofNat c.val).toBitVec.getLsbD (7 - 2))) + b2n ((UInt8.ofNat c.val).toBitVec.getLsbD (7 - 3))) + b2n ((UInt8.ofNat c.val).toBitVec.getLsbD (7 - 4))) + b2n ((UInt8.ofNat c.val).toBitVec.getLsbD (7 - 5))) + b2n ((UInt8.ofNat c.val).toBitVec.getLsbD (7 - 6))) + b2n ((UInt8.ofNat c.val).toBitVec.getLsbD (7 - 7)) = (UInt8.ofNat c.val).toNat := by decide +kernel
  have h := key ⟨c.toNat, c.toNat_lt⟩
  simpa using h
/-- Bytes whose numbers are the same are the same. -/
theorem bytes_ext {xs ys : List UInt8} (h : xs.length = ys.length) (h2 : ∀ j, j < xs.length → (xs.getD j 0).toNat = (ys.getD j 0).toNat) : xs = ys := by
  apply List.ext_getElem? 
  intro j
  rcases Nat.lt_or_ge j xs.length with hj | hj
  · have := UInt8.toNat_inj.1 (h2 j hj)
    rw [List.getD_eq_getElem?_getD, List.getD_eq_getElem?_getD, List.getElem?_eq_getElem hj, List.getElem?_eq_getElem (by omega)] at this
    rw [List.getElem?_eq_getElem hj, List.getElem?_eq_getElem (by omega)]
    exact congrArg some this
  · rw [List.getElem?_eq_none hj, List.getElem?_eq_none (by omega)]
def fourB (s : Int × Int) : List UInt8 := [UInt8.ofNat (s.1.toNat / 256), UInt8.ofNat (s.1.toNat % 256), UInt8.ofNat (32 * s.2.toNat / 256), UInt8.ofNat (32 * s.2.toNat % 256)]
def foursB (ss : List (Int × Int)) : List UInt8 := ss.flatMap fourB
theorem foursB_length (ss : List (Int × Int)) : (foursB ss).length = 4 * ss.length := by
  induction ss with
  | nil => rfl
  | cons s r ih => simp only [foursB, List.flatMap_cons, List.length_append, fourB, List.length_cons, List.length_nil] at *; omega
theorem foursB_append (a b : List (Int × Int)) : foursB (a ++ b) = foursB a ++ foursB b := by simp [foursB]
/-- The stamp at a place of bytes, and the number of its last two. -/
def byN (bs : List UInt8) (j : Nat) : Nat := (bs.getD j 0).toNat
def lowS (bs : List UInt8) (i : Nat) : Nat := 256 * byN bs (4 * i + 2) + byN bs (4 * i + 3)
def stp (bs : List UInt8) (i : Nat) : Int × Int := (((256 * byN bs (4 * i) + byN bs (4 * i + 1) : Nat) : Int), ((lowS bs i / 32 : Nat) : Int))
def okS (bs : List UInt8) (i : Nat) : Bool := decide (lowS bs i % 32 = 0 ∧ lowS bs i / 32 < 1440)
def unpE (bs : List UInt8) : Int := if bs.length % 4 = 0 then if (List.range (bs.length / 4)).all (okS bs) then 0 else 12 else 10
def unpL (bs : List UInt8) : List (Int × Int) := if unpE bs = 0 then (List.range (bs.length / 4)).map (stp bs) else []
theorem byN_lt (bs : List UInt8) (j : Nat) : byN bs j < 256 := (bs.getD j 0).toNat_lt
theorem lowS_lt (bs : List UInt8) (i : Nat) : lowS bs i < 65536 := by
  have := byN_lt bs (4 * i + 2); have := byN_lt bs (4 * i + 3); unfold lowS; omega
/-- The three numbers at a stamp's place. -/
theorem num16 (bs : List UInt8) (i : Nat) : numAt bs (32 * i) 16 = 256 * byN bs (4 * i) + byN bs (4 * i + 1) := by
  have h := numAt_add bs (8 * (4 * i)) 8 8
  rw [numAt_byte, show 8 * (4 * i) + 8 = 8 * (4 * i + 1) by omega, numAt_byte] at h
  rw [show 32 * i = 8 * (4 * i) by omega, h]
  unfold byN
  omega
theorem numLow (bs : List UInt8) (i : Nat) : numAt bs (32 * i + 16) 16 = lowS bs i := by
  have h := numAt_add bs (8 * (4 * i + 2)) 8 8
  rw [numAt_byte, show 8 * (4 * i + 2) + 8 = 8 * (4 * i + 3) by omega, numAt_byte] at h
  rw [show 32 * i + 16 = 8 * (4 * i + 2) by omega, h]
  unfold lowS byN
  omega
theorem num11 (bs : List UInt8) (i : Nat) : numAt bs (32 * i + 16) 11 = lowS bs i / 32 ∧ numAt bs (32 * i + 27) 5 = lowS bs i % 32 := by
  have h := numAt_add bs (32 * i + 16) 11 5
  rw [show 11 + 5 = 16 from rfl, numLow] at h
  have := numAt_lt bs (32 * i + 27) 5
  rw [show 32 * i + 16 + 11 = 32 * i + 27 by omega] at h
  omega
theorem fieldBits_stamp {s : Int × Int} (h : rightS s = true) : fieldBits (fieldsS s) = bitsOf 32 (65536 * s.1.toNat + 32 * s.2.toNat) := by
  simp only [rightS, decide_eq_true_eq] at h
  have e1 := bitsOf_add 16 16 (65536 * s.1.toNat + 32 * s.2.toNat)
  have e2 := bitsOf_add 11 5 (65536 * s.1.toNat + 32 * s.2.toNat)
  rw [show 16 + 16 = 32 from rfl] at e1
  rw [show 11 + 5 = 16 from rfl] at e2
  rw [e1, e2, ← bitsOf_mod 11, ← bitsOf_mod 5]
  rw [show (65536 * s.1.toNat + 32 * s.2.toNat) / 2 ^ 16 = s.1.toNat by omega, show (65536 * s.1.toNat + 32 * s.2.toNat) / 2 ^ 5 % 2 ^ 11 = s.2.toNat by omega, show (65536 * s.1.toNat + 32 * s.2.toNat) % 2 ^ 5 = 0 by omega]
  simp [fieldBits, fieldsS]
theorem byte_bits {n j : Nat} (hj : j < 4) (p q : List Bool) (k : Nat) (hp : p.length = 8 * k) : (byteAt (p ++ bitsOf 32 n ++ q) (k + j)).toNat = n / 2 ^ (8 * (3 - j)) % 256 := by
  have hb : ∀ i, i < 8 → (byteAt (p ++ bitsOf 32 n ++ q) (k + j)).toBitVec.getLsbD i = n.testBit (8 * (3 - j) + i) := fun i hi => by
    rw [byteAt_bit _ _ _ hi]
    unfold bitOf
    rw [List.getD_eq_getElem?_getD, List.append_assoc, List.getElem?_append_right (by omega), hp, List.getElem?_append_left (by rw [bitsOf_length]; omega), bitsOf_at (by omega)]
    simp only [Option.getD_some]
    congr 1
    omega
  have e : byteAt (p ++ bitsOf 32 n ++ q) (k + j) = UInt8.ofNat (n / 2 ^ (8 * (3 - j)) % 256) := by
    apply byte_ext
    intro i hi
    rw [hb i hi]
    rw [show (256 : Nat) = 2 ^ 8 from rfl]
    have : (UInt8.ofNat (n / 2 ^ (8 * (3 - j)) % 2 ^ 8)).toBitVec = BitVec.ofNat 8 (n / 2 ^ (8 * (3 - j)) % 2 ^ 8) := rfl
    rw [this, BitVec.getLsbD_ofNat, decide_eq_true hi, Bool.true_and, Nat.testBit_mod_two_pow, decide_eq_true hi, Bool.true_and, Nat.testBit_div_two_pow, Nat.add_comm]
  rw [e, UInt8.toNat_ofNat']
  omega
theorem fourB_at {s : Int × Int} (h : rightS s = true) {j : Nat} (hj : j < 4) : ((fourB s).getD j 0).toNat = (65536 * s.1.toNat + 32 * s.2.toNat) / 2 ^ (8 * (3 - j)) % 256 := by
  simp only [rightS, decide_eq_true_eq] at h
  match j, hj with
  | 0, _ => simp only [fourB, List.getD_cons_zero, UInt8.toNat_ofNat']; omega
  | 1, _ => simp only [fourB, List.getD_cons_succ, List.getD_cons_zero, UInt8.toNat_ofNat']; omega
  | 2, _ => simp only [fourB, List.getD_cons_succ, List.getD_cons_zero, UInt8.toNat_ofNat']; omega
  | 3, _ => simp only [fourB, List.getD_cons_succ, List.getD_cons_zero, UInt8.toNat_ofNat']; omega
theorem getD_append_r {xs ys : List UInt8} {j : Nat} (h : xs.length ≤ j) : (xs ++ ys).getD j 0 = ys.getD (j - xs.length) 0 := by
  rw [List.getD_eq_getElem?_getD, List.getD_eq_getElem?_getD, List.getElem?_append_right h]
theorem getD_append_l {xs ys : List UInt8} {j : Nat} (h : j < xs.length) : (xs ++ ys).getD j 0 = xs.getD j 0 := by
  rw [List.getD_eq_getElem?_getD, List.getD_eq_getElem?_getD, List.getElem?_append_left h]
theorem pack_four {s : Int × Int} (h : rightS s = true) {p : List Bool} {k : Nat} (hp : p.length = 8 * k) : pack (p ++ fieldBits (fieldsS s)) (k + 4) = pack p k ++ fourB s := by
  have hr := h
  simp only [rightS, decide_eq_true_eq] at hr
  rw [fieldBits_stamp h]
  have hf : (fourB s).length = 4 := rfl
  refine bytes_ext (by rw [List.length_append, pack_length, pack_length, hf]) fun j hj => ?_
  rw [pack_length] at hj
  rcases Nat.lt_or_ge j k with hlt | hge
  · rw [getD_append_l (by rw [pack_length]; exact hlt), List.getD_eq_getElem?_getD, List.getD_eq_getElem?_getD, pack_at (by omega), pack_at hlt]
    simp only [Option.getD_some]
    congr 1
    apply byte_ext
    intro i hi
    rw [byteAt_bit _ _ _ hi, byteAt_bit _ _ _ hi]
    unfold bitOf
    rw [List.getD_eq_getElem?_getD, List.getD_eq_getElem?_getD, List.getElem?_append_left (by omega)]
  · rw [getD_append_r (by rw [pack_length]; exact hge), pack_length, fourB_at h (by omega), List.getD_eq_getElem?_getD, pack_at hj]
    simp only [Option.getD_some]
    have := byte_bits (n := 65536 * s.1.toNat + 32 * s.2.toNat) (j := j - k) (by omega) p [] k hp
    rw [List.append_nil, show k + (j - k) = j by omega] at this
    exact this
theorem packL_fours {ss : List (Int × Int)} (h : ss.all rightS = true) : packL ss = foursB ss := by
  have key : ∀ i, i ≤ ss.length → pack (bitsS (ss.take i)) (4 * i) = foursB (ss.take i) := by
    intro i
    induction i with
    | zero => intro _; simp [bitsS, fieldBits, foursB, pack]
    | succ i ih =>
      intro hi
      have hr : rightS (ss.getD i default) = true := by
        rw [List.all_eq_true] at h
        exact h _ (by rw [List.getD_eq_getElem?_getD, List.getElem?_eq_getElem (by omega)]; exact List.getElem_mem _)
      rw [bitsS_next (by omega), show 4 * (i + 1) = 4 * i + 4 by omega, pack_four hr (by rw [bitsS_length, List.length_take]; omega), ih (by omega), take_next (by omega), foursB_append]
      simp [foursB]
  have := key ss.length (Nat.le_refl _)
  rw [List.take_length] at this
  simp only [packL, h, if_true]
  exact this
theorem foursB_at {ss : List (Int × Int)} {i j : Nat} (hi : i < ss.length) (hj : j < 4) : (foursB ss).getD (4 * i + j) 0 = (fourB (ss.getD i default)).getD j 0 := by
  induction ss generalizing i with
  | nil => simp at hi
  | cons s r ih =>
    have e : foursB (s :: r) = fourB s ++ foursB r := rfl
    have hf : (fourB s).length = 4 := rfl
    rw [e]
    match i, hi with
    | 0, _ => rw [getD_append_l (by omega)]; simp
    | i + 1, hi =>
      rw [getD_append_r (by omega), hf, show 4 * (i + 1) + j - 4 = 4 * i + j by omega, ih (by simpa using hi)]
      simp
/-- What was laid is read so. -/
theorem unp_fours {ss : List (Int × Int)} (h : ss.all rightS = true) : unpE (foursB ss) = 0 ∧ unpL (foursB ss) = ss := by
  have hl := foursB_length ss
  have at_ : ∀ i, i < ss.length → ∀ j, j < 4 → byN (foursB ss) (4 * i + j) = (65536 * (ss.getD i default).1.toNat + 32 * (ss.getD i default).2.toNat) / 2 ^ (8 * (3 - j)) % 256 := fun i hi j hj => by
    have hr : rightS (ss.getD i default) = true := by
      rw [List.all_eq_true] at h
      exact h _ (by rw [List.getD_eq_getElem?_getD, List.getElem?_eq_getElem (by omega)]; exact List.getElem_mem _)
    unfold byN
    rw [foursB_at hi hj, fourB_at hr hj]
  have rng : ∀ i, i < ss.length → 0 ≤ (ss.getD i default).1 ∧ (ss.getD i default).1 ≤ 65535 ∧ 0 ≤ (ss.getD i default).2 ∧ (ss.getD i default).2 < 1440 := fun i hi => by
    rw [List.all_eq_true] at h
    have := h (ss.getD i default) (by rw [List.getD_eq_getElem?_getD, List.getElem?_eq_getElem (by omega)]; exact List.getElem_mem _)
    simpa [rightS] using this
  have low : ∀ i, i < ss.length → lowS (foursB ss) i = 32 * (ss.getD i default).2.toNat := fun i hi => by
    have h2 := at_ i hi 2 (by decide)
    have h3 := at_ i hi 3 (by decide)
    have := rng i hi
    unfold lowS
    omega
  have hE : unpE (foursB ss) = 0 := by
    unfold unpE
    rw [if_pos (by omega), hl, show 4 * ss.length / 4 = ss.length by omega, if_pos]
    rw [List.all_eq_true]
    intro i hi
    rw [List.mem_range] at hi
    have := rng i hi
    simp only [okS, low i hi, decide_eq_true_eq]
    omega
  refine ⟨hE, ?_⟩
  unfold unpL
  rw [if_pos hE, hl, show 4 * ss.length / 4 = ss.length by omega]
  apply List.ext_getElem?
  intro i
  rcases Nat.lt_or_ge i ss.length with hi | hi
  · have h0 := at_ i hi 0 (by decide)
    have h1 := at_ i hi 1 (by decide)
    have := rng i hi
    rw [List.getElem?_map, List.getElem?_range hi, Option.map_some]
    have e : stp (foursB ss) i = ss.getD i default := by
      unfold stp
      rw [low i hi]
      refine Prod.ext ?_ ?_
      · simp only
        rw [Nat.add_zero] at h0
        omega
      · simp only
        omega
    rw [e, List.getD_eq_getElem?_getD, List.getElem?_eq_getElem hi]
    rfl
  · rw [List.getElem?_eq_none (by simpa using hi), List.getElem?_eq_none hi]
theorem unpE_zero {bs : List UInt8} (h : unpE bs = 0) : bs.length % 4 = 0 ∧ (List.range (bs.length / 4)).all (okS bs) = true := by
  unfold unpE at h
  by_cases h1 : bs.length % 4 = 0
  · rw [if_pos h1] at h
    by_cases h2 : (List.range (bs.length / 4)).all (okS bs) = true
    · exact ⟨h1, h2⟩
    · rw [if_neg h2] at h
      cases h
  · rw [if_neg h1] at h
    cases h
theorem unp_right {bs : List UInt8} : (unpL bs).all rightS = true := by
  unfold unpL
  split
  · rename_i h
    rw [List.all_eq_true]
    intro s hs
    obtain ⟨i, hi, rfl⟩ := List.mem_map.1 hs
    have h2 := (unpE_zero h).2
    rw [List.all_eq_true] at h2
    have h3 := h2 i hi
    have a := byN_lt bs (4 * i)
    have b := byN_lt bs (4 * i + 1)
    simp only [okS, decide_eq_true_eq] at h3
    simp only [rightS, stp, decide_eq_true_eq]
    omega
  · rfl
/-- What was read is laid so. -/
theorem fours_unp {bs : List UInt8} (h : unpE bs = 0) : foursB (unpL bs) = bs := by
  obtain ⟨h4, h2⟩ := unpE_zero h
  have hr := unp_right (bs := bs)
  have hL : unpL bs = (List.range (bs.length / 4)).map (stp bs) := by unfold unpL; rw [if_pos h]
  have hlen : (unpL bs).length = bs.length / 4 := by rw [hL]; simp
  refine bytes_ext (by rw [foursB_length, hlen]; omega) fun j hj => ?_
  rw [foursB_length, hlen] at hj
  obtain ⟨i, r, rfl, hr4⟩ : ∃ i r, j = 4 * i + r ∧ r < 4 := ⟨j / 4, j % 4, by omega, by omega⟩
  have hi : i < bs.length / 4 := by omega
  rw [foursB_at (by rw [hlen]; exact hi) hr4]
  have hs : (unpL bs).getD i default = stp bs i := by
    rw [hL, List.getD_eq_getElem?_getD, List.getElem?_map, List.getElem?_range hi]; rfl
  rw [hs, fourB_at (by rw [List.all_eq_true] at hr; exact hr _ (by rw [hL]; exact List.mem_map.2 ⟨i, List.mem_range.2 hi, rfl⟩)) hr4]
  rw [List.all_eq_true] at h2
  have h3 := h2 i (List.mem_range.2 hi)
  simp only [okS, decide_eq_true_eq] at h3
  have a := byN_lt bs (4 * i)
  have b := byN_lt bs (4 * i + 1)
  have c := byN_lt bs (4 * i + 2)
  have d := byN_lt bs (4 * i + 3)
  have hl : lowS bs i = 256 * byN bs (4 * i + 2) + byN bs (4 * i + 3) := rfl
  have hj' : (bs.getD (4 * i + r) 0).toNat = byN bs (4 * i + r) := rfl
  rw [hj']
  simp only [stp, Int.toNat_natCast]
  obtain rfl | rfl | rfl | rfl : r = 0 ∨ r = 1 ∨ r = 2 ∨ r = 3 := by omega
  · rw [Nat.add_zero]
    generalize byN bs (4 * i) = x at *
    generalize byN bs (4 * i + 1) = y at *
    omega
  · omega
  · omega
  · omega
end Go.Proofs.Ytajjmephfoaiaaa
