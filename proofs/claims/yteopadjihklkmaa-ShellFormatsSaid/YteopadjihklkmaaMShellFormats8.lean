/- Part 8 of the proof of ShellFormats. -/
import Derived.Test.YteopadjihklkmaaMShellFormats7
section
namespace Go.Proofs.Yteopadjihklkmaa
open Go
def bitOf (bs : List Bool) (i : Nat) : Bool := bs.getD i false
def byteAt (bs : List Bool) (j : Nat) : UInt8 :=
  UInt8.ofBitVec (BitVec.ofBoolListLE [bitOf bs (8 * j + 7), bitOf bs (8 * j + 6), bitOf bs (8 * j + 5), bitOf bs (8 * j + 4), bitOf bs (8 * j + 3), bitOf bs (8 * j + 2), bitOf bs (8 * j + 1), bitOf bs (8 * j)])
theorem byteAt_bit (bs : List Bool) (j i : Nat) (h : i < 8) : (byteAt bs j).toBitVec.getLsbD i = bitOf bs (8 * j + (7 - i)) := by
  have e : (byteAt bs j).toBitVec = BitVec.ofBoolListLE [bitOf bs (8 * j + 7), bitOf bs (8 * j + 6), bitOf bs (8 * j + 5), bitOf bs (8 * j + 4), bitOf bs (8 * j + 3), bitOf bs (8 * j + 2), bitOf bs (8 * j + 1), bitOf bs (8 * j)] := rfl
  rw [e]
  refine (BitVec.getLsbD_ofBoolListLE).trans ?_
  match i, h with
  | 0, _ => rfl
  | 1, _ => rfl
  | 2, _ => rfl
  | 3, _ => rfl
  | 4, _ => rfl
  | 5, _ => rfl
  | 6, _ => rfl
  | 7, _ => rfl
/-- k bytes of these bits. -/
def pack (bs : List Bool) (k : Nat) : List UInt8 := (List.range k).map (byteAt bs)
theorem pack_length (bs : List Bool) (k : Nat) : (pack bs k).length = k := by simp [pack]
theorem pack_at {bs : List Bool} {k j : Nat} (h : j < k) : (pack bs k)[j]? = some (byteAt bs j) := by simp [pack, h]
theorem byte_ext {x y : UInt8} (h : ∀ i, i < 8 → x.toBitVec.getLsbD i = y.toBitVec.getLsbD i) : x = y := by
  have := BitVec.eq_of_getLsbD_eq h
  exact UInt8.toBitVec_inj.1 this
theorem bitOf_append {bs : List Bool} {b : Bool} {i : Nat} : bitOf (bs ++ [b]) i = if i = bs.length then b else bitOf bs i := by
  unfold bitOf
  simp only [List.getD_eq_getElem?_getD, List.getElem?_append]
  by_cases h : i < bs.length
  · rw [if_pos h, if_neg (by omega)]
  · rw [if_neg h]
    by_cases e : i = bs.length
    · subst e; simp
    · rw [if_neg e, List.getElem?_eq_none (show [b].length ≤ i - bs.length by rw [List.length_singleton]; omega), List.getElem?_eq_none (by omega)]
theorem bitOf_past {bs : List Bool} {i : Nat} (h : bs.length ≤ i) : bitOf bs i = false := by
  unfold bitOf
  rw [List.getD_eq_getElem?_getD, List.getElem?_eq_none h]
  rfl
def b2n (b : Bool) : Nat := if b then 1 else 0
theorem one_bit (b : Bool) (r : Nat) (hr : r < 8) : ∀ i, i < 8 → (UInt8.ofNat (b2n b * 2 ^ (7 - r))).toBitVec.getLsbD i = (b && decide (i = 7 - r)) := by
  have key : ∀ b : Bool, ∀ r : Fin 8, ∀ i : Fin 8, (UInt8.ofNat (b2n b * 2 ^ (7 - r.val))).toBitVec.getLsbD i.val = (b && decide (i.val = 7 - r.val)) := by decide +kernel
  intro i hi
  exact key b ⟨r, hr⟩ ⟨i, hi⟩
/-- A bit more: the byte that takes it. -/
theorem byteAt_more (bs : List Bool) (b : Bool) : byteAt (bs ++ [b]) (bs.length / 8) = byteAt bs (bs.length / 8) ||| UInt8.ofNat (b2n b * 2 ^ (7 - bs.length % 8)) := by
  apply byte_ext
  intro i hi
  rw [UInt8.toBitVec_or, BitVec.getLsbD_or, byteAt_bit _ _ _ hi, byteAt_bit _ _ _ hi, one_bit b _ (Nat.mod_lt _ (by decide)) i hi, bitOf_append]
  by_cases e : i = 7 - bs.length % 8
  · rw [if_pos (by omega), bitOf_past (by omega)]
    simp [e]
  · rw [if_neg (by omega)]
    simp [e]
theorem byteAt_same {bs : List Bool} {b : Bool} {j : Nat} (h : j ≠ bs.length / 8) : byteAt (bs ++ [b]) j = byteAt bs j := by
  apply byte_ext
  intro i hi
  rw [byteAt_bit _ _ _ hi, byteAt_bit _ _ _ hi, bitOf_append, if_neg (by omega)]
theorem byteAt_past {bs : List Bool} {j : Nat} (h : bs.length ≤ 8 * j) : byteAt bs j = 0 := by
  apply byte_ext
  intro i hi
  rw [byteAt_bit _ _ _ hi, bitOf_past (by omega)]
  simp
theorem pack_grow {bs : List Bool} {k : Nat} (h : bs.length ≤ 8 * k) : pack bs (k + 1) = pack bs k ++ [0] := by
  unfold pack
  rw [List.range_succ, List.map_append, List.map_singleton, byteAt_past h]
theorem pack_more {bs : List Bool} {b : Bool} {k : Nat} (h : bs.length / 8 < k) :
    pack (bs ++ [b]) k = (pack bs k).set (bs.length / 8) ((pack bs k).getD (bs.length / 8) 0 ||| UInt8.ofNat (b2n b * 2 ^ (7 - bs.length % 8))) := by
  apply List.ext_getElem?
  intro j
  rcases Nat.lt_or_ge j k with hj | hj
  · rw [pack_at hj, List.getElem?_set]
    by_cases e : bs.length / 8 = j
    · rw [if_pos e, if_pos (by rw [pack_length]; omega), List.getD_eq_getElem?_getD, pack_at h, ← e, byteAt_more]
      rfl
    · rw [if_neg e, pack_at hj, byteAt_same (fun h => e h.symm)]
  · rw [List.getElem?_eq_none (by simp [pack_length, hj]), List.getElem?_eq_none (by simp [pack_length, hj])]
/-- The bits of bytes. -/
def bitAt (xs : List UInt8) (i : Nat) : Bool := (xs.getD (i / 8) 0).toBitVec.getLsbD (7 - i % 8)
/-- The w lowest bits of v, the highest first. -/
def bitsOf (w v : Nat) : List Bool := (List.range w).map fun i => v.testBit (w - 1 - i)
theorem bitsOf_length (w v : Nat) : (bitsOf w v).length = w := by simp [bitsOf]
theorem bitsOf_at {w v i : Nat} (h : i < w) : (bitsOf w v)[i]? = some (v.testBit (w - 1 - i)) := by simp [bitsOf, h]
theorem testBit_b2n (v j : Nat) : v / 2 ^ j % 2 = b2n (v.testBit j) := by
  rw [Nat.testBit_eq_decide_div_mod_eq]
  have := Nat.mod_lt (v / 2 ^ j) (show 0 < 2 by decide)
  unfold b2n
  by_cases h : v / 2 ^ j % 2 = 1
  · simp [h]
  · simp [h]; omega
theorem bit_shlN (b : Bool) {r : Nat} (hr : r < 8) : IntKind.u8.wrap ((b2n b : Int) * 2 ^ min (((7 - r : Nat) : Int)).toNat IntKind.u8.bits) = ((UInt8.ofNat (b2n b * 2 ^ (7 - r))).toNat : Int) := by
  have key : ∀ b : Bool, ∀ r : Fin 8, IntKind.u8.wrap ((b2n b : Int) * 2 ^ min (((7 - r.val : Nat) : Int)).toNat IntKind.u8.bits) = ((UInt8.ofNat (b2n b * 2 ^ (7 - r.val))).toNat : Int) := by decide +kernel
  exact key b ⟨r, hr⟩
theorem rbitN (c : UInt8) {r : Nat} (hr : r < 8) : IntKind.u8.wrap ((BitVec.ofInt IntKind.u8.bits ((c.toNat : Int) / 2 ^ min (((7 - r : Nat) : Int)).toNat IntKind.u8.bits) &&& BitVec.ofInt IntKind.u8.bits 1).toNat : Int) = (b2n (c.toBitVec.getLsbD (7 - r)) : Int) := by
  have key : ∀ c : Fin 256, ∀ r : Fin 8, IntKind.u8.wrap ((BitVec.ofInt IntKind.u8.bits (((UInt8.ofNat c.val).toNat : Int) / 2 ^ min (((7 - r.val : Nat) : Int)).toNat IntKind.u8.bits) &&& BitVec.ofInt IntKind.u8.bits 1).toNat : Int) = (b2n ((UInt8.ofNat c.val).toBitVec.getLsbD (7 - r.val)) : Int) := by decide +kernel
  have h := key ⟨c.toNat, c.toNat_lt⟩ ⟨r, hr⟩
  simpa using h
/-- The number in k bits from a place on. -/
def numAt (xs : List UInt8) (at_ : Nat) : Nat → Nat
  | 0 => 0
  | k + 1 => 2 * numAt xs at_ k + b2n (bitAt xs (at_ + k))
theorem b2n_le (b : Bool) : b2n b ≤ 1 := by cases b <;> decide
theorem numAt_lt (xs : List UInt8) (at_ k : Nat) : numAt xs at_ k < 2 ^ k := by
  induction k with
  | zero => simp [numAt]
  | succ k ih => have := b2n_le (bitAt xs (at_ + k)); simp only [numAt, Nat.pow_succ]; omega
theorem bits_take {w v q : Nat} (h : q < w) : (bitsOf w v).take (q + 1) = (bitsOf w v).take q ++ [v.testBit (w - 1 - q)] := by
  have hl : q < (bitsOf w v).length := by rw [bitsOf_length]; exact h
  rw [List.take_succ_eq_append_getElem hl]
  have := bitsOf_at (v := v) h
  rw [List.getElem?_eq_getElem hl] at this
  rw [Option.some.inj this]
end Go.Proofs.Yteopadjihklkmaa
end

section
namespace Go.Proofs.Yteopadjihklkmaa
open Go Go.Proofs
set_option maxRecDepth 100000
set_option maxHeartbeats 4000000
def rightF (w v : Int) : Bool := decide (1 ≤ w ∧ w ≤ 32 ∧ 0 ≤ v ∧ v / 2 ^ w.toNat = 0)
theorem s117 {w0 : World} {A : Asn} {w v : Int} : Spec Try.prog w0 117 [.agg #[.int .i64 w, .int .i64 v]] A (fun v' A' => v' = .bool (rightF w v) ∧ A' = A) := by
  refine Spec.of_run [(0, .agg #[.int .i64 w, .int .i64 v])] Try.func117 rfl (Nat.le_of_ble_eq_true rfl) (by repeat (first | exact trivial | refine ⟨rfl, ?_⟩)) ?_
  refine Run.seq ?_
  refine Run.region ?_
  refine RunL.box rfl rfl (fun bx1 => ?_)
  refine RunL.ok (OpOk.assign rfl) rfl ?_
  refine RunL.nil ?_
  refine Run.seq ?_
  refine Run.region ?_
  refine RunL.ok (OpOk.fieldAddr fld208_0 rfl) rfl ?_
  refine RunL.ok (OpOk.load rfl rfl rfl (Blk.out Blk.pts _ _ (by first | rfl | assumption))) rfl ?_
  refine RunL.ok (OpOk.geq rfl rfl) rfl ?_
  refine RunL.ok (OpOk.move rfl) rfl ?_
  refine RunL.splitD (t := 6) rfl (fun x2 => ?_) (fun x2 => ?_)
  · refine RunL.on rfl rfl ?_
    refine RunL.ok (OpOk.fieldAddr fld208_0 rfl) rfl ?_
    refine RunL.on rfl rfl ?_
    refine RunL.ok (OpOk.load rfl rfl rfl (Blk.out Blk.pts _ _ (by first | rfl | assumption))) rfl ?_
    refine RunL.on rfl rfl ?_
    refine RunL.ok (OpOk.leq rfl rfl) rfl ?_
    refine RunL.ok (OpOk.pickT rfl rfl) rfl ?_
    refine RunL.ok (OpOk.move rfl) rfl ?_
    refine RunL.splitD (t := 11) rfl (fun x3 => ?_) (fun x3 => ?_)
    · refine RunL.on rfl rfl ?_
      refine RunL.ok (OpOk.fieldAddr fld208_1 rfl) rfl ?_
      refine RunL.on rfl rfl ?_
      refine RunL.ok (OpOk.load rfl rfl rfl (Blk.out Blk.pts _ _ (by first | rfl | assumption))) rfl ?_
      refine RunL.on rfl rfl ?_
      refine RunL.ok (OpOk.geq rfl rfl) rfl ?_
      refine RunL.ok (OpOk.pickT rfl rfl) rfl ?_
      refine RunL.ok (OpOk.move rfl) rfl ?_
      refine RunL.splitD (t := 16) rfl (fun x4 => ?_) (fun x4 => ?_)
      · refine RunL.on rfl rfl ?_
        refine RunL.ok (OpOk.fieldAddr fld208_1 rfl) rfl ?_
        refine RunL.on rfl rfl ?_
        refine RunL.ok (OpOk.load rfl rfl rfl (Blk.out Blk.pts _ _ (by first | rfl | assumption))) rfl ?_
        refine RunL.on rfl rfl ?_
        refine RunL.ok (OpOk.fieldAddr fld208_0 rfl) rfl ?_
        refine RunL.on rfl rfl ?_
        refine RunL.ok (OpOk.load rfl rfl rfl (Blk.out Blk.pts _ _ (by first | rfl | assumption))) rfl ?_
        refine RunL.on rfl rfl ?_
        have e : min w.toNat IntKind.i64.bits = w.toNat := Nat.min_eq_left (by simp [IntKind.bits]; omega)
        refine RunL.ok (OpOk.shr rfl rfl (by omega) (by rw [e])) rfl ?_
        refine RunL.on rfl rfl ?_
        refine RunL.ok (OpOk.eql rfl rfl) rfl ?_
        refine RunL.ok (OpOk.pickT rfl rfl) rfl ?_
        refine RunL.ok (OpOk.assign rfl) rfl ?_
        refine RunL.nil ?_
        refine Run.keep (A) ((Grew.mul (Grew.refl _) _)) ?_
        refine Run.ret1 Try.func117 rfl rfl ?_
        refine ⟨?_, rfl⟩
        simp [rightF, *]
      refine RunL.off rfl rfl rfl rfl ?_
      refine RunL.off rfl rfl rfl rfl ?_
      refine RunL.off rfl rfl rfl rfl ?_
      refine RunL.off rfl rfl rfl rfl ?_
      refine RunL.off rfl rfl rfl rfl ?_
      refine RunL.off rfl rfl rfl rfl ?_
      refine RunL.ok (OpOk.pickF rfl rfl) rfl ?_
      refine RunL.ok (OpOk.assign rfl) rfl ?_
      refine RunL.nil ?_
      refine Run.keep (A) ((Grew.mul (Grew.refl _) _)) ?_
      refine Run.ret1 Try.func117 rfl rfl ?_
      refine ⟨?_, rfl⟩
      first | (simp [rightF]; omega) | simp [rightF, *]
    refine RunL.off rfl rfl rfl rfl ?_
    refine RunL.off rfl rfl rfl rfl ?_
    refine RunL.off rfl rfl rfl rfl ?_
    refine RunL.ok (OpOk.pickF rfl rfl) rfl ?_
    refine RunL.ok (OpOk.move rfl) rfl ?_
    refine RunL.off rfl rfl rfl rfl ?_
    refine RunL.off rfl rfl rfl rfl ?_
    refine RunL.off rfl rfl rfl rfl ?_
    refine RunL.off rfl rfl rfl rfl ?_
    refine RunL.off rfl rfl rfl rfl ?_
    refine RunL.off rfl rfl rfl rfl ?_
    refine RunL.ok (OpOk.pickF rfl rfl) rfl ?_
    refine RunL.ok (OpOk.assign rfl) rfl ?_
    refine RunL.nil ?_
    refine Run.keep (A) ((Grew.mul (Grew.refl _) _)) ?_
    refine Run.ret1 Try.func117 rfl rfl ?_
    refine ⟨?_, rfl⟩
    first | (simp [rightF]; omega) | simp [rightF, *]
  refine RunL.off rfl rfl rfl rfl ?_
  refine RunL.off rfl rfl rfl rfl ?_
  refine RunL.off rfl rfl rfl rfl ?_
  refine RunL.ok (OpOk.pickF rfl rfl) rfl ?_
  refine RunL.ok (OpOk.move rfl) rfl ?_
  refine RunL.off rfl rfl rfl rfl ?_
  refine RunL.off rfl rfl rfl rfl ?_
  refine RunL.off rfl rfl rfl rfl ?_
  refine RunL.ok (OpOk.pickF rfl rfl) rfl ?_
  refine RunL.ok (OpOk.move rfl) rfl ?_
  refine RunL.off rfl rfl rfl rfl ?_
  refine RunL.off rfl rfl rfl rfl ?_
  refine RunL.off rfl rfl rfl rfl ?_
  refine RunL.off rfl rfl rfl rfl ?_
  refine RunL.off rfl rfl rfl rfl ?_
  refine RunL.off rfl rfl rfl rfl ?_
  refine RunL.ok (OpOk.pickF rfl rfl) rfl ?_
  refine RunL.ok (OpOk.assign rfl) rfl ?_
  refine RunL.nil ?_
  refine Run.keep (A) ((Grew.mul (Grew.refl _) _)) ?_
  refine Run.ret1 Try.func117 rfl rfl ?_
  refine ⟨?_, rfl⟩
  first | (simp [rightF]; omega) | simp [rightF, *]
/-- A writer at p with these bits. -/
def Wtr (p : Nat) (v : Value) (bs : List Bool) : Asn := pts p (.cells #[v, .int .i64 (bs.length : Int)] 205 (0, 0)) * own 5 1 v ((bs.length + 7) / 8) (B (pack bs ((bs.length + 7) / 8)))
def encF (f : Int × Int) : List Value := [.int .i64 f.1, .int .i64 f.2]
instance : OneC encF := ⟨fun a u hu => by
  simp only [encF, List.mem_cons, List.not_mem_nil, or_false] at hu
  rcases hu with rfl | rfl <;> rfl⟩
/-- All the fields' bits. -/
def fieldBits (fs : List (Int × Int)) : List Bool := fs.flatMap fun f => bitsOf f.1.toNat f.2.toNat
def fitsF (f : Int × Int) : Bool := rightF f.1 f.2
theorem fieldBits_le {fs : List (Int × Int)} (h : fs.all fitsF = true) : (fieldBits fs).length ≤ 32 * fs.length := by
  induction fs with
  | nil => simp [fieldBits]
  | cons f r ih =>
    rw [List.all_cons, Bool.and_eq_true] at h
    have h1 := h.1
    simp only [fitsF, rightF, decide_eq_true_eq] at h1
    have := ih h.2
    simp only [fieldBits, List.flatMap_cons, List.length_append, bitsOf_length, List.length_cons] at *
    omega
theorem fits_lt {f : Int × Int} (h : fitsF f = true) : 1 ≤ f.1 ∧ f.1 ≤ 32 ∧ 0 ≤ f.2 ∧ f.2 < 4294967296 := by
  simp only [fitsF, rightF, decide_eq_true_eq] at h
  obtain ⟨a, b, c, d⟩ := h
  refine ⟨a, b, c, ?_⟩
  have hp : (2 : Int) ^ f.1.toNat ≤ 2 ^ 32 := by exact_mod_cast Nat.pow_le_pow_right (by decide) (show f.1.toNat ≤ 32 by omega)
  have hpos : (0 : Int) < 2 ^ f.1.toNat := Int.pow_pos (by decide)
  rcases Int.lt_or_le f.2 (2 ^ f.1.toNat) with h | h
  · omega
  · have h2 := Int.le_ediv_of_mul_le hpos (show 1 * 2 ^ f.1.toNat ≤ f.2 by omega)
    omega
theorem Wtr_more (p : Nat) (v : Value) (bs : List Bool) (b : Bool) (k : Nat) (hk : (bs.length + 1 + 7) / 8 = k) (n : Int) (hn : n = ((bs.length + 1 : Nat) : Int)) : Wtr p v (bs ++ [b]) = pts p (.cells #[v, .int .i64 n] 205 (0, 0)) * own 5 1 v k (B ((pack bs k).set (bs.length / 8) ((pack bs k).getD (bs.length / 8) 0 ||| UInt8.ofNat (b2n b * 2 ^ (7 - bs.length % 8))))) := by
  subst hk hn
  unfold Wtr
  rw [← pack_more (by omega)]
  simp
theorem put_w {w0 : World} {A : Asn} {p : Nat} {v u : Value} {bs : List Bool} {fs : List (Int × Int)} (rd : Rd w0 A u 2 fs.length (Fl encF fs)) (hlim : bs.length + 32 * fs.length ≤ 562949953421312) :
    Spec Try.prog w0 112 [.pointer (some ⟨p, 0, none⟩), u] (A * Wtr p v bs) (fun v' A' => ∃ e v2, v' = .int .i64 e ∧ A' = A * Wtr p v2 (if fs.all fitsF then bs ++ fieldBits fs else bs) ∧ e = if fs.all fitsF then 0 else 2) := by
  have hm := rd.max
  refine Spec.of_run [(0, .pointer (some ⟨p, 0, none⟩)), (1, u)] Try.func112 rfl (Nat.le_of_ble_eq_true rfl) (by repeat (first | exact trivial | refine ⟨rfl, ?_⟩)) ?_
  refine Run.seq ?_
  refine Run.region ?_
  refine RunL.ok (OpOk.assign rfl) rfl ?_
  refine RunL.nil ?_
  refine Run.seq ?_
  refine Run.seq ?_
  refine Run.region ?_
  refine RunL.ok (OpOk.move rfl) rfl ?_
  refine RunL.ok (OpOk.lenR rfl rfl rd.left rfl) rfl ?_
  refine RunL.ok (OpOk.move rfl) rfl ?_
  refine RunL.nil ?_
  refine Run.block ?_
  refine Run.loop (X := Nat) (fun i => [(0, .pointer (some ⟨p, 0, none⟩)), (1, u), (10, u), (11, .int .i64 (fs.length : Int)), (12, .int .i64 i)]) (fun _ => A * Wtr p v bs) (fun i => i ≤ fs.length ∧ (fs.take i).all fitsF = true) (fun i => fs.length - i) 0 ⟨rfl, rfl, rfl, rfl, rfl, trivial⟩ rfl ⟨by omega, by simp⟩ (fun i hi ih => ?_)
  obtain ⟨hi, hall⟩ := hi
  have hz : fs.all fitsF = ((fs.take i).all fitsF && (fs.drop i).all fitsF) := by rw [← List.all_append, List.take_append_drop]
  have ht := take_next (l := fs) (i := i)
  have hd : i < fs.length → fs.drop i = fs.getD i default :: fs.drop (i + 1) := fun h => by rw [List.getD_eq_getElem?_getD, List.getElem?_eq_getElem h]; exact List.drop_eq_getElem_cons h
  refine Run.seq ?_
  refine Run.region ?_
  refine RunL.ok (OpOk.lss rfl rfl) rfl ?_
  refine RunL.nil ?_
  refine Run.seq ?_
  refine Run.condD rfl (fun y1 => ?_) (fun y1 => ?_)
  · refine Run.skip ?_
    refine Run.seq ?_
    refine Run.block ?_
    refine Run.seq ?_
    refine Run.region ?_
    refine RunL.ok (OpOk.idxN rfl ti208 rfl rd.left rfl (by omega)) rfl ?_
    refine RunL.ok (OpOk.loadFl default rfl rfl ti208 rfl rd.left (fun _ => rfl) rfl (by omega)) rfl ?_
    refine RunL.alloc ti208 rfl (fun by2 => ?_)
    refine RunL.storeAll ti208 rfl rfl rfl (ones rfl) rfl rfl ?_
    refine RunL.nil ?_
    refine Run.seq ?_
    refine Run.region ?_
    refine RunL.ok (OpOk.loadS rfl rfl ti208 rfl Blk.pts rfl) rfl ?_
    refine RunL.call cal117 rfl (s117) rfl (fun vy3 Ay3 hy3 => ?_)
    obtain ⟨rfl, rfl⟩ := hy3
    refine RunL.ok (OpOk.not rfl) rfl ?_
    refine RunL.nil ?_
    refine Run.cond rfl (fun y4 => ?_) (fun y4 => ?_)
    · refine Run.seq ?_
      refine Run.region ?_
      refine RunL.ok (OpOk.assign rfl) rfl ?_
      refine RunL.nil ?_
      refine Run.keep (A * Wtr p v bs) ((Grew.mul (Grew.refl _) _)) ?_
      refine Run.ret1 Try.func112 rfl rfl ?_
      refine ⟨_, v, rfl, ?_, ?_⟩ <;> rw [hz, hd (by omega)] <;> simp [fitsF] <;> simp_all
    refine Run.skip ?_
    refine Run.inBlock ?_
    refine Run.region ?_
    refine RunL.ok (OpOk.addN _ 1 rfl rfl rfl rfl (by omega)) rfl ?_
    refine RunL.ok (OpOk.move rfl) rfl ?_
    refine RunL.nil ?_
    refine Run.jump ((ih (i + 1) ⟨by omega, by rw [ht (by omega), List.all_append, hall]; simp [fitsF]; simpa using y4⟩ (by omega))) ⟨rfl, rfl, rfl, rfl, rfl, trivial⟩ ((Grew.mul (Grew.refl _) _))
  refine Run.exit rfl ?_
  refine Run.seq ?_
  refine Run.seq ?_
  refine Run.region ?_
  refine RunL.ok (OpOk.move rfl) rfl ?_
  refine RunL.ok (OpOk.lenR rfl rfl rd.left rfl) rfl ?_
  refine RunL.ok (OpOk.move rfl) rfl ?_
  refine RunL.nil ?_
  refine Run.block ?_
  have hi2 : i = fs.length := by omega
  subst hi2
  rw [List.take_length] at hall
  clear ih hz ht hd
  rw [if_pos hall, if_pos hall]
  have rightAt : ∀ i, i < fs.length → fitsF (fs.getD i default) = true := fun i h => by
    rw [List.all_eq_true] at hall
    exact hall _ (List.mem_of_getElem? (getD_at h))
  refine Run.loop (X := Nat × Value) (fun x => [(0, .pointer (some ⟨p, 0, none⟩)), (20, u), (21, .int .i64 (fs.length : Int)), (22, .int .i64 x.1)]) (fun x => A * Wtr p x.2 (bs ++ fieldBits (fs.take x.1))) (fun x => x.1 ≤ fs.length) (fun x => fs.length - x.1) (0, v) ⟨rfl, rfl, rfl, rfl, trivial⟩ (by simp [fieldBits]) (by simp) (fun x hx ih => ?_)
  obtain ⟨i, v1⟩ := x
  simp only at hx ih ⊢
  rcases Nat.lt_or_ge i fs.length with hlt | hge
  · have ht := take_next hlt
    have hf := rightAt i hlt
    have hle := fieldBits_le (fs := fs.take i) (by rw [List.all_eq_true]; rw [List.all_eq_true] at hall; exact fun x hx => hall x (List.mem_of_mem_take hx))
    rw [List.length_take] at hle
    have hfb : bs ++ fieldBits (fs.take (i + 1)) = bs ++ fieldBits (fs.take i) ++ bitsOf (fs.getD i default).1.toNat (fs.getD i default).2.toNat := by rw [ht]; simp [fieldBits]
    have hn0 : (bs ++ fieldBits (fs.take i)).length ≤ bs.length + 32 * i := by rw [List.length_append]; omega
    have hf2 := fits_lt hf
    generalize bs ++ fieldBits (fs.take i) = b0 at *
    generalize hfe : fs.getD i default = f at *
    obtain ⟨f1, f2⟩ := f
    simp only at hf2 hfb
    obtain ⟨W, rfl⟩ := Int.eq_ofNat_of_zero_le (show 0 ≤ f1 by omega)
    obtain ⟨V, rfl⟩ := Int.eq_ofNat_of_zero_le hf2.2.2.1
    simp only [Int.toNat_natCast] at *
    refine Run.seq ?_
    refine Run.region ?_
    refine RunL.ok (OpOk.asT (OpOk.lss rfl rfl) (by omega)) rfl ?_
    refine RunL.nil ?_
    refine Run.seq ?_
    refine Run.condT rfl ?_
    refine Run.skip ?_
    refine Run.seq ?_
    refine Run.block ?_
    refine Run.seq ?_
    refine Run.region ?_
    refine RunL.ok (OpOk.idxN rfl ti208 rfl rd.left rfl (by omega)) rfl ?_
    refine RunL.ok (OpOk.loadFlE (by assumption) rfl rfl ti208 rfl rd.left (fun _ => rfl) rfl (by omega)) rfl ?_
    refine RunL.alloc ti208 rfl (fun bz1 => ?_)
    refine RunL.storeAll ti208 rfl rfl rfl (ones rfl) rfl rfl ?_
    refine RunL.nil ?_
    refine Run.seq ?_
    refine Run.region ?_
    refine RunL.ok (OpOk.fieldAddr fld208_0 rfl) rfl ?_
    refine RunL.ok (OpOk.load rfl rfl rfl (Blk.out Blk.pts _ _ (by first | rfl | assumption))) rfl ?_
    refine RunL.ok (OpOk.sub rfl rfl (wrapI (by omega) (by omega))) rfl ?_
    refine RunL.ok (OpOk.assign rfl) rfl ?_
    refine RunL.nil ?_
    refine Run.block ?_
    refine Run.loop (X := Nat × Value) (fun x => [(0, .pointer (some ⟨p, 0, none⟩)), (20, u), (21, .int .i64 (fs.length : Int)), (22, .int .i64 i), (8, .pointer (some ⟨bz1, 0, none⟩)), (9, .int .i64 ((W : Int) - 1 - x.1))]) (fun x => A * pts bz1 (.cells #[.int .i64 W, .int .i64 V] 208 (0, 0)) * Wtr p x.2 (b0 ++ (bitsOf W V).take x.1)) (fun x => x.1 ≤ W) (fun x => W - x.1) (0, v1) ⟨rfl, rfl, rfl, rfl, rfl, lkI rfl (by simp), trivial⟩ (by simp only [List.take_zero, List.append_nil]; exact sep_last _ _ _) (by simp) (fun x hx2 ih2 => ?_)
    obtain ⟨q, v2⟩ := x
    simp only at hx2 ih2 ⊢
    have htl : ((bitsOf W V).take q).length = q := by rw [List.length_take, bitsOf_length]; omega
    have hn : (b0 ++ (bitsOf W V).take q).length ≤ bs.length + 32 * i + 32 := by rw [List.length_append, htl]; omega
    rcases Nat.lt_or_ge q W with hqW | hqW
    · have hbt := bits_take (v := V) hqW
      have happ : b0 ++ (bitsOf W V).take (q + 1) = (b0 ++ (bitsOf W V).take q) ++ [V.testBit (W - 1 - q)] := by rw [hbt, List.append_assoc]
      generalize b0 ++ (bitsOf W V).take q = b1 at *
      refine Run.mem (A' := A * pts bz1 (.cells #[.int .i64 W, .int .i64 V] 208 (0, 0)) * own 5 1 v2 ((b1.length + 7) / 8) (B (pack b1 ((b1.length + 7) / 8))) * pts p (.cells #[v2, .int .i64 (b1.length : Int)] 205 (0, 0))) (by unfold Wtr; rw [← sep_assoc]; exact sep_last _ _ _) ?_
      have hV : V / 2 ^ (W - 1 - q) ≤ V := Nat.div_le_self _ _
      have hb2 := b2n_le (V.testBit (W - 1 - q))
      have hr8 : b1.length % 8 < 8 := Nat.mod_lt _ (by decide)
      have e10 : (W : Int) - 1 - q = ((W - 1 - q : Nat) : Int) := by omega
      simp only [e10]
      refine Run.seq ?_
      refine Run.seq ?_
      refine Run.region ?_
      refine RunL.ok (OpOk.move rfl) rfl ?_
      refine RunL.ok (OpOk.asT (OpOk.geq rfl rfl) (by omega)) rfl ?_
      refine RunL.nil ?_
      refine Run.condT rfl ?_
      refine Run.skip ?_
      refine Run.seq ?_
      refine Run.block ?_
      refine Run.seq ?_
      refine Run.seq ?_
      refine Run.region ?_
      refine RunL.ok (OpOk.move rfl) rfl ?_
      refine RunL.ok (OpOk.nilOk rfl) rfl ?_
      refine RunL.ok (OpOk.fieldAddr fld205_1 rfl) rfl ?_
      refine RunL.ok (OpOk.load rfl rfl rfl (Blk.out Blk.pts _ _ (by first | rfl | assumption))) rfl ?_
      refine RunL.ok (OpOk.remN _ 8 rfl rfl rfl rfl (by omega)) rfl ?_
      refine RunL.ok (OpOk.eql rfl rfl) rfl ?_
      refine RunL.nil ?_
      refine Run.condD rfl (fun t1 => ?_) (fun t1 => ?_)
      · refine Run.region ?_
        refine RunL.ok (OpOk.move rfl) rfl ?_
        refine RunL.ok (OpOk.move rfl) rfl ?_
        refine RunL.ok (OpOk.nilOk rfl) rfl ?_
        refine RunL.ok (OpOk.fieldAddr fld205_0 rfl) rfl ?_
        refine RunL.ok (OpOk.load rfl rfl rfl (Blk.out Blk.pts _ _ (by first | rfl | assumption))) rfl ?_
        refine RunL.litB (xs := [0]) rfl ti5 rfl rfl rfl (by decide) rfl (fun vt2 rdt2 => ?_)
        refine RunL.know (fun w s => (s.conv rfl).ownRd0) (fun rdt4 => ?_)
        refine RunL.appendB rfl ti5 rfl rfl rfl (frl (frl rfl)) (Rd.right rdt4) (by omega) rfl (fun vt3 rdt3 => ?_)
        refine RunL.ok (OpOk.nilOk rfl) rfl ?_
        refine RunL.ok (OpOk.fieldAddr fld205_0 rfl) rfl ?_
        refine RunL.know (fun w s => (s.conv rfl).ownRd0) (fun rdt5 => ?_)
        refine RunL.store ti63 rfl rfl (Rd.one rdt5) (frl (frl rfl)) (by exact Nat.le_of_ble_eq_true rfl) (.inl rfl) ?_
        refine RunL.nil ?_
        refine Run.seq ?_
        (apply Run.drawD [26] (by rfl) (sep_emp _).symm; case hchk => kernel_rfl)
        refine Sd.quiet 0 _ _ rfl rfl rfl rfl rfl (QOp.ok (fun X => OpOk.move rfl)) ?_
        refine Sd.quiet 1 _ _ rfl rfl rfl rfl rfl (QOp.ok (fun X => OpOk.nilOk rfl)) ?_
        refine Sd.quiet 2 _ _ rfl rfl rfl rfl rfl (QOp.ok (fun X => OpOk.fieldAddr fld205_0 rfl)) ?_
        refine Sd.quiet 3 _ _ rfl rfl rfl rfl rfl (QOp.ok (fun X => OpOk.load rfl rfl rfl (Blk.out Blk.pts.left.left _ _ (by first | rfl | assumption)))) ?_
        refine Sd.quiet 4 _ _ rfl rfl rfl rfl rfl (QOp.ok (fun X => OpOk.move rfl)) ?_
        refine Sd.quiet 5 _ _ rfl rfl rfl rfl rfl (QOp.ok (fun X => OpOk.nilOk rfl)) ?_
        refine Sd.quiet 6 _ _ rfl rfl rfl rfl rfl (QOp.ok (fun X => OpOk.fieldAddr fld205_1 rfl)) ?_
        refine Sd.quiet 7 _ _ rfl rfl rfl rfl rfl (QOp.ok (fun X => OpOk.load rfl rfl rfl (Blk.out Blk.pts.left.left _ _ (by first | rfl | assumption)))) ?_
        refine Sd.quiet 8 _ _ rfl rfl rfl rfl rfl (QOp.ok (fun X => OpOk.quoN _ 8 rfl rfl rfl rfl (by omega) (by omega))) ?_
        refine Sd.quiet 9 _ _ rfl rfl rfl rfl rfl (QOp.ok (fun X => OpOk.idx1N rfl ti5 rfl (Rd.right rdt5).left.left.left rfl (by omega))) ?_
        refine Sd.quiet 10 _ _ rfl rfl rfl rfl rfl (QOp.ok (fun X => OpOk.load rfl rfl rfl (Rd.getB (Rd.right rdt5).left.left.left (by omega)))) ?_
        refine Sd.quiet 11 _ _ rfl rfl rfl rfl rfl (QOp.ok (fun X => OpOk.fieldAddr fld208_1 rfl)) ?_
        refine Sd.quiet 12 _ _ rfl rfl rfl rfl rfl (QOp.ok (fun X => OpOk.load rfl rfl rfl (Blk.out Blk.pts.left.left.left.left.left _ _ (by first | rfl | assumption)))) ?_
        refine Sd.quiet 13 _ _ rfl rfl rfl rfl rfl (QOp.ok (fun X => OpOk.move rfl)) ?_
        refine Sd.quiet 14 _ _ rfl rfl rfl rfl rfl (QOp.ok (fun X => OpOk.shrN _ _ rfl rfl rfl rfl (by omega))) ?_
        refine Sd.quiet 15 _ _ rfl rfl rfl rfl rfl (QOp.ok (fun X => OpOk.and1N _ rfl rfl rfl (by omega))) ?_
        refine Sd.quiet 16 _ _ rfl rfl rfl rfl rfl (QOp.ok (fun X => OpOk.convInt rfl rfl rfl (wrapU8 (by omega) (by omega)))) ?_
        refine Sd.quiet 17 _ _ rfl rfl rfl rfl rfl (QOp.ok (fun X => OpOk.move rfl)) ?_
        refine Sd.quiet 18 _ _ rfl rfl rfl rfl rfl (QOp.ok (fun X => OpOk.nilOk rfl)) ?_
        refine Sd.quiet 19 _ _ rfl rfl rfl rfl rfl (QOp.ok (fun X => OpOk.fieldAddr fld205_1 rfl)) ?_
        refine Sd.quiet 20 _ _ rfl rfl rfl rfl rfl (QOp.ok (fun X => OpOk.load rfl rfl rfl (Blk.out Blk.pts.left.left _ _ (by first | rfl | assumption)))) ?_
        refine Sd.quiet 21 _ _ rfl rfl rfl rfl rfl (QOp.ok (fun X => OpOk.remN _ 8 rfl rfl rfl rfl (by omega))) ?_
        refine Sd.quiet 22 _ _ rfl rfl rfl rfl rfl (QOp.ok (fun X => OpOk.subN 7 _ rfl rfl rfl rfl (by omega) (by omega))) ?_
        refine Sd.quiet 25 _ _ rfl rfl rfl rfl rfl (QOp.ok (fun X => OpOk.idx1N rfl ti5 rfl (Rd.right rdt5).left.left.left rfl (by omega))) ?_
        rw [← pack_grow (by omega)] at rdt5 ⊢
        simp only [testBit_b2n]
        first | refine St.quiet 23 _ _ rfl rfl rfl rfl (QOp.ok (fun X => OpOk.shl rfl rfl (by omega) (bit_shlN _ (Nat.mod_lt _ (by decide))))) ?_ | refine Sd.quiet 23 _ _ rfl rfl rfl rfl rfl (QOp.ok (fun X => OpOk.shl rfl rfl (by omega) (bit_shlN _ (Nat.mod_lt _ (by decide))))) ?_
        refine Sd.quiet 24 _ _ rfl rfl rfl rfl rfl (QOp.ok (fun X => OpOk.or rfl rfl (x8_or _ _))) ?_
        (apply Sd.tail; case hall => kernel_rfl)
        refine RunL.mem (fl2 (sep_emp _) (sep_emp _)) ?_
        refine RunL.storeB _ ti5 rfl rfl rfl (frl rfl) (by omega) ?_
        refine RunL.nil ?_
        refine Run.region ?_
        refine RunL.ok (OpOk.move rfl) rfl ?_
        refine RunL.ok (OpOk.nilOk rfl) rfl ?_
        refine RunL.ok (OpOk.fieldAddr fld205_1 rfl) rfl ?_
        refine RunL.ok (OpOk.load rfl rfl rfl (Blk.out Blk.pts.left _ _ (by first | rfl | assumption))) rfl ?_
        refine RunL.ok (OpOk.addN _ 1 rfl rfl rfl rfl (by omega)) rfl ?_
        refine RunL.ok (OpOk.nilOk rfl) rfl ?_
        refine RunL.ok (OpOk.fieldAddr fld205_1 rfl) rfl ?_
        refine RunL.store ti3 rfl rfl rfl (frl rfl) (by exact Nat.le_of_ble_eq_true rfl) (.inl rfl) ?_
        refine RunL.nil ?_
        refine Run.inBlock ?_
        refine Run.region ?_
        refine RunL.ok (OpOk.move rfl) rfl ?_
        refine RunL.ok (OpOk.sub rfl rfl (wrapI (by omega) (by omega))) rfl ?_
        refine RunL.ok (OpOk.assign rfl) rfl ?_
        refine RunL.nil ?_
        refine Run.mem (A' := A * pts bz1 (.cells #[.int .i64 W, .int .i64 V] 208 (0, 0)) * Wtr p vt3 (b1 ++ [V.testBit (W - 1 - q)]) * own 5 1 vt2 1 (B [0])) ?_ ?_
        · rw [Wtr_more p vt3 b1 _ ((b1.length + 7) / 8 + 1) (by omega) _ rfl, ← sep_assoc]
          exact (frc (frl (frl rfl)) (frc (frl rfl) (frc rfl rfl)))
        rw [← happ]
        refine Run.jump ((ih2 (q + 1, vt3) (by simp; omega) (by simp; omega))) ⟨rfl, rfl, rfl, rfl, rfl, lkI rfl (by omega), trivial⟩ ((Grew.mul (Grew.refl _) _))
      refine Run.skip ?_
      refine Run.seq ?_
      refine Run.know (fun w s => (s.conv (frl rfl)).ownRd0) (fun rdt6 => ?_)
      (apply Run.drawD [26] (by rfl) (sep_emp _).symm; case hchk => kernel_rfl)
      refine Sd.quiet 0 _ _ rfl rfl rfl rfl rfl (QOp.ok (fun X => OpOk.move rfl)) ?_
      refine Sd.quiet 1 _ _ rfl rfl rfl rfl rfl (QOp.ok (fun X => OpOk.nilOk rfl)) ?_
      refine Sd.quiet 2 _ _ rfl rfl rfl rfl rfl (QOp.ok (fun X => OpOk.fieldAddr fld205_0 rfl)) ?_
      refine Sd.quiet 3 _ _ rfl rfl rfl rfl rfl (QOp.ok (fun X => OpOk.load rfl rfl rfl (Blk.out Blk.pts.left.left _ _ (by first | rfl | assumption)))) ?_
      refine Sd.quiet 4 _ _ rfl rfl rfl rfl rfl (QOp.ok (fun X => OpOk.move rfl)) ?_
      refine Sd.quiet 5 _ _ rfl rfl rfl rfl rfl (QOp.ok (fun X => OpOk.nilOk rfl)) ?_
      refine Sd.quiet 6 _ _ rfl rfl rfl rfl rfl (QOp.ok (fun X => OpOk.fieldAddr fld205_1 rfl)) ?_
      refine Sd.quiet 7 _ _ rfl rfl rfl rfl rfl (QOp.ok (fun X => OpOk.load rfl rfl rfl (Blk.out Blk.pts.left.left _ _ (by first | rfl | assumption)))) ?_
      refine Sd.quiet 8 _ _ rfl rfl rfl rfl rfl (QOp.ok (fun X => OpOk.quoN _ 8 rfl rfl rfl rfl (by omega) (by omega))) ?_
      refine Sd.quiet 9 _ _ rfl rfl rfl rfl rfl (QOp.ok (fun X => OpOk.idx1N rfl ti5 rfl (Rd.right rdt6).left.left.left rfl (by omega))) ?_
      refine Sd.quiet 10 _ _ rfl rfl rfl rfl rfl (QOp.ok (fun X => OpOk.load rfl rfl rfl (Rd.getB (Rd.right rdt6).left.left.left (by omega)))) ?_
      refine Sd.quiet 11 _ _ rfl rfl rfl rfl rfl (QOp.ok (fun X => OpOk.fieldAddr fld208_1 rfl)) ?_
      refine Sd.quiet 12 _ _ rfl rfl rfl rfl rfl (QOp.ok (fun X => OpOk.load rfl rfl rfl (Blk.out Blk.pts.left.left.left.left _ _ (by first | rfl | assumption)))) ?_
      refine Sd.quiet 13 _ _ rfl rfl rfl rfl rfl (QOp.ok (fun X => OpOk.move rfl)) ?_
      refine Sd.quiet 14 _ _ rfl rfl rfl rfl rfl (QOp.ok (fun X => OpOk.shrN _ _ rfl rfl rfl rfl (by omega))) ?_
      refine Sd.quiet 15 _ _ rfl rfl rfl rfl rfl (QOp.ok (fun X => OpOk.and1N _ rfl rfl rfl (by omega))) ?_
      refine Sd.quiet 16 _ _ rfl rfl rfl rfl rfl (QOp.ok (fun X => OpOk.convInt rfl rfl rfl (wrapU8 (by omega) (by omega)))) ?_
      refine Sd.quiet 17 _ _ rfl rfl rfl rfl rfl (QOp.ok (fun X => OpOk.move rfl)) ?_
      refine Sd.quiet 18 _ _ rfl rfl rfl rfl rfl (QOp.ok (fun X => OpOk.nilOk rfl)) ?_
      refine Sd.quiet 19 _ _ rfl rfl rfl rfl rfl (QOp.ok (fun X => OpOk.fieldAddr fld205_1 rfl)) ?_
      refine Sd.quiet 20 _ _ rfl rfl rfl rfl rfl (QOp.ok (fun X => OpOk.load rfl rfl rfl (Blk.out Blk.pts.left.left _ _ (by first | rfl | assumption)))) ?_
      refine Sd.quiet 21 _ _ rfl rfl rfl rfl rfl (QOp.ok (fun X => OpOk.remN _ 8 rfl rfl rfl rfl (by omega))) ?_
      refine Sd.quiet 22 _ _ rfl rfl rfl rfl rfl (QOp.ok (fun X => OpOk.subN 7 _ rfl rfl rfl rfl (by omega) (by omega))) ?_
      refine Sd.quiet 25 _ _ rfl rfl rfl rfl rfl (QOp.ok (fun X => OpOk.idx1N rfl ti5 rfl (Rd.right rdt6).left.left.left rfl (by omega))) ?_
      simp only [testBit_b2n]
      first | refine St.quiet 23 _ _ rfl rfl rfl rfl (QOp.ok (fun X => OpOk.shl rfl rfl (by omega) (bit_shlN _ (Nat.mod_lt _ (by decide))))) ?_ | refine Sd.quiet 23 _ _ rfl rfl rfl rfl rfl (QOp.ok (fun X => OpOk.shl rfl rfl (by omega) (bit_shlN _ (Nat.mod_lt _ (by decide))))) ?_
      refine Sd.quiet 24 _ _ rfl rfl rfl rfl rfl (QOp.ok (fun X => OpOk.or rfl rfl (x8_or _ _))) ?_
      (apply Sd.tail; case hall => kernel_rfl)
      refine RunL.mem (fl2 (sep_emp _) (sep_emp _)) ?_
      refine RunL.storeB _ ti5 rfl rfl rfl (frl rfl) (by omega) ?_
      refine RunL.nil ?_
      refine Run.region ?_
      refine RunL.ok (OpOk.move rfl) rfl ?_
      refine RunL.ok (OpOk.nilOk rfl) rfl ?_
      refine RunL.ok (OpOk.fieldAddr fld205_1 rfl) rfl ?_
      refine RunL.ok (OpOk.load rfl rfl rfl (Blk.out Blk.pts.left _ _ (by first | rfl | assumption))) rfl ?_
      refine RunL.ok (OpOk.addN _ 1 rfl rfl rfl rfl (by omega)) rfl ?_
      refine RunL.ok (OpOk.nilOk rfl) rfl ?_
      refine RunL.ok (OpOk.fieldAddr fld205_1 rfl) rfl ?_
      refine RunL.store ti3 rfl rfl rfl (frl rfl) (by exact Nat.le_of_ble_eq_true rfl) (.inl rfl) ?_
      refine RunL.nil ?_
      refine Run.inBlock ?_
      refine Run.region ?_
      refine RunL.ok (OpOk.move rfl) rfl ?_
      refine RunL.ok (OpOk.sub rfl rfl (wrapI (by omega) (by omega))) rfl ?_
      refine RunL.ok (OpOk.assign rfl) rfl ?_
      refine RunL.nil ?_
      refine Run.mem (A' := A * pts bz1 (.cells #[.int .i64 W, .int .i64 V] 208 (0, 0)) * Wtr p v2 (b1 ++ [V.testBit (W - 1 - q)])) ?_ ?_
      · rw [Wtr_more p v2 b1 _ ((b1.length + 7) / 8) (by omega) _ rfl, ← sep_assoc]
        exact (frc (frl rfl) (frc rfl rfl))
      rw [← happ]
      refine Run.jump ((ih2 (q + 1, v2) (by simp; omega) (by simp; omega))) ⟨rfl, rfl, rfl, rfl, rfl, lkI rfl (by omega), trivial⟩ ((Grew.refl _))
    · obtain rfl : q = W := by omega
      rw [List.take_of_length_le (by rw [bitsOf_length]; exact Nat.le_refl _)]
      refine Run.seq ?_
      refine Run.seq ?_
      refine Run.region ?_
      refine RunL.ok (OpOk.move rfl) rfl ?_
      refine RunL.ok (OpOk.asF (OpOk.geq rfl rfl) (by omega)) rfl ?_
      refine RunL.nil ?_
      refine Run.condF rfl ?_
      refine Run.exit rfl ?_
      refine Run.inBlock ?_
      refine Run.region ?_
      refine RunL.ok (OpOk.addN _ 1 rfl rfl rfl rfl (by omega)) rfl ?_
      refine RunL.ok (OpOk.move rfl) rfl ?_
      refine RunL.nil ?_
      rw [← hfb]
      refine Run.jump ((ih (i + 1, v2) (by simp; omega) (by simp; omega))) ⟨rfl, rfl, rfl, rfl, trivial⟩ (Grew.of (frc (frl rfl) rfl) (Grew.mul (Grew.refl _) _))
  · obtain rfl : i = fs.length := by omega
    rw [List.take_length]
    refine Run.seq ?_
    refine Run.region ?_
    refine RunL.ok (OpOk.asF (OpOk.lss rfl rfl) (by omega)) rfl ?_
    refine RunL.nil ?_
    refine Run.seq ?_
    refine Run.condF rfl ?_
    refine Run.exit rfl ?_
    refine Run.seq ?_
    refine Run.region ?_
    refine RunL.ok (OpOk.assign rfl) rfl ?_
    refine RunL.nil ?_
    refine Run.ret1 Try.func112 rfl rfl ?_
    exact ⟨_, _, rfl, rfl, rfl⟩
end Go.Proofs.Yteopadjihklkmaa
end

section
namespace Go.Proofs.Yteopadjihklkmaa
open Go Go.Proofs
set_option maxRecDepth 100000
set_option maxHeartbeats 4000000
theorem newT205 (A : Asn) (p : Nat) : Ent (A * pts p (.cells (Value.agg #[.slice none 0 0, .int .i64 0]).cells 205 (0, 0))) (A * pts p (.cells #[(.slice none 0 0), .int .i64 ((((List.nil : List Bool)).length : Nat) : Int)] 205 (0, 0)) * own 5 1 (.slice none 0 0) ((((List.nil : List Bool)).length + 7) / 8) (B (pack ((List.nil : List Bool)) ((((List.nil : List Bool)).length + 7) / 8)))) := Ent.ownNil' _ _ _ _ rfl
theorem s112 {w0 : World} {A : Asn} {p : Nat} {v u : Value} {bs : List Bool} {m : Nat} {fs : List (Int × Int)} (rd : Rd w0 A u 2 m (Fl encF fs)) (hlim : bs.length + 32 * m ≤ 562949953421312) :
    Spec Try.prog w0 112 [.pointer (some ⟨p, 0, none⟩), u] (A * pts p (.cells #[v, .int .i64 (((bs).length : Nat) : Int)] 205 (0, 0)) * own 5 1 v (((bs).length + 7) / 8) (B (pack (bs) (((bs).length + 7) / 8)))) (fun v' A' => ∃ e v2, v' = .int .i64 e ∧ A' = A * pts p (.cells #[v2, .int .i64 (((if fs.all fitsF then bs ++ fieldBits fs else bs).length : Nat) : Int)] 205 (0, 0)) * own 5 1 v2 (((if fs.all fitsF then bs ++ fieldBits fs else bs).length + 7) / 8) (B (pack (if fs.all fitsF then bs ++ fieldBits fs else bs) (((if fs.all fitsF then bs ++ fieldBits fs else bs).length + 7) / 8))) ∧ e = if fs.all fitsF then 0 else 2) := by
  have hl := rd.lenFl (fun _ => rfl) (by decide)
  subst hl
  refine Spec.mem (sep_assoc _ _ _) ((put_w rd hlim).mono fun v' A' h => ?_)
  obtain ⟨e, v2, h1, h2, h3⟩ := h
  exact ⟨e, v2, h1, h2.trans (sep_assoc _ _ _).symm, h3⟩
theorem s112a {w0 : World} {A : Asn} {p : Nat} {v u : Value} {bs : List Bool} {m : Nat} {fs : List (Int × Int)} (rd : Rd w0 A u 2 m (Fl encF fs)) (hok : fs.all fitsF = true) (hlim : bs.length + 32 * m ≤ 562949953421312) :
    Spec Try.prog w0 112 [.pointer (some ⟨p, 0, none⟩), u] (A * pts p (.cells #[v, .int .i64 (((bs).length : Nat) : Int)] 205 (0, 0)) * own 5 1 v (((bs).length + 7) / 8) (B (pack (bs) (((bs).length + 7) / 8)))) (fun v' A' => ∃ v2, v' = .int .i64 0 ∧ A' = A * pts p (.cells #[v2, .int .i64 (((bs ++ fieldBits fs).length : Nat) : Int)] 205 (0, 0)) * own 5 1 v2 (((bs ++ fieldBits fs).length + 7) / 8) (B (pack (bs ++ fieldBits fs) (((bs ++ fieldBits fs).length + 7) / 8)))) :=
  (s112 rd hlim).mono fun v' A' h => by
    obtain ⟨e, v2, h1, h2, h3⟩ := h
    simp only [hok, if_true] at h2 h3
    exact ⟨v2, h3 ▸ h1, h2⟩
theorem s113 {w0 : World} {A : Asn} {p : Nat} {v : Value} {bs : List Bool} (hlim : bs.length ≤ 562949953421312) :
    Spec Try.prog w0 113 [.pointer (some ⟨p, 0, none⟩)] (A * pts p (.cells #[v, .int .i64 (((bs).length : Nat) : Int)] 205 (0, 0)) * own 5 1 v (((bs).length + 7) / 8) (B (pack (bs) (((bs).length + 7) / 8)))) (fun v' A' => A' = A * pts p (.cells #[v, .int .i64 (((bs).length : Nat) : Int)] 205 (0, 0)) * own 5 1 v (((bs).length + 7) / 8) (B (pack (bs) (((bs).length + 7) / 8))) * own 5 1 v' ((bs.length + 7) / 8) (B (pack bs ((bs.length + 7) / 8)))) := by
  refine Spec.of_run [(0, .pointer (some ⟨p, 0, none⟩))] Try.func113 rfl (Nat.le_of_ble_eq_true rfl) (by repeat (first | exact trivial | refine ⟨rfl, ?_⟩)) ?_
  refine Run.seq ?_
  refine Run.region ?_
  refine RunL.ok (OpOk.assign rfl) rfl ?_
  refine RunL.nil ?_
  refine Run.seq ?_
  refine Run.region ?_
  refine RunL.ok (OpOk.move rfl) rfl ?_
  refine RunL.ok (OpOk.nilOk rfl) rfl ?_
  refine RunL.ok (OpOk.fieldAddr fld205_0 rfl) rfl ?_
  refine RunL.ok (OpOk.load rfl rfl rfl (Blk.out Blk.pts.left _ _ (by first | rfl | assumption))) rfl ?_
  refine RunL.know (fun w s => (s.conv rfl).ownRd0) (fun rdx1 => ?_)
  refine RunL.call cal77 rfl (s77 (Rd.right rdx1) (by omega)) rfl (fun vx2 Ax2 hx2 => ?_)
  obtain rfl := hx2
  refine RunL.ok (OpOk.assign rfl) rfl ?_
  refine RunL.nil ?_
  refine Run.ret1 Try.func113 rfl rfl ?_
  exact rfl
theorem s84 {w0 : World} {A : Asn} {u : Value} {m : Nat} {xs : List UInt8} (rd : Rd w0 A u 1 m (B xs)) (hlim : m ≤ 140737488355328) :
    Spec Try.prog w0 84 [u] A (fun v' A' => ∃ q v, v' = .pointer (some ⟨q, 0, none⟩) ∧ A' = A * pts q (.cells #[v, .int .i64 ((0 : Nat) : Int), .int .i64 (0)] 203 (0, 0)) * own 5 1 v (xs).length (B (xs))) := by
  have hl := rd.lenB
  subst hl
  refine Spec.of_run [(0, u)] Try.func84 rfl (Nat.le_of_ble_eq_true rfl) (by repeat (first | exact trivial | refine ⟨rfl, ?_⟩)) ?_
  refine Run.seq ?_
  refine Run.region ?_
  refine RunL.ok (OpOk.assign rfl) rfl ?_
  refine RunL.nil ?_
  refine Run.seq ?_
  refine Run.region ?_
  refine RunL.ok (OpOk.move rfl) rfl ?_
  refine RunL.call cal77 rfl (s77 rd (by assumption)) rfl (fun vx1 Ax1 hx1 => ?_)
  obtain rfl := hx1
  refine RunL.know (fun w s => (s.conv rfl).ownRd0) (fun rdx2 => ?_)
  obtain ⟨adx3, capx3, rfl, hcapx3, hadx3⟩ := (rdx2).form
  refine RunL.ok (OpOk.build (cells := #[.slice (adx3) (xs.length) (capx3), .int (IntKind.i64) (0), .int (IntKind.i64) (0)]) rfl (fun w => run_build w 203 _ _ (by rfl))) rfl ?_
  refine RunL.box rfl rfl (fun bx4 => ?_)
  refine RunL.ok (OpOk.assign rfl) rfl ?_
  refine RunL.nil ?_
  refine Run.ret1 Try.func84 rfl rfl ?_
  exact ⟨_, _, rfl, (frc (frl rfl) (frc rfl rfl))⟩
theorem s111 {w0 : World} {A : Asn} {q : Nat} {v : Value} {xs : List UInt8} {at_ : Nat} {e : Int} (hlim : xs.length ≤ 140737488355328) (ha : at_ ≤ 8 * xs.length) :
    Spec Try.prog w0 111 [.pointer (some ⟨q, 0, none⟩)] (A * pts q (.cells #[v, .int .i64 ((at_ : Nat) : Int), .int .i64 (e)] 203 (0, 0)) * own 5 1 v (xs).length (B (xs))) (fun v' A' => v' = .int .i64 ((8 * xs.length - at_ : Nat) : Int) ∧ A' = A * pts q (.cells #[v, .int .i64 ((at_ : Nat) : Int), .int .i64 (e)] 203 (0, 0)) * own 5 1 v (xs).length (B (xs))) := by
  refine Spec.of_run [(0, .pointer (some ⟨q, 0, none⟩))] Try.func111 rfl (Nat.le_of_ble_eq_true rfl) (by repeat (first | exact trivial | refine ⟨rfl, ?_⟩)) ?_
  refine Run.seq ?_
  refine Run.region ?_
  refine RunL.ok (OpOk.assign rfl) rfl ?_
  refine RunL.nil ?_
  refine Run.seq ?_
  refine Run.know (fun w s => (s.conv rfl).ownRd0) (fun rdx1 => ?_)
  refine Run.drop [2] ?_
  (apply Run.drawD [] (by rfl) (sep_emp _).symm; case hchk => kernel_rfl)
  refine Sd.quiet 0 _ _ rfl rfl rfl rfl rfl (QOp.ok (fun X => OpOk.move rfl)) ?_
  refine Sd.quiet 1 _ _ rfl rfl rfl rfl rfl (QOp.ok (fun X => OpOk.nilOk rfl)) ?_
  refine Sd.quiet 2 _ _ rfl rfl rfl rfl rfl (QOp.ok (fun X => OpOk.fieldAddr fld203_0 rfl)) ?_
  refine Sd.quiet 3 _ _ rfl rfl rfl rfl rfl (QOp.ok (fun X => OpOk.load rfl rfl rfl (Blk.out Blk.pts.left.left.left _ _ (by first | rfl | assumption)))) ?_
  refine Sd.quiet 4 _ _ rfl rfl rfl rfl rfl (QOp.ok (fun X => OpOk.lenR rfl rfl (Rd.right rdx1).left.left rfl)) ?_
  refine Sd.quiet 5 _ _ rfl rfl rfl rfl rfl (QOp.ok (fun X => OpOk.mulN 8 _ rfl rfl rfl rfl (by omega))) ?_
  refine Sd.quiet 6 _ _ rfl rfl rfl rfl rfl (QOp.ok (fun X => OpOk.move rfl)) ?_
  refine Sd.quiet 7 _ _ rfl rfl rfl rfl rfl (QOp.ok (fun X => OpOk.nilOk rfl)) ?_
  refine Sd.quiet 8 _ _ rfl rfl rfl rfl rfl (QOp.ok (fun X => OpOk.fieldAddr fld203_1 rfl)) ?_
  refine Sd.quiet 9 _ _ rfl rfl rfl rfl rfl (QOp.ok (fun X => OpOk.load rfl rfl rfl (Blk.out Blk.pts.left.left.left _ _ (by first | rfl | assumption)))) ?_
  refine Sd.quiet 10 _ _ rfl rfl rfl rfl rfl (QOp.ok (fun X => OpOk.subN _ _ rfl rfl rfl rfl (by omega) (by omega))) ?_
  refine Sd.quiet 11 _ _ rfl rfl rfl rfl rfl (QOp.ok (fun X => OpOk.assign rfl)) ?_
  (apply Sd.tail; case hall => kernel_rfl)
  refine RunL.mem (fl2 (sep_emp _) (sep_emp _)) ?_
  refine RunL.nil ?_
  refine Run.ret1 Try.func111 rfl rfl ?_
  exact ⟨rfl, rfl⟩
def badW (w : Int) : Bool := decide (w < 1 ∨ 32 < w)
/-- The numbers of these widths from a place on. -/
def nums (xs : List UInt8) : Nat → List Int → List Int
  | _, [] => []
  | a, w :: r => ((numAt xs a w.toNat : Nat) : Int) :: nums xs (a + w.toNat) r
def widthsN (ws : List Int) : Nat := (ws.map Int.toNat).sum
/-- What Take leaves and answers. -/
def takeE (xs : List UInt8) (a : Nat) (e : Int) (ws : List Int) : Int := if e = 0 then (if ws.any badW then 2 else if 8 * xs.length - a < widthsN ws then 10 else 0) else e
def takeL (xs : List UInt8) (a : Nat) (e : Int) (ws : List Int) : List Int := if takeE xs a e ws = 0 then nums xs a ws else []
def takeA (xs : List UInt8) (a : Nat) (e : Int) (ws : List Int) : Nat := if takeE xs a e ws = 0 then a + widthsN ws else a
theorem nums_length (xs : List UInt8) (a : Nat) (ws : List Int) : (nums xs a ws).length = ws.length := by
  induction ws generalizing a with
  | nil => rfl
  | cons w r ih => simp [nums, ih]
theorem widthsN_append (a b : List Int) : widthsN (a ++ b) = widthsN a + widthsN b := by simp [widthsN]
theorem nums_append (xs : List UInt8) (a : Nat) (u w : List Int) : nums xs a (u ++ w) = nums xs a u ++ nums xs (a + widthsN u) w := by
  induction u generalizing a with
  | nil => simp [nums, widthsN]
  | cons x r ih => simp [nums, ih, widthsN, Nat.add_assoc]
theorem any_take {α : Type} {p : α → Bool} {l : List α} (i : Nat) (h : l.any p = false) : (l.take i).any p = false := by
  rw [List.any_eq_false] at *
  exact fun x hx => h x (List.mem_of_mem_take hx)
theorem widthsN_le {ws : List Int} (h : ws.any badW = false) : widthsN ws ≤ 32 * ws.length := by
  induction ws with
  | nil => simp [widthsN]
  | cons w r ih =>
    rw [List.any_cons, Bool.or_eq_false_iff] at h
    have := ih h.2
    have h1 := h.1
    simp only [badW, decide_eq_false_iff_not] at h1
    simp only [widthsN, List.map_cons, List.sum_cons, List.length_cons] at *
    omega
theorem widthsN_take_le (ws : List Int) (i : Nat) : widthsN (ws.take i) ≤ widthsN ws := by
  have : widthsN ws = widthsN (ws.take i) + widthsN (ws.drop i) := by rw [← widthsN_append, List.take_append_drop]
  omega
theorem s85 {w0 : World} {A : Asn} {q : Nat} {v u : Value} {xs : List UInt8} {at_ m : Nat} {e : Int} {ws : List Int} (rd : Rd w0 A u 1 m (I ws)) (hlim : xs.length ≤ 140737488355328) (ha : at_ ≤ 8 * xs.length) (hws : m ≤ 17592186044416) :
    Spec Try.prog w0 85 [.pointer (some ⟨q, 0, none⟩), u] (A * pts q (.cells #[v, .int .i64 ((at_ : Nat) : Int), .int .i64 (e)] 203 (0, 0)) * own 5 1 v (xs).length (B (xs)))
      (fun v' A' => A' = A * pts q (.cells #[v, .int .i64 ((takeA xs at_ e ws : Nat) : Int), .int .i64 (takeE xs at_ e ws)] 203 (0, 0)) * own 5 1 v (xs).length (B (xs)) * own 3 1 v' (takeL xs at_ e ws).length (I (takeL xs at_ e ws))) := by
  have hl := rd.lenI
  subst hl
  refine Spec.of_run [(0, .pointer (some ⟨q, 0, none⟩)), (1, u)] Try.func85 rfl (Nat.le_of_ble_eq_true rfl) (by repeat (first | exact trivial | refine ⟨rfl, ?_⟩)) ?_
  refine Run.seq ?_
  refine Run.region ?_
  refine RunL.ok (OpOk.assign rfl) rfl ?_
  refine RunL.nil ?_
  refine Run.seq ?_
  refine Run.seq ?_
  refine Run.region ?_
  refine RunL.ok (OpOk.move rfl) rfl ?_
  refine RunL.ok (OpOk.nilOk rfl) rfl ?_
  refine RunL.ok (OpOk.fieldAddr fld203_2 rfl) rfl ?_
  refine RunL.ok (OpOk.load rfl rfl rfl (Blk.out Blk.pts.left _ _ (by first | rfl | assumption))) rfl ?_
  refine RunL.ok (OpOk.neq rfl rfl) rfl ?_
  refine RunL.nil ?_
  refine Run.condN rfl (fun x1 => ?_) (fun x1 => ?_)
  · refine Run.seq ?_
    refine Run.region ?_
    refine RunL.ok (OpOk.assign rfl) rfl ?_
    refine RunL.nil ?_
    refine Run.ent (Ent.ownNil' _ 3 1 (I []) rfl) ?_
    refine Run.ret1 Try.func85 rfl rfl ?_
    have h : takeE xs at_ e ws = e := by simp [takeE, x1]
    simp only [takeL, takeA, h, if_neg x1]
    rfl
  refine Run.skip ?_
  refine Run.seq ?_
  refine Run.region ?_
  refine RunL.ok (OpOk.assign rfl) rfl ?_
  refine RunL.nil ?_
  refine Run.seq ?_
  refine Run.seq ?_
  refine Run.region ?_
  refine RunL.ok (OpOk.move rfl) rfl ?_
  refine RunL.ok (OpOk.lenR rfl rfl rd.left.left rfl) rfl ?_
  refine RunL.ok (OpOk.move rfl) rfl ?_
  refine RunL.nil ?_
  refine Run.block ?_
  subst x1
  refine Run.loop (X := Nat) (fun i => [(0, .pointer (some ⟨q, 0, none⟩)), (1, u), (17, u), (18, .int .i64 (ws.length : Int)), (5, .int .i64 ((widthsN (ws.take i) : Nat) : Int)), (19, .int .i64 i)]) (fun _ => A * pts q (.cells #[v, .int .i64 (at_ : Int), .int .i64 0] 203 (0, 0)) * own 5 1 v xs.length (B xs)) (fun i => i ≤ ws.length ∧ (ws.take i).any badW = false) (fun i => ws.length - i) 0 ⟨rfl, rfl, rfl, rfl, rfl, rfl, trivial⟩ rfl ⟨by omega, by simp⟩ (fun i hi ih => ?_)
  obtain ⟨hi, hn⟩ := hi
  have hsum := widthsN_le hn
  rw [List.length_take] at hsum
  rcases Nat.lt_or_ge i ws.length with hlt | hge
  · have ht := take_next hlt
    have hz : ws.any badW = ((ws.take i).any badW || (ws.drop i).any badW) := by rw [← List.any_append, List.take_append_drop]
    rw [drop_next hlt, List.any_cons, hn, Bool.false_or] at hz
    have hw : widthsN (ws.take (i + 1)) = widthsN (ws.take i) + (ws.getD i default).toNat := by rw [ht, widthsN_append]; simp [widthsN]
    have hb : (ws.take (i + 1)).any badW = badW (ws.getD i default) := by rw [ht, List.any_append, hn]; simp
    generalize hx : ws.getD i default = x at *
    have hx' : ws.getD i 0 = x := hx
    rcases Decidable.em (x < 1 ∨ 32 < x) with hbad | hbad
    · have h1 : badW x = true := by simp [badW, hbad]
      rw [h1, Bool.true_or] at hz
      have hE : takeE xs at_ 0 ws = 2 := by simp [takeE, hz]
      rw [hE]
      simp only [takeL, takeA, hE, if_neg (show ¬ (2 : Int) = 0 by decide)]
      rcases Int.lt_or_le x 1 with hc | hc
      · refine Run.seq ?_
        refine Run.region ?_
        refine RunL.ok (OpOk.asT (OpOk.lss rfl rfl) (by omega)) rfl ?_
        refine RunL.nil ?_
        refine Run.seq ?_
        refine Run.condT rfl ?_
        refine Run.skip ?_
        refine Run.seq ?_
        refine Run.block ?_
        refine Run.seq ?_
        refine Run.region ?_
        refine RunL.ok (OpOk.idx1N rfl ti3 rfl rd.left.left rfl (by omega)) rfl ?_
        refine RunL.ok (OpOk.load rfl rfl rfl (Rd.getIE (by assumption) rd.left.left (by omega))) rfl ?_
        refine RunL.ok (OpOk.assign rfl) rfl ?_
        refine RunL.nil ?_
        refine Run.seq ?_
        refine Run.seq ?_
        refine Run.region ?_
        refine RunL.ok (OpOk.move rfl) rfl ?_
        refine RunL.ok (OpOk.asT (OpOk.lss rfl rfl) (by omega)) rfl ?_
        refine RunL.ok (OpOk.move rfl) rfl ?_
        refine RunL.off rfl rfl rfl rfl ?_
        refine RunL.off rfl rfl rfl rfl ?_
        refine RunL.ok (OpOk.pickT rfl rfl) rfl ?_
        refine RunL.nil ?_
        refine Run.condT rfl ?_
        refine Run.seq ?_
        refine Run.region ?_
        refine RunL.ok (OpOk.move rfl) rfl ?_
        refine RunL.ok (OpOk.nilOk rfl) rfl ?_
        refine RunL.ok (OpOk.fieldAddr fld203_2 rfl) rfl ?_
        refine RunL.store ti36 rfl rfl rfl (frl rfl) (by exact Nat.le_of_ble_eq_true rfl) (.inl rfl) ?_
        refine RunL.nil ?_
        refine Run.seq ?_
        refine Run.region ?_
        refine RunL.ok (OpOk.assign rfl) rfl ?_
        refine RunL.nil ?_
        refine Run.ent (Ent.ownNil' _ 3 1 (I []) rfl) ?_
        refine Run.ret1 Try.func85 rfl rfl ?_
        exact (frc rfl (frc (frl rfl) (frc rfl rfl)))
      · refine Run.seq ?_
        refine Run.region ?_
        refine RunL.ok (OpOk.asT (OpOk.lss rfl rfl) (by omega)) rfl ?_
        refine RunL.nil ?_
        refine Run.seq ?_
        refine Run.condT rfl ?_
        refine Run.skip ?_
        refine Run.seq ?_
        refine Run.block ?_
        refine Run.seq ?_
        refine Run.region ?_
        refine RunL.ok (OpOk.idx1N rfl ti3 rfl rd.left.left rfl (by omega)) rfl ?_
        refine RunL.ok (OpOk.load rfl rfl rfl (Rd.getIE (by assumption) rd.left.left (by omega))) rfl ?_
        refine RunL.ok (OpOk.assign rfl) rfl ?_
        refine RunL.nil ?_
        refine Run.seq ?_
        refine Run.seq ?_
        refine Run.region ?_
        refine RunL.ok (OpOk.move rfl) rfl ?_
        refine RunL.ok (OpOk.asF (OpOk.lss rfl rfl) (by omega)) rfl ?_
        refine RunL.ok (OpOk.move rfl) rfl ?_
        refine RunL.on rfl rfl ?_
        refine RunL.ok (OpOk.move rfl) rfl ?_
        refine RunL.on rfl rfl ?_
        refine RunL.ok (OpOk.asT (OpOk.gtr rfl rfl) (by omega)) rfl ?_
        refine RunL.ok (OpOk.pickF rfl rfl) rfl ?_
        refine RunL.nil ?_
        refine Run.condT rfl ?_
        refine Run.seq ?_
        refine Run.region ?_
        refine RunL.ok (OpOk.move rfl) rfl ?_
        refine RunL.ok (OpOk.nilOk rfl) rfl ?_
        refine RunL.ok (OpOk.fieldAddr fld203_2 rfl) rfl ?_
        refine RunL.store ti36 rfl rfl rfl (frl rfl) (by exact Nat.le_of_ble_eq_true rfl) (.inl rfl) ?_
        refine RunL.nil ?_
        refine Run.seq ?_
        refine Run.region ?_
        refine RunL.ok (OpOk.assign rfl) rfl ?_
        refine RunL.nil ?_
        refine Run.ent (Ent.ownNil' _ 3 1 (I []) rfl) ?_
        refine Run.ret1 Try.func85 rfl rfl ?_
        exact (frc rfl (frc (frl rfl) (frc rfl rfl)))
    · have h1 : badW x = false := by simp [badW, hbad]
      obtain ⟨x, rfl⟩ := Int.eq_ofNat_of_zero_le (show 0 ≤ x by omega)
      refine Run.seq ?_
      refine Run.region ?_
      refine RunL.ok (OpOk.asT (OpOk.lss rfl rfl) (by omega)) rfl ?_
      refine RunL.nil ?_
      refine Run.seq ?_
      refine Run.condT rfl ?_
      refine Run.skip ?_
      refine Run.seq ?_
      refine Run.block ?_
      refine Run.seq ?_
      refine Run.region ?_
      refine RunL.ok (OpOk.idx1N rfl ti3 rfl rd.left.left rfl (by omega)) rfl ?_
      refine RunL.ok (OpOk.load rfl rfl rfl (Rd.getIE (by assumption) rd.left.left (by omega))) rfl ?_
      refine RunL.ok (OpOk.assign rfl) rfl ?_
      refine RunL.nil ?_
      refine Run.seq ?_
      refine Run.seq ?_
      refine Run.region ?_
      refine RunL.ok (OpOk.move rfl) rfl ?_
      refine RunL.ok (OpOk.asF (OpOk.lss rfl rfl) (by omega)) rfl ?_
      refine RunL.ok (OpOk.move rfl) rfl ?_
      refine RunL.on rfl rfl ?_
      refine RunL.ok (OpOk.move rfl) rfl ?_
      refine RunL.on rfl rfl ?_
      refine RunL.ok (OpOk.asF (OpOk.gtr rfl rfl) (by omega)) rfl ?_
      refine RunL.ok (OpOk.pickF rfl rfl) rfl ?_
      refine RunL.nil ?_
      refine Run.condF rfl ?_
      refine Run.skip ?_
      refine Run.region ?_
      refine RunL.ok (OpOk.move rfl) rfl ?_
      refine RunL.ok (OpOk.move rfl) rfl ?_
      refine RunL.ok (OpOk.addN _ _ rfl rfl rfl rfl (by omega)) rfl ?_
      refine RunL.ok (OpOk.assign rfl) rfl ?_
      refine RunL.nil ?_
      refine Run.inBlock ?_
      refine Run.region ?_
      refine RunL.ok (OpOk.addN _ 1 rfl rfl rfl rfl (by omega)) rfl ?_
      refine RunL.ok (OpOk.move rfl) rfl ?_
      refine RunL.nil ?_
      refine Run.jump ((ih (i + 1) ⟨by omega, by rw [hb, h1]⟩ (by omega))) ⟨rfl, rfl, rfl, rfl, lkI rfl (by omega), rfl, trivial⟩ ((Grew.refl _))
  · obtain rfl : i = ws.length := by omega
    rw [List.take_length] at *
    clear ih
    refine Run.seq ?_
    refine Run.region ?_
    refine RunL.ok (OpOk.asF (OpOk.lss rfl rfl) (by omega)) rfl ?_
    refine RunL.nil ?_
    refine Run.seq ?_
    refine Run.condF rfl ?_
    refine Run.exit rfl ?_
    refine Run.seq ?_
    refine Run.seq ?_
    refine Run.region ?_
    refine RunL.ok (OpOk.move rfl) rfl ?_
    refine RunL.ok (OpOk.move rfl) rfl ?_
    refine RunL.call cal111 rfl (s111 (by assumption) (by assumption)) rfl (fun vy1 Ay1 hy1 => ?_)
    obtain ⟨rfl, rfl⟩ := hy1
    refine RunL.ok (OpOk.gtr rfl rfl) rfl ?_
    refine RunL.nil ?_
    refine Run.condD rfl (fun y2 => ?_) (fun y2 => ?_)
    · refine Run.seq ?_
      refine Run.region ?_
      refine RunL.ok (OpOk.move rfl) rfl ?_
      refine RunL.ok (OpOk.nilOk rfl) rfl ?_
      refine RunL.ok (OpOk.fieldAddr fld203_2 rfl) rfl ?_
      refine RunL.store ti36 rfl rfl rfl (frl rfl) (by exact Nat.le_of_ble_eq_true rfl) (.inl rfl) ?_
      refine RunL.nil ?_
      refine Run.seq ?_
      refine Run.region ?_
      refine RunL.ok (OpOk.assign rfl) rfl ?_
      refine RunL.nil ?_
      refine Run.ent (Ent.ownNil' _ 3 1 (I []) rfl) ?_
      refine Run.ret1 Try.func85 rfl rfl ?_
      have hE : takeE xs at_ 0 ws = 10 := by simp [takeE, hn]; omega
      simp only [takeL, takeA, hE, if_neg (show ¬ (10 : Int) = 0 by decide)]
      exact (frc rfl (frc (frl rfl) (frc rfl rfl)))
    refine Run.skip ?_
    refine Run.seq ?_
    refine Run.region ?_
    refine RunL.ok (OpOk.assign rfl) rfl ?_
    refine RunL.nil ?_
    refine Run.seq ?_
    refine Run.seq ?_
    refine Run.region ?_
    refine RunL.ok (OpOk.move rfl) rfl ?_
    refine RunL.ok (OpOk.lenR rfl rfl rd.left.left rfl) rfl ?_
    refine RunL.ok (OpOk.move rfl) rfl ?_
    refine RunL.nil ?_
    refine Run.block ?_
    have hE : takeE xs at_ 0 ws = 0 := by simp [takeE, hn]; omega
    simp only [takeL, takeA, hE, if_pos]
    have hfit : widthsN ws ≤ 8 * xs.length - at_ := by omega
    refine Run.ent (Ent.ownNil' _ 3 1 (I []) rfl) ?_
    refine Run.loop (X := Nat × Value) (fun x => [(0, .pointer (some ⟨q, 0, none⟩)), (8, x.2), (43, u), (44, .int .i64 (ws.length : Int)), (45, .int .i64 x.1)]) (fun x => A * pts q (.cells #[v, .int .i64 ((at_ + widthsN (ws.take x.1) : Nat) : Int), .int .i64 (0)] 203 (0, 0)) * own 5 1 v (xs).length (B (xs)) * own 3 1 x.2 x.1 (I (nums xs at_ (ws.take x.1)))) (fun x => x.1 ≤ ws.length) (fun x => ws.length - x.1) (0, .slice none 0 0) ⟨rfl, rfl, rfl, rfl, rfl, trivial⟩ rfl (by simp) (fun x hx ih => ?_)
    obtain ⟨i, u1⟩ := x
    simp only at hx ih ⊢
    rcases Nat.lt_or_ge i ws.length with hlt | hge
    · have ht := take_next hlt
      have hb := any_take (i + 1) hn
      rw [ht, List.any_append, Bool.or_eq_false_iff] at hb
      have hb2 := hb.2
      have hw : widthsN (ws.take (i + 1)) = widthsN (ws.take i) + (ws.getD i default).toNat := by rw [ht, widthsN_append]; simp [widthsN]
      have hle := widthsN_take_le ws (i + 1)
      have hnums : nums xs at_ (ws.take (i + 1)) = nums xs at_ (ws.take i) ++ [((numAt xs (at_ + widthsN (ws.take i)) (ws.getD i default).toNat : Nat) : Int)] := by rw [ht, nums_append]; rfl
      generalize hx1 : ws.getD i default = x at *
      have hx' : ws.getD i 0 = x := hx1
      simp [badW] at hb2
      obtain ⟨x, rfl⟩ := Int.eq_ofNat_of_zero_le (show 0 ≤ x by omega)
      simp only [Int.toNat_natCast] at *
      generalize ha1 : at_ + widthsN (ws.take i) = a at *
      refine Run.seq ?_
      refine Run.region ?_
      refine RunL.ok (OpOk.asT (OpOk.lss rfl rfl) (by omega)) rfl ?_
      refine RunL.nil ?_
      refine Run.seq ?_
      refine Run.condT rfl ?_
      refine Run.skip ?_
      refine Run.seq ?_
      refine Run.block ?_
      refine Run.seq ?_
      refine Run.region ?_
      refine RunL.ok (OpOk.idx1N rfl ti3 rfl rd.left.left.left rfl (by omega)) rfl ?_
      refine RunL.ok (OpOk.load rfl rfl rfl (Rd.getIE (by assumption) rd.left.left.left (by omega))) rfl ?_
      refine RunL.ok (OpOk.assign rfl) rfl ?_
      refine RunL.nil ?_
      refine Run.seq ?_
      refine Run.region ?_
      refine RunL.ok (OpOk.assign rfl) rfl ?_
      refine RunL.nil ?_
      refine Run.seq ?_
      refine Run.seq ?_
      refine Run.region ?_
      refine RunL.ok (OpOk.move rfl) rfl ?_
      refine RunL.ok (OpOk.move rfl) rfl ?_
      refine RunL.nil ?_
      refine Run.block ?_
      refine Run.loop (X := Nat) (fun k => [(0, .pointer (some ⟨q, 0, none⟩)), (8, u1), (43, u), (44, .int .i64 (ws.length : Int)), (45, .int .i64 i), (11, .int .i64 ((numAt xs a k : Nat) : Int)), (49, .int .i64 (x : Int)), (50, .int .i64 k)]) (fun k => A * pts q (.cells #[v, .int .i64 ((a + k : Nat) : Int), .int .i64 (0)] 203 (0, 0)) * own 5 1 v (xs).length (B (xs)) * own 3 1 u1 i (I (nums xs at_ (ws.take i)))) (fun k => k ≤ x) (fun k => x - k) 0 ⟨rfl, rfl, rfl, rfl, rfl, rfl, rfl, rfl, trivial⟩ rfl (by omega) (fun k hk ih2 => ?_)
      rcases Nat.lt_or_ge k x with hk1 | hk1
      · have hlt2 := numAt_lt xs a k
        have hp : 2 ^ k ≤ 2 ^ 32 := Nat.pow_le_pow_right (by decide) (by omega)
        refine Run.seq ?_
        refine Run.region ?_
        refine RunL.ok (OpOk.asT (OpOk.lss rfl rfl) (by omega)) rfl ?_
        refine RunL.nil ?_
        refine Run.seq ?_
        refine Run.condT rfl ?_
        refine Run.skip ?_
        refine Run.seq ?_
        refine Run.block ?_
        refine Run.seq ?_
        refine Run.know (fun w s => (s.conv (frl rfl)).ownRd0) (fun rdt1 => ?_)
        refine Run.know (fun w s => (s.conv rfl).ownRd0) (fun rdt2 => ?_)
        (apply Run.drawD [23] (by rfl) (sep_emp _).symm; case hchk => kernel_rfl)
        refine Sd.quiet 0 _ _ rfl rfl rfl rfl rfl (QOp.ok (fun X => OpOk.move rfl)) ?_
        refine Sd.quiet 1 _ _ rfl rfl rfl rfl rfl (QOp.ok (fun X => OpOk.shlN _ 1 rfl rfl rfl rfl (by omega) (by omega))) ?_
        refine Sd.quiet 2 _ _ rfl rfl rfl rfl rfl (QOp.ok (fun X => OpOk.move rfl)) ?_
        refine Sd.quiet 3 _ _ rfl rfl rfl rfl rfl (QOp.ok (fun X => OpOk.nilOk rfl)) ?_
        refine Sd.quiet 4 _ _ rfl rfl rfl rfl rfl (QOp.ok (fun X => OpOk.fieldAddr fld203_0 rfl)) ?_
        refine Sd.quiet 5 _ _ rfl rfl rfl rfl rfl (QOp.ok (fun X => OpOk.load rfl rfl rfl (Blk.out Blk.pts.left.left.left.left _ _ (by first | rfl | assumption)))) ?_
        refine Sd.quiet 6 _ _ rfl rfl rfl rfl rfl (QOp.ok (fun X => OpOk.move rfl)) ?_
        refine Sd.quiet 7 _ _ rfl rfl rfl rfl rfl (QOp.ok (fun X => OpOk.nilOk rfl)) ?_
        refine Sd.quiet 8 _ _ rfl rfl rfl rfl rfl (QOp.ok (fun X => OpOk.fieldAddr fld203_1 rfl)) ?_
        refine Sd.quiet 9 _ _ rfl rfl rfl rfl rfl (QOp.ok (fun X => OpOk.load rfl rfl rfl (Blk.out Blk.pts.left.left.left.left _ _ (by first | rfl | assumption)))) ?_
        refine Sd.quiet 10 _ _ rfl rfl rfl rfl rfl (QOp.ok (fun X => OpOk.quoN _ 8 rfl rfl rfl rfl (by omega) (by omega))) ?_
        refine Sd.quiet 11 _ _ rfl rfl rfl rfl rfl (QOp.ok (fun X => OpOk.idx1N rfl ti5 rfl (Rd.right rdt1).left.left.left rfl (by omega))) ?_
        refine Sd.quiet 12 _ _ rfl rfl rfl rfl rfl (QOp.ok (fun X => OpOk.load rfl rfl rfl (Rd.getB (Rd.right rdt1).left.left.left (by omega)))) ?_
        refine Sd.quiet 13 _ _ rfl rfl rfl rfl rfl (QOp.ok (fun X => OpOk.move rfl)) ?_
        refine Sd.quiet 14 _ _ rfl rfl rfl rfl rfl (QOp.ok (fun X => OpOk.nilOk rfl)) ?_
        refine Sd.quiet 15 _ _ rfl rfl rfl rfl rfl (QOp.ok (fun X => OpOk.fieldAddr fld203_1 rfl)) ?_
        refine Sd.quiet 16 _ _ rfl rfl rfl rfl rfl (QOp.ok (fun X => OpOk.load rfl rfl rfl (Blk.out Blk.pts.left.left.left.left _ _ (by first | rfl | assumption)))) ?_
        refine Sd.quiet 17 _ _ rfl rfl rfl rfl rfl (QOp.ok (fun X => OpOk.remN _ 8 rfl rfl rfl rfl (by omega))) ?_
        refine Sd.quiet 18 _ _ rfl rfl rfl rfl rfl (QOp.ok (fun X => OpOk.subN 7 _ rfl rfl rfl rfl (by omega) (by omega))) ?_
        first | refine St.quiet 19 _ _ rfl rfl rfl rfl (QOp.ok (fun X => OpOk.shr rfl rfl (by omega) rfl)) ?_ | refine Sd.quiet 19 _ _ rfl rfl rfl rfl rfl (QOp.ok (fun X => OpOk.shr rfl rfl (by omega) rfl)) ?_
        first | refine St.quiet 20 _ _ rfl rfl rfl rfl (QOp.ok (fun X => OpOk.and (r := (b2n (bitAt xs (a + k)) : Int)) rfl rfl (rbitN _ (Nat.mod_lt _ (by decide))))) ?_ | refine Sd.quiet 20 _ _ rfl rfl rfl rfl rfl (QOp.ok (fun X => OpOk.and (r := (b2n (bitAt xs (a + k)) : Int)) rfl rfl (rbitN _ (Nat.mod_lt _ (by decide))))) ?_
        have hb3 := b2n_le (bitAt xs (a + k))
        refine Sd.quiet 21 _ _ rfl rfl rfl rfl rfl (QOp.ok (fun X => OpOk.convInt rfl rfl rfl (wrapI (by omega) (by omega)))) ?_
        first | refine St.quiet 22 _ _ rfl rfl rfl rfl (QOp.ok (fun X => OpOk.or (r := ((numAt xs a (k + 1) : Nat) : Int)) rfl rfl (or_oneN (by omega) (by omega)))) ?_ | refine Sd.quiet 22 _ _ rfl rfl rfl rfl rfl (QOp.ok (fun X => OpOk.or (r := ((numAt xs a (k + 1) : Nat) : Int)) rfl rfl (or_oneN (by omega) (by omega)))) ?_
        (apply Sd.tail; case hall => kernel_rfl)
        refine RunL.mem (fl2 (sep_emp _) (sep_emp _)) ?_
        refine RunL.ok (OpOk.assign rfl) rfl ?_
        refine RunL.nil ?_
        refine Run.region ?_
        refine RunL.ok (OpOk.move rfl) rfl ?_
        refine RunL.ok (OpOk.nilOk rfl) rfl ?_
        refine RunL.ok (OpOk.fieldAddr fld203_1 rfl) rfl ?_
        refine RunL.ok (OpOk.load rfl rfl rfl (Blk.out Blk.pts.left.left _ _ (by first | rfl | assumption))) rfl ?_
        refine RunL.ok (OpOk.addN _ 1 rfl rfl rfl rfl (by omega)) rfl ?_
        refine RunL.ok (OpOk.nilOk rfl) rfl ?_
        refine RunL.ok (OpOk.fieldAddr fld203_1 rfl) rfl ?_
        refine RunL.store ti3 rfl rfl rfl (frl (frl rfl)) (by exact Nat.le_of_ble_eq_true rfl) (.inl rfl) ?_
        refine RunL.nil ?_
        refine Run.inBlock ?_
        refine Run.region ?_
        refine RunL.ok (OpOk.addN _ 1 rfl rfl rfl rfl (by omega)) rfl ?_
        refine RunL.ok (OpOk.move rfl) rfl ?_
        refine RunL.nil ?_
        refine Run.jump ((ih2 (k + 1) (by omega) (by omega))) ⟨rfl, rfl, rfl, rfl, rfl, rfl, rfl, rfl, trivial⟩ (Grew.of (frc (frl rfl) (frc (frl rfl) (frc rfl rfl))) (Grew.refl _))
      · obtain rfl : k = x := by omega
        refine Run.seq ?_
        refine Run.region ?_
        refine RunL.ok (OpOk.asF (OpOk.lss rfl rfl) (by omega)) rfl ?_
        refine RunL.nil ?_
        refine Run.seq ?_
        refine Run.condF rfl ?_
        refine Run.exit rfl ?_
        refine Run.region ?_
        refine RunL.ok (OpOk.move rfl) rfl ?_
        refine RunL.ok (OpOk.move rfl) rfl ?_
        refine RunL.litI (xs := [↑(numAt xs a k)]) rfl ti3 rfl rfl rfl (by decide) rfl (fun vt1 rdt1 => ?_)
        refine RunL.know (fun w s => (s.conv rfl).ownRd0) (fun rdt3 => ?_)
        refine RunL.appendI rfl ti3 rfl rfl rfl (frl rfl) (Rd.right rdt3) (by omega) rfl rfl (fun vt2 rdt2 => ?_)
        refine RunL.ok (OpOk.assign rfl) rfl ?_
        refine RunL.nil ?_
        refine Run.inBlock ?_
        refine Run.region ?_
        refine RunL.ok (OpOk.addN _ 1 rfl rfl rfl rfl (by omega)) rfl ?_
        refine RunL.ok (OpOk.move rfl) rfl ?_
        refine RunL.nil ?_
        rw [← hnums, show a + k = at_ + widthsN (ws.take (i + 1)) by omega]
        refine Run.jump ((ih (i + 1, vt2) (by simp; omega) (by simp; omega))) ⟨rfl, rfl, rfl, rfl, rfl, trivial⟩ (Grew.of (frc (frl rfl) rfl) (Grew.mul (Grew.refl _) _))
    · obtain rfl : i = ws.length := by omega
      rw [List.take_length]
      refine Run.seq ?_
      refine Run.region ?_
      refine RunL.ok (OpOk.asF (OpOk.lss rfl rfl) (by omega)) rfl ?_
      refine RunL.nil ?_
      refine Run.seq ?_
      refine Run.condF rfl ?_
      refine Run.exit rfl ?_
      refine Run.seq ?_
      refine Run.region ?_
      refine RunL.ok (OpOk.move rfl) rfl ?_
      refine RunL.ok (OpOk.assign rfl) rfl ?_
      refine RunL.nil ?_
      refine Run.ret1 Try.func85 rfl rfl ?_
      rw [nums_length]
end Go.Proofs.Yteopadjihklkmaa
end

section
namespace Go.Proofs.Yteopadjihklkmaa
open Go
theorem numAt_div {xs : List UInt8} {a w v : Nat} (h : ∀ j, j < w → bitAt xs (a + j) = v.testBit (w - 1 - j)) (hv : v < 2 ^ w) : ∀ j, j ≤ w → numAt xs a j = v / 2 ^ (w - j)
  | 0, _ => by
    show 0 = _
    rw [Nat.sub_zero, Nat.div_eq_of_lt hv]
  | j + 1, hj => by
    have ih := numAt_div h hv j (by omega)
    have e := testBit_b2n v (w - 1 - j)
    have e2 : v / 2 ^ (w - j) = v / 2 ^ (w - 1 - j) / 2 := by rw [Nat.div_div_eq_div_mul, ← Nat.pow_succ]; congr 2; omega
    simp only [numAt]
    rw [ih, h j (by omega), ← e, e2, show w - (j + 1) = w - 1 - j by omega]
    omega
end Go.Proofs.Yteopadjihklkmaa
end

section
namespace Go.Proofs.Yteopadjihklkmaa
def bytesBits (xs : List UInt8) : List Bool := xs.flatMap fun b => bitsOf 8 b.toNat
theorem bytesBits_cons (b : UInt8) (r : List UInt8) : bytesBits (b :: r) = bitsOf 8 b.toNat ++ bytesBits r := by simp [bytesBits]
theorem bytesBits_append (a b : List UInt8) : bytesBits (a ++ b) = bytesBits a ++ bytesBits b := by simp [bytesBits]
theorem bytesBits_length : ∀ xs : List UInt8, (bytesBits xs).length = 8 * xs.length
  | [] => rfl
  | b :: r => by rw [bytesBits_cons, List.length_append, bitsOf_length, bytesBits_length r, List.length_cons]; omega
theorem bitOf_bytes : ∀ (xs : List UInt8) (j t : Nat), t < 8 → j < xs.length → bitOf (bytesBits xs) (8 * j + t) = (xs.getD j 0).toNat.testBit (7 - t)
  | [], j, t, _, hj => by simp at hj
  | b :: r, 0, t, ht, _ => by
    rw [bytesBits_cons, bitOf, List.getD_eq_getElem?_getD, List.getElem?_append_left (by rw [bitsOf_length]; omega), bitsOf_at (by omega), show 8 * 0 + t = t by omega]
    rfl
  | b :: r, j + 1, t, ht, hj => by
    have ih := bitOf_bytes r j t ht (by simp at hj; omega)
    rw [bitOf, List.getD_eq_getElem?_getD] at ih
    rw [bytesBits_cons, bitOf, List.getD_eq_getElem?_getD, List.getElem?_append_right (by rw [bitsOf_length]; omega), bitsOf_length, show 8 * (j + 1) + t - 8 = 8 * j + t by omega, ih]
    rfl
theorem pack_bytes (xs : List UInt8) : pack (bytesBits xs) xs.length = xs := by
  apply List.ext_getElem?
  intro j
  rcases Nat.lt_or_ge j xs.length with h | h
  · rw [pack_at h, List.getElem?_eq_getElem h]
    congr 1
    refine byte_ext fun i hi => ?_
    rw [byteAt_bit _ _ _ hi, bitOf_bytes xs j (7 - i) (by omega) h, show 7 - (7 - i) = i by omega, List.getD_eq_getElem?_getD, List.getElem?_eq_getElem h]
    rfl
  · rw [List.getElem?_eq_none (by rw [pack_length]; omega), List.getElem?_eq_none h]
theorem bits8 (v : Nat) : bitsOf 8 v = bytesBits [UInt8.ofNat v] := by
  rw [bytesBits_cons, show bytesBits [] = [] from rfl, List.append_nil]
  apply List.ext_getElem?
  intro i
  rcases Nat.lt_or_ge i 8 with h | h
  · rw [bitsOf_at h, bitsOf_at h, UInt8.toNat_ofNat', Nat.testBit_mod_two_pow]
    simp
    omega
  · rw [List.getElem?_eq_none (by rw [bitsOf_length]; omega), List.getElem?_eq_none (by rw [bitsOf_length]; omega)]
theorem bits16 (v : Nat) : bitsOf 16 v = bytesBits [UInt8.ofNat (v / 256), UInt8.ofNat v] := by
  rw [bytesBits_cons, ← bits8]
  apply List.ext_getElem?
  intro i
  rcases Nat.lt_or_ge i 16 with h | h
  · rw [bitsOf_at h]
    rcases Nat.lt_or_ge i 8 with h8 | h8
    · rw [List.getElem?_append_left (by rw [bitsOf_length]; omega), bitsOf_at h8, UInt8.toNat_ofNat', Nat.testBit_mod_two_pow, show (256 : Nat) = 2 ^ 8 from rfl, Nat.testBit_div_two_pow, show 8 - 1 - i + 8 = 16 - 1 - i by omega]
      simp
      omega
    · rw [List.getElem?_append_right (by rw [bitsOf_length]; omega), bitsOf_length, bitsOf_at (by omega), show 8 - 1 - (i - 8) = 16 - 1 - i by omega]
  · rw [List.getElem?_eq_none (by rw [bitsOf_length]; omega), List.getElem?_eq_none (by rw [List.length_append, bitsOf_length, bitsOf_length]; omega)]
theorem bitAt_byte (xs : List UInt8) (j t : Nat) (ht : t < 8) : bitAt xs (8 * j + t) = (xs.getD j 0).toNat.testBit (7 - t) := by
  rw [bitAt, show (8 * j + t) / 8 = j by omega, show (8 * j + t) % 8 = t by omega]
  rfl
theorem num8 (xs : List UInt8) (j : Nat) : numAt xs (8 * j) 8 = (xs.getD j 0).toNat := by
  have := numAt_div (xs := xs) (a := 8 * j) (w := 8) (v := (xs.getD j 0).toNat) (fun t ht => by rw [bitAt_byte xs j t ht]) (UInt8.toNat_lt _) 8 (Nat.le_refl _)
  rw [this]
  simp
theorem num16 (xs : List UInt8) (j : Nat) : numAt xs (8 * j) 16 = (xs.getD j 0).toNat * 256 + (xs.getD (j + 1) 0).toNat := by
  have h1 := (xs.getD j 0).toNat_lt
  have h2 := (xs.getD (j + 1) 0).toNat_lt
  have := numAt_div (xs := xs) (a := 8 * j) (w := 16) (v := (xs.getD j 0).toNat * 256 + (xs.getD (j + 1) 0).toNat) (fun t ht => by
    rw [show (xs.getD j 0).toNat * 256 + (xs.getD (j + 1) 0).toNat = 2 ^ 8 * (xs.getD j 0).toNat + (xs.getD (j + 1) 0).toNat by omega, Nat.testBit_two_pow_mul_add _ (show (xs.getD (j + 1) 0).toNat < 2 ^ 8 from h2)]
    rcases Nat.lt_or_ge t 8 with h | h
    · rw [bitAt_byte xs j t h, if_neg (by omega), show 16 - 1 - t - 8 = 7 - t by omega]
    · rw [show 8 * j + t = 8 * (j + 1) + (t - 8) by omega, bitAt_byte xs (j + 1) (t - 8) (by omega), if_pos (by omega), show 7 - (t - 8) = 16 - 1 - t by omega]) (by omega) 16 (Nat.le_refl _)
  rw [this]
  simp
end Go.Proofs.Yteopadjihklkmaa
end
