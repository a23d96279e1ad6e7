/- Digits and numbers: there and back, and in order. -/
import Derived.Test.YtajjmephfoaiaaaSp3
namespace Go.Proofs.Ytajjmephfoaiaaa
open Go Go.Proofs
def valB (x : UInt8) : Nat := 10 * (x.toNat / 16) + x.toNat % 16
theorem fold_acc (xs : List UInt8) (a : Nat) : xs.foldl (fun n x => 100 * n + 10 * (x.toNat / 16) + x.toNat % 16) a = a * 100 ^ xs.length + numB xs := by
  induction xs generalizing a with
  | nil => simp [numB]
  | cons x r ih =>
    have e : numB (x :: r) = r.foldl (fun n x => 100 * n + 10 * (x.toNat / 16) + x.toNat % 16) (valB x) := by simp [numB, valB]
    rw [e, List.foldl_cons, ih, ih (valB x), List.length_cons, Nat.pow_succ]
    have e2 : (100 * a + 10 * (x.toNat / 16) + x.toNat % 16) = 100 * a + valB x := by simp only [valB]; omega
    rw [e2, Nat.add_mul, Nat.mul_comm 100 a, Nat.mul_assoc, Nat.mul_comm 100 (100 ^ r.length)]
    omega
theorem numB_cons (x : UInt8) (xs : List UInt8) : numB (x :: xs) = valB x * 100 ^ xs.length + numB xs := by
  have := fold_acc xs (valB x)
  rw [← this]
  simp [numB, valB]
theorem numB_pow {xs : List UInt8} (h : xs.all okB = true) : numB xs < 100 ^ xs.length := numB_lt h
theorem valB_lt {x y : UInt8} (hx : okB x = true) (hy : okB y = true) : x < y ↔ valB x < valB y := by
  simp only [okB, decide_eq_true_eq] at hx hy
  rw [UInt8.lt_iff_toNat_lt]
  unfold valB
  omega
theorem valB_eq {x y : UInt8} (hx : okB x = true) (hy : okB y = true) (h : valB x = valB y) : x = y := by
  simp only [okB, decide_eq_true_eq] at hx hy
  unfold valB at h
  exact UInt8.toNat_inj.1 (by omega)
theorem order_digits : ∀ {xs ys : List UInt8}, xs.length = ys.length → xs.all okB = true → ys.all okB = true → (Op.bytesLess xs ys = decide (numB xs < numB ys)) ∧ (xs = ys ↔ numB xs = numB ys)
  | [], [], _, _, _ => by simp [Op.bytesLess]
  | x :: xs, y :: ys, hl, hx, hy => by
    rw [List.all_cons, Bool.and_eq_true] at hx hy
    have hl' : xs.length = ys.length := by simpa using hl
    obtain ⟨h1, h2⟩ := order_digits hl' hx.2 hy.2
    have p1 := numB_pow hx.2
    have p2 := numB_pow hy.2
    rw [numB_cons, numB_cons, hl']
    rw [hl'] at p1
    generalize 100 ^ ys.length = q at *
    have hlt := valB_lt hx.1 hy.1
    have hgt := valB_lt hy.1 hx.1
    rcases Nat.lt_trichotomy (valB x) (valB y) with h | h | h
    · have hm : valB x * q + q ≤ valB y * q := by rw [← Nat.succ_mul]; exact Nat.mul_le_mul_right _ h
      have hne : x ≠ y := fun e => by subst e; omega
      refine ⟨?_, ?_⟩
      · rw [decide_eq_true (by omega)]
        simp [Op.bytesLess, hlt.2 h]
      · constructor
        · intro e; injection e with e1 _; exact absurd e1 hne
        · intro e; omega
    · have he := valB_eq hx.1 hy.1 h
      subst he
      refine ⟨?_, ?_⟩
      · have hnl : ¬ x < x := fun e => by have := hlt.1 e; omega
        simp only [Op.bytesLess]
        rw [decide_eq_false hnl, h1, Bool.false_or, beq_self_eq_true, Bool.true_and]
        exact decide_eq_decide.2 (by omega)
      · constructor
        · intro e; injection e with _ e2; rw [h2] at e2; omega
        · intro e; rw [h2.2 (by omega)]
    · have hm : valB y * q + q ≤ valB x * q := by rw [← Nat.succ_mul]; exact Nat.mul_le_mul_right _ h
      have hne : x ≠ y := fun e => by subst e; omega
      have hnl : ¬ x < y := fun e => by have := hlt.1 e; omega
      refine ⟨?_, ?_⟩
      · rw [decide_eq_false (by omega)]
        simp only [Op.bytesLess]
        rw [decide_eq_false hnl, Bool.false_or, beq_false_of_ne hne, Bool.false_and]
      · constructor
        · intro e; injection e with e1 _; exact absurd e1 hne
        · intro e; omega
theorem nib_all {c n i : Nat} (h : n < 10 ^ c) : nib c n i = n / 10 ^ i % 10 := by
  unfold nib
  split
  · rfl
  · rw [Nat.div_eq_of_lt (Nat.lt_of_lt_of_le h (Nat.pow_le_pow_right (by decide) (by omega)))]
theorem digs_ok (c n k : Nat) : (digs c n k).all okB = true := by
  rw [List.all_eq_true]
  intro x hx
  obtain ⟨j, hj, rfl⟩ := List.mem_iff_getElem.1 hx
  rw [digs_length] at hj
  have := digs_at (c := c) (n := n) hj
  rw [List.getElem?_eq_getElem (by rw [digs_length]; exact hj)] at this
  rw [Option.some.inj this]
  have h1 := nib_lt c n (2 * (k - 1 - j) + 1)
  have h2 := nib_lt c n (2 * (k - 1 - j))
  simp only [okB, decide_eq_true_eq, UInt8.toNat_ofNat']
  omega
theorem numB_digs {c n k : Nat} (h : n < 10 ^ c) (hk : c ≤ 2 * k) : numB (digs c n k) = n := by
  have key : ∀ j, j ≤ k → numB ((digs c n k).take j) = n / 10 ^ (2 * (k - j)) := by
    intro j
    induction j with
    | zero =>
      intro _
      rw [Nat.div_eq_of_lt (Nat.lt_of_lt_of_le h (Nat.pow_le_pow_right (by decide) (by omega)))]
      simp [numB]
    | succ j ih =>
      intro hj
      rw [numB_next (by rw [digs_length]; omega), ih (by omega)]
      have hd := digs_at (c := c) (n := n) (show j < k by omega)
      have hg : (digs c n k).getD j 0 = UInt8.ofNat (16 * nib c n (2 * (k - 1 - j) + 1) + nib c n (2 * (k - 1 - j))) := by rw [List.getD_eq_getElem?_getD, hd]; rfl
      have h1 := nib_lt c n (2 * (k - 1 - j) + 1)
      have h2 := nib_lt c n (2 * (k - 1 - j))
      have e1 : (UInt8.ofNat (16 * nib c n (2 * (k - 1 - j) + 1) + nib c n (2 * (k - 1 - j)))).toNat = 16 * nib c n (2 * (k - 1 - j) + 1) + nib c n (2 * (k - 1 - j)) := by rw [UInt8.toNat_ofNat']; omega
      rw [hg, e1]
      rw [nib_all h] at *
      rw [nib_all h] at *
      have e2 : 2 * (k - j) = 2 * (k - 1 - j) + 2 := by omega
      have e3 : 2 * (k - (j + 1)) = 2 * (k - 1 - j) := by omega
      rw [e2, e3, Nat.pow_add, Nat.pow_add, ← Nat.div_div_eq_div_mul, ← Nat.div_div_eq_div_mul] at *
      generalize n / 10 ^ (2 * (k - 1 - j)) = m at *
      omega
  have := key k (Nat.le_refl _)
  rw [List.take_of_length_le (by rw [digs_length]; exact Nat.le_refl _)] at this
  rw [this, Nat.sub_self]
  simp
/-- What Digits lays is read back. -/
theorem digged_back {n c e : Int} {zs : List UInt8} (h : Digged n c e zs) (he : e = 0) : numE zs = 0 ∧ numV zs = n ∧ zs.length = (c.toNat + 1) / 2 ∧ zs.all okB = true ∧ (numB zs : Int) = n ∧ 1 ≤ c ∧ c ≤ 18 := by
  rcases h.out with ⟨h1, _⟩ | ⟨_, h1, h2, h3, h4, h5⟩
  · omega
  · have hl : zs.length = (c.toNat + 1) / 2 := by rw [h5, digs_length]
    have ho : zs.all okB = true := by rw [h5]; exact digs_ok _ _ _
    have hlt : n.toNat < 10 ^ c.toNat := by
      have : ((n.toNat : Nat) : Int) < ((10 ^ c.toNat : Nat) : Int) := by rw [Int.toNat_of_nonneg h3]; exact_mod_cast h4
      exact_mod_cast this
    have hn : (numB zs : Int) = n := by rw [h5, numB_digs hlt (by omega)]; omega
    have hE : numE zs = 0 := by simp only [numE]; rw [if_neg (by omega), if_neg (by omega), if_pos ho]
    exact ⟨hE, by simp only [numV]; rw [if_pos hE, hn], hl, ho, hn, h1, h2⟩
end Go.Proofs.Ytajjmephfoaiaaa
