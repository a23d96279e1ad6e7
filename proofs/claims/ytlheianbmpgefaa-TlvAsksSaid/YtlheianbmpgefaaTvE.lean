/- Reading of elements: the plain law, and get. -/
import Derived.Test.YtlheianbmpgefaaTvD
namespace Go.Proofs.Ytlheianbmpgefaa
open Go Go.Proofs
set_option maxRecDepth 100000
set_option maxHeartbeats 4000000
set_option linter.unusedSimpArgs false
def consR (t : Int) (bs : List UInt8) (f : Te) (r : Te × Int) : Te × Int := if r.2 = 0 then (.cons t bs f r.1, 0) else (.nil, r.2)
def getT : Nat → List UInt8 → Nat → Int → Te × Int
  | 0, _, _, _ => (.nil, 0)
  | _ + 1, [], _, _ => (.nil, 0)
  | n + 1, t :: b1, d, last => if 4 ≤ d then (.nil, 15) else if (t.toNat : Int) ≤ last then (.nil, 12) else
    match b1 with
    | [] => (.nil, 10)
    | l :: b2 => if b2.length < l.toNat then (.nil, 10) else
      if (t.toNat : Int) < 128 then consR t.toNat (b2.take l.toNat) .nil (getT n (b2.drop l.toNat) d t.toNat)
      else if (getT n (b2.take l.toNat) (d + 1) 0).2 = 0 then consR t.toNat [] (getT n (b2.take l.toNat) (d + 1) 0).1 (getT n (b2.drop l.toNat) d t.toNat) else (.nil, (getT n (b2.take l.toNat) (d + 1) 0).2)
theorem getT_fuel : ∀ (n m : Nat) (b : List UInt8) (d : Nat) (last : Int), b.length ≤ n → b.length ≤ m → getT n b d last = getT m b d last := by
  intro n
  induction n with
  | zero =>
    intro m b d last h1 h2
    rw [List.eq_nil_of_length_eq_zero (Nat.le_zero.1 h1)]
    cases m <;> rfl
  | succ n ih =>
    intro m b d last h1 h2
    cases b with
    | nil => cases m <;> rfl
    | cons t b1 =>
      cases m with
      | zero => simp at h2
      | succ m =>
        simp only [List.length_cons] at h1 h2
        cases b1 with
        | nil => rfl
        | cons l b2 =>
          simp only [List.length_cons] at h1 h2
          simp only [getT]
          rw [ih m (b2.drop l.toNat) d t.toNat (by rw [List.length_drop]; omega) (by rw [List.length_drop]; omega), ih m (b2.take l.toNat) (d + 1) 0 (by rw [List.length_take]; omega) (by rw [List.length_take]; omega)]
def get (b : List UInt8) (d : Nat) (last : Int) : Te × Int := getT b.length b d last
theorem get_nil (d : Nat) (last : Int) : get [] d last = (.nil, 0) := rfl
theorem get_deep {t : UInt8} {b1 : List UInt8} {d : Nat} {last : Int} (h : 4 ≤ d) : get (t :: b1) d last = (.nil, 15) := by
  cases b1 <;> exact if_pos h
theorem get_form {t : UInt8} {b1 : List UInt8} {d : Nat} {last : Int} (h : d < 4) (h2 : (t.toNat : Int) ≤ last) : get (t :: b1) d last = (.nil, 12) := by
  cases b1 <;> exact (if_neg (by omega)).trans (if_pos h2)
theorem get_short1 {t : UInt8} {d : Nat} {last : Int} (h : d < 4) (h2 : last < (t.toNat : Int)) : get [t] d last = (.nil, 10) := by
  rw [get, List.length_cons, getT, if_neg (by omega), if_neg (by omega)]
theorem get_short {t l : UInt8} {b2 : List UInt8} {d : Nat} {last : Int} (h : d < 4) (h2 : last < (t.toNat : Int)) (h3 : b2.length < l.toNat) : get (t :: l :: b2) d last = (.nil, 10) := by
  rw [get, List.length_cons, getT, if_neg (by omega), if_neg (by omega)]
  simp only [if_pos h3]
theorem get_flat {t l : UInt8} {b2 : List UInt8} {d : Nat} {last : Int} (h : d < 4) (h2 : last < (t.toNat : Int)) (h3 : l.toNat ≤ b2.length) (h4 : (t.toNat : Int) < 128) : get (t :: l :: b2) d last = consR t.toNat (b2.take l.toNat) .nil (get (b2.drop l.toNat) d t.toNat) := by
  rw [get, List.length_cons, getT, if_neg (by omega), if_neg (by omega)]
  simp only [if_neg (show ¬ b2.length < l.toNat by omega), if_pos h4]
  rw [get, getT_fuel _ (b2.drop l.toNat).length _ _ _ (by rw [List.length_drop, List.length_cons]; omega) (Nat.le_refl _)]
theorem get_built {t l : UInt8} {b2 : List UInt8} {d : Nat} {last : Int} (h : d < 4) (h2 : last < (t.toNat : Int)) (h3 : l.toNat ≤ b2.length) (h4 : ¬ (t.toNat : Int) < 128) : get (t :: l :: b2) d last = if (get (b2.take l.toNat) (d + 1) 0).2 = 0 then consR t.toNat [] (get (b2.take l.toNat) (d + 1) 0).1 (get (b2.drop l.toNat) d t.toNat) else (.nil, (get (b2.take l.toNat) (d + 1) 0).2) := by
  rw [get, List.length_cons, getT, if_neg (by omega), if_neg (by omega)]
  simp only [if_neg (show ¬ b2.length < l.toNat by omega), if_neg h4]
  rw [get, get, getT_fuel _ (b2.drop l.toNat).length (b2.drop l.toNat) _ _ (by rw [List.length_drop, List.length_cons]; omega) (Nat.le_refl _), getT_fuel _ (b2.take l.toNat).length (b2.take l.toNat) _ _ (by rw [List.length_take, List.length_cons]; omega) (Nat.le_refl _)]
/-- What is read goes behind what was read. -/
def appR (a : Te) (r : Te × Int) : Te × Int := if r.2 = 0 then (appT a r.1, 0) else (.nil, r.2)
theorem appR_nil (r : Te × Int) (h : r.2 = 0 ∨ r.1 = .nil) : appR .nil r = r := by
  obtain ⟨f, e⟩ := r
  unfold appR
  rcases Decidable.em (e = 0) with h1 | h1
  · subst h1; rfl
  · rcases h with h | h
    · exact absurd h h1
    · simp only at h; subst h; exact if_neg h1
theorem appR_cons (a : Te) (t : Int) (bs : List UInt8) (f : Te) (r : Te × Int) : appR a (consR t bs f r) = appR (appT a (.cons t bs f .nil)) r := by
  unfold appR consR
  split
  · simp only [if_pos]
    rw [appT_assoc]
    rfl
  · rename_i h
    simp only [if_neg h]
theorem appR_err (a : Te) (e : Int) (h : e ≠ 0) : appR a (.nil, e) = (.nil, e) := by
  unfold appR; exact if_neg h
theorem get_fst : ∀ (n : Nat) (b : List UInt8) (d : Nat) (last : Int), (getT n b d last).2 = 0 ∨ (getT n b d last).1 = .nil := by
  intro n
  cases n with
  | zero => intro b d last; exact .inl rfl
  | succ n =>
    intro b d last
    cases b with
    | nil => exact .inl rfl
    | cons t b1 =>
      have hc : ∀ (t : Int) (bs : List UInt8) (f : Te) (r : Te × Int), (consR t bs f r).2 = 0 ∨ (consR t bs f r).1 = .nil := fun t bs f r => by
        unfold consR; split
        · exact .inl rfl
        · exact .inr rfl
      cases b1 with
      | nil =>
        rw [getT]
        split
        · exact .inr rfl
        · split <;> exact .inr rfl
      | cons l b2 =>
        rw [getT]
        split
        · exact .inr rfl
        · split
          · exact .inr rfl
          · split
            · exact .inr rfl
            · split
              · exact hc _ _ _ _
              · split
                · exact hc _ _ _ _
                · exact .inr rfl
end Go.Proofs.Ytlheianbmpgefaa
