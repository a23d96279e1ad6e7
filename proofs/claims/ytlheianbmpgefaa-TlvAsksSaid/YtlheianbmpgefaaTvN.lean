/- Elements there and back, joined and cut: the plain law. -/
import Derived.Test.YtlheianbmpgefaaTvK
namespace Go.Proofs.Ytlheianbmpgefaa
open Go Go.Proofs
set_option maxRecDepth 100000
theorem lenT_zero : ∀ {f : Te}, lenT f = 0 → f = .nil
  | .nil, _ => rfl
  | .cons _ _ _ _, h => by simp [lenT] at h
theorem toNat_of {t : Int} (h0 : 0 ≤ t) (h : t ≤ 255) : ((UInt8.ofNat t.toNat).toNat : Int) = t := by
  rw [UInt8.toNat_ofNat', Nat.mod_eq_of_lt (show t.toNat < 2 ^ 8 by omega)]
  omega
theorem toNat_len {k : Nat} (h : k ≤ 255) : (UInt8.ofNat k).toNat = k := by
  rw [UInt8.toNat_ofNat', Nat.mod_eq_of_lt (show k < 2 ^ 8 by omega)]
/-- The last tag. -/
def tagT : Te → Int → Int
  | .nil, last => last
  | .cons t _ _ r, _ => tagT r t
theorem right_cons {t last : Int} {bs : List UInt8} {f r : Te} (h : rightT (.cons t bs f r) last = true) : (last < t ∧ t ≤ 255 ∧ (128 ≤ t → bs.length = 0) ∧ (t < 128 → lenT f = 0)) ∧ rightT f 0 = true ∧ rightT r t = true := by
  rw [rightT, Bool.and_eq_true, Bool.and_eq_true, decide_eq_true_eq] at h
  exact ⟨h.1.1, h.1.2, h.2⟩
theorem lay_cons {t : Int} {bs out : List UInt8} {f r : Te} (h : layT (.cons t bs f r) = some out) : ∃ b c, layT f = some b ∧ (bodyT t bs b).length ≤ 255 ∧ layT r = some c ∧ out = rowT t (bodyT t bs b) ++ c := by
  cases hf : layT f with
  | none => rw [layT_none hf] at h; cases h
  | some b =>
    rcases Nat.lt_or_ge 255 (bodyT t bs b).length with h1 | h1
    · rw [layT_long hf h1] at h; cases h
    · rw [layT_some hf (by omega)] at h
      cases hr : layT r with
      | none => rw [hr] at h; cases h
      | some c =>
        rw [hr, Option.map_some] at h
        exact ⟨b, c, rfl, h1, rfl, (Option.some.inj h).symm⟩
theorem appR_consR (t : Int) (bs : List UInt8) (f r : Te) (x : Te × Int) : consR t bs f (appR r x) = appR (.cons t bs f r) x := by
  unfold consR appR
  split
  · rfl
  · rfl
/-- What is laid is read, and what stands behind it is read on. -/
theorem get_lay : ∀ (F : Te) (d : Nat) (last : Int) (out rest : List UInt8), dpT F + d ≤ 4 → 0 ≤ last → rightT F last = true → layT F = some out → get (out ++ rest) d last = appR F (get rest d (tagT F last))
  | .nil, d, last, out, rest, _, _, _, hl => by
    rw [layT] at hl
    obtain rfl := Option.some.inj hl
    rw [List.nil_append, tagT]
    exact (appR_nil _ (get_fst _ _ _ _)).symm
  | .cons t bs f r, d, last, out, rest, hd, h0, hr, hl => by
    obtain ⟨⟨h1, h2, h3, h4⟩, hrf, hrr⟩ := right_cons hr
    obtain ⟨b, c, hf, hlen, hc, rfl⟩ := lay_cons hl
    rw [dpT] at hd
    have ht := toNat_of (show 0 ≤ t by omega) h2
    have hn := toNat_len hlen
    have hi := get_lay r d t c rest (by omega) (by omega) hrr hc
    have htk : (bodyT t bs b ++ (c ++ rest)).take (bodyT t bs b).length = bodyT t bs b := List.take_left
    have hdk : (bodyT t bs b ++ (c ++ rest)).drop (bodyT t bs b).length = c ++ rest := List.drop_left
    rw [rowT, List.append_assoc, List.cons_append, List.cons_append, tagT]
    rcases Decidable.em (t < 128) with h5 | h5
    · rw [get_flat (by omega) (by omega) (by rw [hn, List.length_append]; omega) (by omega), hn, ht, htk, hdk, hi, appR_consR]
      rw [lenT_zero (h4 h5), bodyT, if_pos h5]
    · have hfi := get_lay f (d + 1) 0 b [] (by omega) (by omega) hrf hf
      rw [List.append_nil, get_nil, appR, if_pos rfl, appT_nil] at hfi
      rw [get_built (by omega) (by omega) (by rw [hn, List.length_append]; omega) (by omega), hn, ht, htk, hdk, hi, appR_consR]
      have hb : bodyT t bs b = b := by rw [bodyT, if_neg h5]
      rw [hb, hfi, if_pos rfl, List.eq_nil_of_length_eq_zero (h3 (by omega))]
theorem put_ok {F : Te} {out : List UInt8} (h : putT F = (out, 0)) : dpT F ≤ 4 ∧ rightT F 0 = true ∧ layT F = some out := by
  unfold putT at h
  rcases Decidable.em (4 < dpT F) with h1 | h1
  · rw [if_pos h1] at h
    cases h
  · rw [if_neg h1] at h
    cases hr : rightT F 0 with
    | false => rw [hr, if_neg (by decide)] at h; cases h
    | true =>
      rw [hr, if_pos rfl] at h
      cases hl : layT F with
      | none => rw [hl] at h; cases h
      | some b =>
        rw [hl] at h
        cases h
        exact ⟨by omega, rfl, rfl⟩
theorem put_of {F : Te} {out : List UInt8} (h1 : dpT F ≤ 4) (h2 : rightT F 0 = true) (h3 : layT F = some out) : putT F = (out, 0) := by
  unfold putT
  rw [if_neg (by omega), if_pos h2, h3]
theorem get_put {F : Te} {out : List UInt8} (h : putT F = (out, 0)) : get out 0 0 = (F, 0) := by
  obtain ⟨h1, h2, h3⟩ := put_ok h
  have := get_lay F 0 0 out [] (by omega) (by omega) h2 h3
  rwa [List.append_nil, get_nil, appR, if_pos rfl, appT_nil] at this
theorem consR_ok {t : Int} {bs : List UInt8} {f F : Te} {x : Te × Int} (h : consR t bs f x = (F, 0)) : x.2 = 0 ∧ F = .cons t bs f x.1 := by
  unfold consR at h
  split at h
  · rename_i h1
    exact ⟨h1, (Prod.mk.inj h).1.symm⟩
  · rename_i h1
    exact absurd (Prod.mk.inj h).2 h1
/-- What is read is laid so. -/
theorem lay_get : ∀ (n : Nat) (b : List UInt8) (d : Nat) (last : Int) (F : Te), b.length ≤ n → d ≤ 4 → 0 ≤ last → get b d last = (F, 0) → dpT F + d ≤ 4 ∧ rightT F last = true ∧ layT F = some b := by
  intro n
  induction n with
  | zero =>
    intro b d last F hn hd h0 h
    obtain rfl := List.eq_nil_of_length_eq_zero (Nat.le_zero.1 hn)
    rw [get_nil] at h
    obtain rfl := (Prod.mk.inj h).1
    exact ⟨by rw [dpT]; omega, rfl, rfl⟩
  | succ n ih =>
    intro b d last F hn hd h0 h
    cases b with
    | nil =>
      rw [get_nil] at h
      obtain rfl := (Prod.mk.inj h).1
      exact ⟨by rw [dpT]; omega, rfl, rfl⟩
    | cons t b1 =>
      have ht := t.toNat_lt
      rcases Nat.lt_or_ge d 4 with h4 | h4
      · rcases Decidable.em ((t.toNat : Int) ≤ last) with h5 | h5
        · rw [get_form h4 h5] at h
          exact absurd (Prod.mk.inj h).2 (by decide)
        · cases b1 with
          | nil =>
            rw [get_short1 h4 (by omega)] at h
            exact absurd (Prod.mk.inj h).2 (by decide)
          | cons l b2 =>
            have hl := l.toNat_lt
            simp only [List.length_cons] at hn
            rcases Nat.lt_or_ge b2.length l.toNat with h6 | h6
            · rw [get_short h4 (by omega) h6] at h
              exact absurd (Prod.mk.inj h).2 (by decide)
            · have htl : (b2.take l.toNat).length = l.toNat := by rw [List.length_take]; omega
              have hdl : (b2.drop l.toNat).length = b2.length - l.toNat := List.length_drop
              have htn : (t.toNat : Int).toNat = t.toNat := by omega
              have htt : UInt8.ofNat t.toNat = t := by simp
              have hll : UInt8.ofNat l.toNat = l := by simp
              rcases Decidable.em ((t.toNat : Int) < 128) with h7 | h7
              · rw [get_flat h4 (by omega) h6 h7] at h
                obtain ⟨h8, rfl⟩ := consR_ok h
                obtain ⟨i1, i2, i3⟩ := ih (b2.drop l.toNat) d t.toNat (get (b2.drop l.toNat) d t.toNat).1 (by omega) hd (by omega) (Prod.ext rfl h8)
                refine ⟨by rw [dpT, dpT]; omega, ?_, ?_⟩
                · rw [rightT, i2, rightT, decide_eq_true ⟨by omega, by omega, fun _ => by omega, fun _ => rfl⟩]; rfl
                · rw [layT_some (f := .nil) (b := []) rfl (by rw [bodyT, if_pos h7, htl]; omega), i3, bodyT, if_pos h7, Option.map_some, rowT, htn, htt, htl, hll]
                  simp
              · rw [get_built h4 (by omega) h6 h7] at h
                split at h
                · rename_i h9
                  obtain ⟨h8, rfl⟩ := consR_ok h
                  obtain ⟨i1, i2, i3⟩ := ih (b2.drop l.toNat) d t.toNat (get (b2.drop l.toNat) d t.toNat).1 (by omega) hd (by omega) (Prod.ext rfl h8)
                  obtain ⟨j1, j2, j3⟩ := ih (b2.take l.toNat) (d + 1) 0 (get (b2.take l.toNat) (d + 1) 0).1 (by omega) (by omega) (by omega) (Prod.ext rfl h9)
                  refine ⟨by rw [dpT]; omega, ?_, ?_⟩
                  · rw [rightT, i2, j2, decide_eq_true ⟨by omega, by omega, fun _ => rfl, fun _ => by omega⟩]; rfl
                  · rw [layT_some j3 (by rw [bodyT, if_neg h7, htl]; omega), i3, bodyT, if_neg h7, Option.map_some, rowT, htn, htt, htl, hll]
                    simp
                · rename_i h9
                  exact absurd (Prod.mk.inj h).2 h9
      · rw [get_deep h4] at h
        exact absurd (Prod.mk.inj h).2 (by decide)
theorem put_get {F : Te} {b : List UInt8} (h : get b 0 0 = (F, 0)) : putT F = (b, 0) := by
  obtain ⟨h1, h2, h3⟩ := lay_get _ b 0 0 F (Nat.le_refl _) (by omega) (by omega) h
  exact put_of (by omega) h2 h3
theorem put_len {F : Te} {out : List UInt8} {e : Int} (h : putT F = (out, e)) (he : e ≠ 0) : out = [] := by
  unfold putT at h
  split at h
  · cases h; rfl
  · split at h
    · split at h
      · cases h; rfl
      · cases h; exact absurd rfl he
    · cases h; rfl
/-! ### Two lists -/
theorem dpT_app : ∀ a b : Te, dpT (appT a b) = max (dpT a) (dpT b)
  | .nil, b => by rw [appT, dpT]; omega
  | .cons t bs f r, b => by rw [appT, dpT, dpT, dpT_app r b]; omega
theorem right_app : ∀ (a b : Te) (last : Int), rightT (appT a b) last = (rightT a last && rightT b (tagT a last))
  | .nil, b, last => by rw [appT, rightT, tagT, Bool.true_and]
  | .cons t bs f r, b, last => by rw [appT, rightT, rightT, right_app r b t, tagT]; simp only [Bool.and_assoc]
theorem right_mono {b : Te} {x y : Int} (h : x ≤ y) (hr : rightT b y = true) : rightT b x = true := by
  cases b with
  | nil => rfl
  | cons t bs f r =>
    obtain ⟨⟨h1, h2, h3, h4⟩, h5, h6⟩ := right_cons hr
    rw [rightT, h5, h6, decide_eq_true ⟨by omega, h2, h3, h4⟩]; rfl
theorem lay_app : ∀ (a b : Te), layT (appT a b) = match layT a, layT b with | some x, some y => some (x ++ y) | _, _ => none
  | .nil, b => by
    rw [appT, layT]
    cases layT b <;> rfl
  | .cons t bs f r, b => by
    rw [appT]
    cases hf : layT f with
    | none => rw [layT_none hf, layT_none hf]
    | some z =>
      rcases Nat.lt_or_ge 255 (bodyT t bs z).length with h1 | h1
      · rw [layT_long hf h1, layT_long hf h1]
      · rw [layT_some hf (by omega), layT_some hf (by omega), lay_app r b]
        cases layT r with
        | none => rfl
        | some x =>
          cases layT b with
          | none => rfl
          | some y => simp
theorem tagT_nonneg : ∀ (a : Te) (last : Int), 0 ≤ last → rightT a last = true → last ≤ tagT a last ∧ 0 ≤ tagT a last
  | .nil, last, h, _ => ⟨Int.le_refl _, h⟩
  | .cons t bs f r, last, h, hr => by
    obtain ⟨⟨h1, _⟩, _, h6⟩ := right_cons hr
    have := tagT_nonneg r t (by omega) h6
    rw [tagT]
    exact ⟨by omega, this.2⟩
/-- What is refused of one is refused of both. -/
theorem put_app_bad {a b : Te} {x y : List UInt8} {e f : Int} (ha : putT a = (x, e)) (hb : putT b = (y, f)) (h : e ≠ 0 ∨ f ≠ 0) : ∃ g, g ≠ 0 ∧ putT (appT a b) = ([], g) := by
  rcases hp : putT (appT a b) with ⟨z, g⟩
  rcases Decidable.em (g = 0) with hg | hg
  · subst hg
    exfalso
    obtain ⟨h1, h2, h3⟩ := put_ok hp
    rw [dpT_app] at h1
    rw [right_app, Bool.and_eq_true] at h2
    rw [lay_app] at h3
    cases hla : layT a with
    | none => rw [hla] at h3; cases h3
    | some p =>
      cases hlb : layT b with
      | none => rw [hla, hlb] at h3; cases h3
      | some q =>
        have e1 := put_of (show dpT a ≤ 4 by omega) h2.1 hla
        have ht := tagT_nonneg a 0 (Int.le_refl _) h2.1
        have e2 := put_of (show dpT b ≤ 4 by omega) (right_mono ht.2 h2.2) hlb
        rw [e1] at ha
        rw [e2] at hb
        rcases h with h | h
        · exact h (Prod.mk.inj ha).2.symm
        · exact h (Prod.mk.inj hb).2.symm
  · exact ⟨g, hg, by rw [put_len hp hg]⟩
theorem put_app_ok {a b : Te} {x y : List UInt8} (ha : putT a = (x, 0)) (hb : putT b = (y, 0)) (h : rightT b (tagT a 0) = true) : putT (appT a b) = (x ++ y, 0) := by
  obtain ⟨a1, a2, a3⟩ := put_ok ha
  obtain ⟨b1, b2, b3⟩ := put_ok hb
  refine put_of (by rw [dpT_app]; omega) (by rw [right_app, a2, h]; rfl) (by rw [lay_app, a3, b3])
theorem put_app_tag {a b : Te} {x y : List UInt8} (ha : putT a = (x, 0)) (hb : putT b = (y, 0)) (h : rightT b (tagT a 0) = false) : putT (appT a b) = ([], 2) := by
  obtain ⟨a1, a2, a3⟩ := put_ok ha
  obtain ⟨b1, b2, b3⟩ := put_ok hb
  unfold putT
  rw [dpT_app, right_app, h, Bool.and_false, if_neg (by omega), if_neg (by decide)]
theorem get_app_tag {a : Te} {t : Int} {bs : List UInt8} {f r : Te} {x y : List UInt8} (ha : putT a = (x, 0)) (hb : putT (.cons t bs f r) = (y, 0)) (h : t ≤ tagT a 0) : get (x ++ y) 0 0 = (.nil, 12) := by
  obtain ⟨a1, a2, a3⟩ := put_ok ha
  obtain ⟨b1, b2, b3⟩ := put_ok hb
  obtain ⟨⟨h1, h2, _⟩, _, _⟩ := right_cons b2
  obtain ⟨b, c, _, _, _, rfl⟩ := lay_cons b3
  rw [get_lay a 0 0 x _ (by omega) (by omega) a2 a3, rowT, List.cons_append, get_form (by omega) (by rw [toNat_of (by omega) h2]; exact h), appR_err _ _ (by decide)]
/-- A beginning that ends within the last element. -/
theorem get_cut {a : Te} {t : Int} {bs : List UInt8} {f : Te} {x last : List UInt8} {k : Nat} (hb : putT (appT a (.cons t bs f .nil)) = (x, 0)) (hl : putT (.cons t bs f .nil) = (last, 0)) (h1 : x.length - last.length < k) (h2 : k < x.length) : get (x.take k) 0 0 = (.nil, 10) := by
  obtain ⟨b1, b2, b3⟩ := put_ok hb
  obtain ⟨l1, l2, l3⟩ := put_ok hl
  rw [lay_app, l3] at b3
  rw [right_app, Bool.and_eq_true] at b2
  rw [dpT_app] at b1
  cases ha : layT a with
  | none => rw [ha] at b3; cases b3
  | some p =>
    rw [ha] at b3
    obtain rfl := Option.some.inj b3
    obtain ⟨⟨c1, c2, _⟩, _, _⟩ := right_cons b2.2
    obtain ⟨b, c, hf, hlen, hc, rfl⟩ := lay_cons l3
    rw [layT] at hc
    obtain rfl := Option.some.inj hc
    have ht := tagT_nonneg a 0 (Int.le_refl _) b2.1
    rw [List.append_nil] at h1 h2 ⊢
    rw [List.length_append] at h1 h2
    have hrl : (rowT t (bodyT t bs b)).length = (bodyT t bs b).length + 2 := rfl
    rw [List.take_append, List.take_of_length_le (by omega), get_lay a 0 0 p _ (by omega) (by omega) b2.1 ha]
    obtain ⟨j, hj⟩ : ∃ j, k - p.length = j + 1 := ⟨k - p.length - 1, by omega⟩
    rw [hj, rowT, List.take_succ_cons]
    cases j with
    | zero =>
      rw [List.take_zero, get_short1 (by omega) (by rw [toNat_of (by omega) c2]; exact c1), appR_err _ _ (by decide)]
    | succ j =>
      rw [List.take_succ_cons, get_short (by omega) (by rw [toNat_of (by omega) c2]; exact c1) (by rw [toNat_len hlen, List.length_take]; omega), appR_err _ _ (by decide)]
end Go.Proofs.Ytlheianbmpgefaa
