/- The law AuditParts: plain law and walk. -/
import Derived.Test.YteopadjihklkmaaAuZe
namespace Go.Proofs.Yteopadjihklkmaa
open Go Go.Proofs
set_option maxRecDepth 100000
set_option maxHeartbeats 4000000
set_option linter.unusedSimpArgs false
theorem shs_cut (ps : List Po) (k : Nat) : shs ps = shs (ps.take k) ++ shs (ps.drop k) := by
  have h := congrArg shs (List.take_append_drop k ps)
  rw [← h]
  simp only [shs, List.flatMap_append]
theorem sumsO_some : ∀ {R : List (List Int)} {o : List Int}, sumsO R = some o → o.length = R.length ∧ ∀ i, i < R.length → sumO 0 (R.getD i []) = some (o.getD i 0)
  | [], o, h => by cases h; exact ⟨rfl, fun i hi => by simp at hi⟩
  | r :: t, o, h => by
    rw [sumsO] at h
    cases hr : sumO 0 r with
    | none => rw [hr] at h; cases h
    | some z =>
      rw [hr] at h
      obtain ⟨o', ho, rfl⟩ := Option.map_eq_some_iff.1 h
      obtain ⟨h1, h2⟩ := sumsO_some ho
      refine ⟨by simp [h1], fun i hi => ?_⟩
      cases i with
      | zero => exact hr
      | succ i => exact h2 i (by simpa using hi)
theorem sumsO_of : ∀ {R : List (List Int)}, (∀ i, i < R.length → ∃ z, sumO 0 (R.getD i []) = some z) → ∃ o, sumsO R = some o
  | [], _ => ⟨[], rfl⟩
  | r :: t, h => by
    obtain ⟨z, hz⟩ := h 0 (by simp)
    obtain ⟨o, ho⟩ := sumsO_of (R := t) (fun i hi => h (i + 1) (by simpa using hi))
    refine ⟨z :: o, ?_⟩
    rw [sumsO, show sumO 0 r = some z from hz, ho]
    rfl
theorem totF_ok {n : Int} {l : List Sh} {o : List Int} : totF n l = (0, o) ↔ (1 ≤ n ∧ n ≤ 4 ∧ l.all (okT n) = true ∧ sumsO (rowsOf n.toNat l) = some o) := by
  unfold totF
  by_cases h : n < 1 ∨ 4 < n
  · rw [if_pos h]
    simp only [Prod.mk.injEq]
    constructor
    · rintro ⟨h1, _⟩; cases h1
    · rintro ⟨h1, h2, _⟩; omega
  · rw [if_neg h]
    cases hb : l.all (okT n) with
    | false =>
      rw [if_neg (by decide)]
      constructor
      · intro h1; simp at h1
      · rintro ⟨_, _, h1, _⟩; cases h1
    | true =>
      rw [if_pos rfl]
      cases hs : sumsO (rowsOf n.toNat l) with
      | none =>
        constructor
        · intro h1; simp at h1
        · rintro ⟨_, _, _, h1⟩; cases h1
      | some o2 =>
        constructor
        · intro h1
          simp only [Prod.mk.injEq, true_and] at h1
          subst h1
          exact ⟨by omega, by omega, rfl, rfl⟩
        · rintro ⟨_, _, _, h1⟩
          cases h1
          rfl
theorem totF_bad {n : Int} {l : List Sh} {o : List Int} (h : totF n l = (2, o)) : n < 1 ∨ 4 < n ∨ l.all (okT n) = false := by
  unfold totF at h
  by_cases h1 : n < 1 ∨ 4 < n
  · omega
  · rw [if_neg h1] at h
    cases hb : l.all (okT n) with
    | false => exact .inr (.inr rfl)
    | true =>
      rw [hb, if_pos rfl] at h
      cases hs : sumsO (rowsOf n.toNat l) with
      | none => rw [hs] at h; simp at h
      | some o2 => rw [hs] at h; simp at h
theorem parts_tot {n e f g : Int} {a b c : List Int} {l m : List Sh} (h1 : totF n l = (e, a)) (h2 : totF n m = (f, b)) (h3 : totF n (l ++ m) = (g, c)) :
    (g = 0 → e = 0) ∧ (g = 2 → e = 0 → f ≠ 0) ∧ (e = 0 → f = 0 → g = 0 → c.length ≤ 4 ∧ c.length = a.length ∧ c.length = b.length ∧ ∀ i, i < c.length → c.getD i 0 = a.getD i 0 + b.getD i 0 ∧ inI (c.getD i 0)) := by
  refine ⟨fun hg => ?_, fun hg he hf => ?_, fun he hf hg => ?_⟩
  · subst hg
    obtain ⟨q1, q2, q3, q4⟩ := totF_ok.1 h3
    rw [List.all_append, Bool.and_eq_true] at q3
    obtain ⟨r1, r2⟩ := sumsO_some q4
    obtain ⟨o, ho⟩ := sumsO_of (R := rowsOf n.toNat l) (fun i hi => by
      rw [rowsOf_len] at hi
      have h4 := r2 i (by rw [rowsOf_len]; exact hi)
      rw [rowsOf_get hi, amts_append, sumO_append] at h4
      rw [rowsOf_get hi]
      cases hz : sumO 0 (amts ((i : Int) + 1) l) with
      | none => rw [hz] at h4; cases h4
      | some z => exact ⟨z, rfl⟩)
    have := totF_ok.2 ⟨q1, q2, q3.1, ho⟩
    rw [h1] at this
    exact (Prod.mk.inj this).1
  · subst hg he hf
    obtain ⟨q1, q2, q3, _⟩ := totF_ok.1 h1
    obtain ⟨_, _, q4, _⟩ := totF_ok.1 h2
    rcases totF_bad h3 with h | h | h
    · omega
    · omega
    · rw [List.all_append, q3, q4] at h
      cases h
  · subst he hf hg
    obtain ⟨_, _, _, q1⟩ := totF_ok.1 h1
    obtain ⟨_, _, _, q2⟩ := totF_ok.1 h2
    obtain ⟨_, n4, _, q3⟩ := totF_ok.1 h3
    obtain ⟨l1, s1⟩ := sumsO_some q1
    obtain ⟨l2, s2⟩ := sumsO_some q2
    obtain ⟨l3, s3⟩ := sumsO_some q3
    rw [rowsOf_len] at l1 l2 l3 s1 s2 s3
    refine ⟨by omega, by omega, by omega, fun i hi => ?_⟩
    have hin : i < n.toNat := by omega
    have t1 := s1 i hin
    have t2 := s2 i hin
    have t3 := s3 i hin
    rw [rowsOf_get hin] at t1 t2 t3
    have w := sumO_in ⟨by decide, by decide⟩ t3
    have v1 := sumO_val t1
    have v2 := sumO_val t2
    have v3 := sumO_val t3
    rw [amts_append, List.sum_append] at v3
    exact ⟨by omega, w⟩
theorem missF_two (ka kb : List (Int × Int)) (js : List Jn) : missF kb (missF ka js) = missF (ka ++ kb) js := by
  rw [missF, missF, missF, List.filter_filter]
  congr 1
  funext j
  unfold isThere
  by_cases h1 : (j.1, j.2.1) ∈ ka <;> by_cases h2 : (j.1, j.2.1) ∈ kb <;> simp [h1, h2]
end Go.Proofs.Yteopadjihklkmaa
