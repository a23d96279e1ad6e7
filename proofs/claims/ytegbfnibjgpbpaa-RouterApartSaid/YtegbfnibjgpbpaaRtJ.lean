/- The router's contracts by contents; the document's example. -/
import Derived.Test.YtegbfnibjgpbpaaRtI
namespace Go.Proofs.Ytegbfnibjgpbpaa
open Go Go.Proofs
set_option maxRecDepth 100000
set_option maxHeartbeats 4000000
set_option linter.unusedSimpArgs false
theorem cQ_row {Q : List Qu} {t : Nat} (h : t < Q.length) : (cQ Q).getD t [] = (Q.getD t default).2.map cm := cQ_get (sv := (Q.getD t default).1) h rfl
theorem wait_rel {C : List (List Cm)} {L : List Ms} (h : RelC C L) (to : Int) : waitC C to = (wt to L).map cm := by
  unfold waitC
  split
  · rename_i hb
    obtain ⟨t, rfl⟩ := Int.eq_ofNat_of_zero_le hb.1
    rw [Int.toNat_natCast]
    exact h.row t (by omega)
  · rename_i hb
    rw [wt_none fun m hm e => hb (by rw [← e]; exact h.inn m hm)]
    rfl
theorem row_len {Q : List Qu} {room : Int} {t : Nat} {sv : SV} {ms : List Ms} (hl : RowB room (cQ Q)) (ht : t < Q.length) (hq : Q.getD t default = (sv, ms)) : (ms.length : Int) ≤ room := by
  have := hl t (by rw [cQ_len]; exact ht)
  rwa [cQ_row ht, hq, List.length_map] at this
section
variable {w0 : World} {A : Asn} {p n : Nat} {qv : Value} {room ref : Int} {Q : List Qu}
theorem s46 {to e xk xf xt xo : Int} {xb : List UInt8} {C2 : List (List Cm)} (h : nextC (cQ Q) to = ((xk, xf, xt, xo, xb), e, C2)) (hn : Q.length = n) (hl : RowB room (cQ Q)) (hr : room ≤ 16) : Spec Try.prog w0 46 [.pointer (some ⟨p, 0, none⟩), .int .i64 to] (A * pts p (.cells #[qv, .int .i64 room, .int .i64 ref] 119 (0, 0)) * own 123 1 qv n (Fl encT123 (Q)) * ownsQ (Q)) (fun v' A' => ∃ (sv : SV) (Q2 : List Qu) (J : Asn), v' = .tuple #[.agg (encT82 (xk, xf, xt, sv, xo, xb)).toArray, .int .i64 e] ∧ Q2.length = n ∧ cQ Q2 = C2 ∧ A' = A * J * own 5 1 sv.1 xb.length (B xb) * pts p (.cells #[qv, .int .i64 room, .int .i64 ref] 119 (0, 0)) * own 123 1 qv n (Fl encT123 (Q2)) * ownsQ (Q2)) := by
  have hz : own 5 1 (Value.slice none 0 0) 0 (B []) = emp := own_nil_eq _ _
  unfold nextC at h
  rw [cQ_len] at h
  rcases Decidable.em (0 ≤ to ∧ to < (Q.length : Int)) with hb | hb
  · rw [if_pos hb] at h
    obtain ⟨t, rfl⟩ := Int.eq_ofNat_of_zero_le hb.1
    have ht : t < Q.length := by omega
    rw [Int.toNat_natCast, cQ_row ht] at h
    obtain ⟨⟨sv, ms⟩, hq⟩ : ∃ q, Q.getD t default = q := ⟨_, rfl⟩
    have hrl := row_len hl ht hq
    rw [hq] at h
    cases ms with
    | nil =>
      cases h
      refine (nextB hn (by omega) hq).mono ?_
      rintro v' A' ⟨J, rfl, rfl⟩
      exact ⟨⟨.slice none 0 0, rfl⟩, Q, J, rfl, hn, rfl, by rw [List.length_nil, hz, sep_emp]⟩
    | cons m r =>
      obtain ⟨mk, mf, mt, msv, mo, mb⟩ := m
      cases h
      rw [List.length_cons] at hrl
      refine (nextC1 hn (by omega) hq (by omega)).mono ?_
      rintro v' A' ⟨sv2, J, rfl, rfl⟩
      exact ⟨msv, Q.set t (sv2, r), J, rfl, by rw [List.length_set]; exact hn, cQ_set sv2 r, rfl⟩
  · rw [if_neg hb] at h
    cases h
    refine (nextA (by rw [← hn]; exact hb)).mono ?_
    rintro v' A' ⟨J, rfl, rfl⟩
    exact ⟨⟨.slice none 0 0, rfl⟩, Q, J, rfl, hn, rfl, by rw [List.length_nil, hz, sep_emp]⟩
theorem s49 {to : Int} {W : List Cm} (hW : waitC (cQ Q) to = W) (hn : Q.length = n) (hl : RowB room (cQ Q)) (hr : room ≤ 16) (hbd : ∀ m ∈ W, m.2.2.2.2.length ≤ 140737488351232) : Spec Try.prog w0 49 [.pointer (some ⟨p, 0, none⟩), .int .i64 to] (A * pts p (.cells #[qv, .int .i64 room, .int .i64 ref] 119 (0, 0)) * own 123 1 qv n (Fl encT123 (Q)) * ownsQ (Q)) (fun v' A' => ∃ (ys : List Ms) (J : Asn), ys.map cm = W ∧ A' = A * J * pts p (.cells #[qv, .int .i64 room, .int .i64 ref] 119 (0, 0)) * own 123 1 qv n (Fl encT123 (Q)) * ownsQ (Q) * own 82 5 v' ys.length (Fl encT82 ys) * ownsM ys) := by
  have hz : own 82 5 (Value.slice none 0 0) 0 (Fl encT82 ([] : List Ms)) = emp := own_nil_eq _ _
  subst hW
  unfold waitC at hbd ⊢
  rw [cQ_len] at hbd ⊢
  rcases Decidable.em (0 ≤ to ∧ to < (Q.length : Int)) with hb | hb
  · rw [if_pos hb] at hbd
    rw [if_pos hb]
    obtain ⟨t, rfl⟩ := Int.eq_ofNat_of_zero_le hb.1
    have ht : t < Q.length := by omega
    rw [Int.toNat_natCast, cQ_row ht] at hbd ⊢
    obtain ⟨⟨sv, ms⟩, hq⟩ : ∃ q, Q.getD t default = q := ⟨_, rfl⟩
    have hrl := row_len hl ht hq
    rw [hq] at hbd ⊢
    dsimp only at hbd ⊢
    exact waitB hn (by omega) hq (by omega) fun m hm => hbd (cm m) (List.mem_map_of_mem hm)
  · rw [if_neg hb]
    refine (waitA (by rw [← hn]; exact hb)).mono ?_
    rintro v' A' ⟨J, rfl, rfl⟩
    exact ⟨[], J, rfl, by rw [List.length_nil, hz, ownsM_nil, sep_emp, sep_emp]⟩
theorem s47 {D : Asn} {lv : Value} {ops : Int} {L : List Ms} {to e xk xf xt xo : Int} {xb : List UInt8} {C C2 : List (List Cm)} (h : nextC C to = ((xk, xf, xt, xo, xb), e, C2)) (rel : RelC C L) (hn : (C.length : Int) = ops + 1) (hl : L.length ≤ 1048576) (al : ∀ m ∈ L, GM w0 D m) : Spec Try.prog w0 47 [.pointer (some ⟨p, 0, none⟩), .int .i64 to] (A * pts p (.cells #[.int .i64 (ops), .int .i64 (room), .int .i64 (ref), lv] 72 (0, 0)) * own 82 5 lv (L).length (Fl encT82 (L))) (fun v' A' => ∃ (sv : SV) (lv2 : Value) (L2 : List Ms) (J : Asn), v' = .tuple #[.agg (encT82 (xk, xf, xt, sv, xo, xb)).toArray, .int .i64 e] ∧ RelC C2 L2 ∧ Alls (GM w0) D L2 ∧ Rd w0 D sv.1 1 xb.length (B xb) ∧ (∀ m ∈ L2, m ∈ L) ∧ A' = A * J * pts p (.cells #[.int .i64 (ops), .int .i64 (room), .int .i64 (ref), lv2] 72 (0, 0)) * own 82 5 lv2 (L2).length (Fl encT82 (L2))) := by
  unfold nextC at h
  rcases Decidable.em (0 ≤ to ∧ to < (C.length : Int)) with hb | hb
  · rw [if_pos hb] at h
    obtain ⟨t, rfl⟩ := Int.eq_ofNat_of_zero_le hb.1
    have ht : t < C.length := by omega
    rw [Int.toNat_natCast, rel.row t ht] at h
    cases hw : wt (t : Int) L with
    | nil =>
      rw [hw] at h
      cases h
      refine (rnextB (by omega) (by omega) hl (wt_nil hw)).mono ?_
      rintro v' A' ⟨J, rfl, rfl⟩
      exact ⟨⟨.slice none 0 0, rfl⟩, lv, L, J, rfl, rel, ⟨al⟩, Rd.nil 1, fun m hm => hm, rfl⟩
    | cons m r =>
      rw [hw] at h
      obtain ⟨mk, mf, mt, msv, mo, mb⟩ := m
      cases h
      obtain ⟨q, h1, h2, h3, h4, h5, h6⟩ := wt_first hw
      refine (rnextC (by omega) (by omega) hl h1 h2 h3 h4).mono ?_
      rintro v' A' ⟨lv2, J, rfl, rfl⟩
      refine ⟨msv, lv2, delM q L, J, rfl, ⟨fun s hs => ?_, fun m hm => ?_⟩, ⟨fun m hm => al m (delM_mem hm)⟩, ?_, fun m hm => delM_mem hm, rfl⟩
      · rw [List.length_set] at hs
        rcases Decidable.em (s = t) with e | e
        · subst e
          rw [List.getD_eq_getElem?_getD, List.getElem?_set_self ht, h5]
          rfl
        · rw [List.getD_eq_getElem?_getD, List.getElem?_set_ne (fun e2 => e e2.symm), ← List.getD_eq_getElem?_getD, rel.row s hs, h6 s (by omega)]
      · rw [List.length_set]
        exact rel.inn m (delM_mem hm)
      · have := al _ (h2 ▸ getD_mem h1)
        exact this
  · rw [if_neg hb] at h
    cases h
    refine (rnextA (by omega)).mono ?_
    rintro v' A' ⟨J, rfl, rfl⟩
    exact ⟨⟨.slice none 0 0, rfl⟩, lv, L, J, rfl, rel, ⟨al⟩, Rd.nil 1, fun m hm => hm, rfl⟩
end
end Go.Proofs.Ytegbfnibjgpbpaa
