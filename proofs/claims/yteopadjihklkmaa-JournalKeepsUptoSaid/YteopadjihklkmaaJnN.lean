/- What a call that's cut short leaves; scripts. -/
import Derived.Test.YteopadjihklkmaaJnM
import Derived.Test.YteopadjihklkmaaMp
namespace Go.Proofs.Yteopadjihklkmaa
open Go Go.Proofs
set_option maxRecDepth 100000
set_option maxHeartbeats 4000000
set_option linter.unusedSimpArgs false
set_option linter.unusedVariables false
abbrev JOp := Int × Int × SV × List (Value × List UInt8)
def encT60 : JOp → List Value := fun (a, n, v, _) => [.int .i64 a, .int .i64 n, v.1]
instance : OneC encT60 := ⟨fun ⟨a, n, v, l⟩ u hu => by
  simp only [encT60, List.mem_cons, List.not_mem_nil, or_false] at hu
  rcases hu with rfl | rfl | rfl
  · rfl
  · rfl
  · exact v.2⟩
structure JOk (w0 : World) (o : JOp) : Prop where
  rd : Rd w0 (old w0) o.2.2.1.1 1 o.2.2.2.length (Fl encV o.2.2.2)
  al : Alls (GB w0) (old w0) o.2.2.2
  nm : o.2.2.2.length ≤ 1048576
  lo : -9223372036854775808 ≤ o.2.1
  hi : o.2.1 ≤ 9223372036854775807
theorem Wr.split {s w M : Int} {bs : List UInt8} {k : UInt8} {C : Cn} {l : List (List UInt8)} (hw : w ≤ M) :
    (l.all fine = true ∧ ((bs ++ rowsB k l).length : Int) ≤ s ∧ ∃ w2, w2 ≤ M ∧ Wr s w bs false k C l 0 (bs ++ rowsB k l) w2 false (takesC k C l)) ∨
    Wr s w bs false k C l 11 bs w false C ∨ Wr s w bs false k C l 20 bs w false C ∨
    (l.all fine = true ∧ ((bs ++ rowsB k l).length : Int) ≤ s ∧ w.toNat < (rowsB k l).length ∧ Wr s w bs false k C l 30 (bs ++ (rowsB k l).take w.toNat) 0 true C) := by
  cases h : l.all fine with
  | false => exact .inr (.inl (Wr.long h))
  | true =>
    rcases Int.lt_or_le (s - bs.length) (rowsB k l).length with hf | hf
    · exact .inr (.inr (.inl (Wr.full h hf)))
    · have hl : ((bs ++ rowsB k l).length : Int) ≤ s := by rw [List.length_append]; omega
      rcases Decidable.em (0 ≤ w ∧ w < (rowsB k l).length) with ht | ht
      · refine .inr (.inr (.inr ⟨rfl, hl, by omega, ⟨?_⟩⟩))
        rw [writeF, if_neg (by decide), if_neg (by rw [h]; decide), if_neg (by omega), if_pos ht]
      · refine .inl ⟨rfl, hl, if 0 ≤ w then w - (rowsB k l).length else w, by split <;> omega, ⟨?_⟩⟩
        rw [writeF, if_neg (by decide), if_neg (by rw [h]; decide), if_neg (by omega), if_neg ht]
theorem cut_of (d : List UInt8) : (says (d.take (says d).2)).2 = (d.take (says d).2).length ∧ contC (d.take (says d).2) = contC d ∧ (d.take (says d).2).length ≤ d.length := by
  obtain ⟨h, _⟩ := says_facts d.length d (Nat.le_refl _)
  exact ⟨by rw [says_cut, List.length_take, Nat.min_eq_left h], by rw [contC, says_cut, contC], by rw [List.length_take]; omega⟩
theorem Tidy.torn {f : List UInt8} {C : Cn} {k : UInt8} {l : List (List UInt8)} {j : Nat} (h : Tidy f C) (hk : k.toNat = 1 ∨ k.toNat = 2) (hf : l.all fine = true) (hj : j < (rowsB k l).length) :
    ∃ q, q < l.length ∧ contC (f ++ (rowsB k l).take j) = takesC k C (l.take q) ∧ Tidy ((f ++ (rowsB k l).take j).take (says (f ++ (rowsB k l).take j)).2) (takesC k C (l.take q)) ∧ ((f ++ (rowsB k l).take j).take (says (f ++ (rowsB k l).take j)).2).length ≤ (f ++ rowsB k l).length ∧ (f ++ (rowsB k l).take j).length ≤ (f ++ rowsB k l).length := by
  obtain ⟨q, h1, h2, h3⟩ := says_torn hk hf hj
  have hs := says_pre f.length f ((rowsB k l).take j) (Nat.le_refl _)
  rw [h.len, List.take_of_length_le (Nat.le_refl _), h3] at hs
  have hc : contC (f ++ (rowsB k l).take j) = takesC k C (l.take q) := by
    rw [contC, hs]
    dsimp only
    rw [List.foldl_append, List.foldl_map, show (says f).1.foldl takeC c0 = C from h.cont]
    rfl
  obtain ⟨c1, c2, c3⟩ := cut_of (f ++ (rowsB k l).take j)
  have hl : (f ++ (rowsB k l).take j).length ≤ (f ++ rowsB k l).length := by rw [List.length_append, List.length_append, List.length_take]; omega
  exact ⟨q, h1, hc, ⟨c1, by rw [c2, hc]⟩, Nat.le_trans c3 hl, hl⟩
end Go.Proofs.Yteopadjihklkmaa
