/- The pool's Sweep, its closures; the document's Only and Without. -/
import Derived.Test.YtegbfnibjgpbpaaLkC
namespace Go.Proofs.Ytegbfnibjgpbpaa
open Go Go.Proofs
set_option maxRecDepth 100000
set_option maxHeartbeats 4000000
section
variable {w0 : World} {A : Asn} {p : Nat} {v : Value} {ss : List (List UInt8)}
def only (s : List UInt8) (b : Bool) (xs : List (List UInt8)) : List (List UInt8) := xs.filter fun x => decide (x = s) == b
theorem only_le (s : List UInt8) (b : Bool) (xs : List (List UInt8)) : (only s b xs).length ≤ xs.length := List.length_filter_le _ _
theorem filter_next {f : List UInt8 → Bool} {xs : List (List UInt8)} {i : Nat} (h : i < xs.length) : (xs.take (i + 1)).filter f = (xs.take i).filter f ++ (if f (xs.getD i default) then [xs.getD i default] else []) := by
  rw [take_next h, List.filter_append]
  congr 1
  generalize xs.getD i default = x
  cases hf : f x <;> simp [hf]
theorem only_T {s : List UInt8} {b : Bool} {xs : List (List UInt8)} {i : Nat} (h : i < xs.length) (hx : (decide (xs.getD i default = s) == b) = true) : only s b (xs.take (i + 1)) = only s b (xs.take i) ++ [xs.getD i default] := by
  have := filter_next (f := fun x => decide (x = s) == b) h
  rw [if_pos hx] at this
  exact this
theorem only_F {s : List UInt8} {b : Bool} {xs : List (List UInt8)} {i : Nat} (h : i < xs.length) (hx : ¬ (decide (xs.getD i default = s) == b) = true) : only s b (xs.take (i + 1)) = only s b (xs.take i) := by
  have := filter_next (f := fun x => decide (x = s) == b) h
  rw [if_neg hx, List.append_nil] at this
  exact this
theorem s18 {u : Value} {s : List UInt8} {b : Bool} {xs : List (List UInt8)} (rd : Rd w0 A u 1 xs.length (Fl encS xs)) (hs : xs.length ≤ 4194304) :
    Spec Try.prog w0 18 [u, S s, .bool b] A (fun v' A' => ∃ J, A' = A * J * own 9 1 v' (only s b xs).length (Fl encS (only s b xs))) := by
  refine Spec.of_run [(0, u), (1, S s), (2, .bool b)] Try.func18 rfl (Nat.le_of_ble_eq_true rfl) (by repeat (first | exact trivial | refine ⟨rfl, ?_⟩)) ?_
  refine Run.seq ?_
  refine Run.region ?_
  refine RunL.ok (OpOk.assign rfl) rfl ?_
  refine RunL.nil ?_
  refine Run.seq ?_
  refine Run.region ?_
  refine RunL.ok (OpOk.assign rfl) rfl ?_
  refine RunL.nil ?_
  refine Run.seq ?_
  refine Run.seq ?_
  refine Run.region ?_
  refine RunL.ok (OpOk.assign rfl) rfl ?_
  refine RunL.nil ?_
  refine Run.block ?_
  refine Run.ownNilE 9 1 ?_
  refine Run.jump ((Run.loopJ (X := Nat × Asn × Value × Nat × List (List UInt8)) (fun x => [(8, .int .i64 (x.1 : Int)), (7, x.2.2.1), (0, u), (1, S s), (2, .bool b)]) (fun x => A * x.2.1 * own 9 1 x.2.2.1 x.2.2.2.1 (Fl encS x.2.2.2.2)) (fun x => x.1 ≤ xs.length ∧ x.2.2.2.1 = x.2.2.2.2.length ∧ x.2.2.2.2 = only s b (xs.take x.1)) (fun x => xs.length - x.1) (0, _, .slice none 0 0, 0, []) ⟨Nat.zero_le _, rfl, rfl⟩ (fun x hx ih => ?_))) ⟨rfl, rfl, rfl, rfl, rfl, trivial⟩ (Grew.of (Eq.trans (frc rfl rfl) (congrArg (· * _) as1)) (Grew.refl _))
  obtain ⟨i, J, v7, m, ys⟩ := x
  simp only at hx ih ⊢
  obtain ⟨hi1, hm, hys⟩ := hx
  have hyl : m ≤ i := by
    have := only_le s b (xs.take i)
    rw [← hys, List.length_take] at this
    omega
  rcases Nat.lt_or_ge i xs.length with hlt | hge
  · refine Run.seq ?_
    refine Run.seq ?_
    refine Run.region ?_
    refine RunL.ok (OpOk.move rfl) rfl ?_
    refine RunL.ok (OpOk.move rfl) rfl ?_
    refine RunL.ok (OpOk.lenR rfl rfl rd.left.left rfl) rfl ?_
    refine RunL.ok (OpOk.asT (OpOk.lss rfl rfl) (by omega)) rfl ?_
    refine RunL.nil ?_
    refine Run.condT rfl ?_
    refine Run.skip ?_
    refine Run.seq ?_
    refine Run.block ?_
    refine Run.seq ?_
    refine Run.region ?_
    refine RunL.ok (OpOk.move rfl) rfl ?_
    refine RunL.ok (OpOk.move rfl) rfl ?_
    refine RunL.ok (OpOk.idx1N rfl ti9 rfl rd.left.left rfl (by omega)) rfl ?_
    refine RunL.ok (OpOk.loadStr rfl rfl rfl rd.left.left (by omega)) rfl ?_
    refine RunL.ok (OpOk.move rfl) rfl ?_
    refine RunL.ok (OpOk.eqlSS rfl rfl) rfl ?_
    refine RunL.ok (OpOk.move rfl) rfl ?_
    refine RunL.splitD (t := 20) rfl (fun y1 => ?_) (fun y1 => ?_)
    · refine RunL.splitB (t := 21) rfl (fun y3 => ?_) (fun y3 => ?_)
      · refine RunL.ok (OpOk.eqlB rfl rfl rfl) rfl ?_
        refine RunL.nil ?_
        refine Run.condT rfl ?_
        refine Run.region ?_
        refine RunL.ok (OpOk.move rfl) rfl ?_
        refine RunL.ok (OpOk.move rfl) rfl ?_
        refine RunL.ok (OpOk.move rfl) rfl ?_
        refine RunL.ok (OpOk.idx1N rfl ti9 rfl rd.left.left rfl (by omega)) rfl ?_
        refine RunL.ok (OpOk.loadStr rfl rfl rfl rd.left.left (by omega)) rfl ?_
        refine RunL.litS (ss := [xs.getD i default]) rfl ti9 rfl rfl rfl (by decide) rfl (fun vy6 rdy6 => ?_)
        refine RunL.know (fun w s => (s.conv rfl).ownRd0) (fun rdy8 => ?_)
        refine RunL.appendF rfl ti9 rfl rfl rfl (frl rfl) (Rd.right rdy8) rfl (by decide) (by omega) (by simp only [maxLen]; omega) rfl (fun vy7 rdy7 => ?_)
        refine RunL.ok (OpOk.assign rfl) rfl ?_
        refine RunL.nil ?_
        refine Run.inBlock ?_
        refine Run.region ?_
        refine RunL.ok (OpOk.move rfl) rfl ?_
        refine RunL.ok (OpOk.addN _ 1 rfl rfl rfl rfl (by omega)) rfl ?_
        refine RunL.ok (OpOk.assign rfl) rfl ?_
        refine RunL.nil ?_
        have e := only_T (b := b) (s := s) hlt (by rw [decide_eq_true y1, (by assumption : b = true)]; decide)
        refine Run.jump ((ih (i + 1, _, _, _, ys ++ [xs.getD i default]) ⟨by dsimp only; omega, by simp [hm], by dsimp only; rw [e, hys]⟩ (by dsimp only; omega))) ⟨rfl, rfl, rfl, rfl, rfl, trivial⟩ (Grew.of (congrArg (· * _) (asg as1)) (Grew.refl _))
      refine RunL.ok (OpOk.eqlB rfl rfl rfl) rfl ?_
      refine RunL.nil ?_
      refine Run.condF rfl ?_
      refine Run.skip ?_
      refine Run.inBlock ?_
      refine Run.region ?_
      refine RunL.ok (OpOk.move rfl) rfl ?_
      refine RunL.ok (OpOk.addN _ 1 rfl rfl rfl rfl (by omega)) rfl ?_
      refine RunL.ok (OpOk.assign rfl) rfl ?_
      refine RunL.nil ?_
      have e := only_F (b := b) (s := s) hlt (by rw [decide_eq_true y1, (by assumption : b = false)]; decide)
      refine Run.jump ((ih (i + 1, _, _, _, ys) ⟨by dsimp only; omega, hm, by dsimp only; rw [e, hys]⟩ (by dsimp only; omega))) ⟨rfl, rfl, rfl, rfl, rfl, trivial⟩ (Grew.of (congrArg (· * _) as1) (Grew.refl _))
    refine RunL.splitB (t := 21) rfl (fun y12 => ?_) (fun y12 => ?_)
    · refine RunL.ok (OpOk.eqlB rfl rfl rfl) rfl ?_
      refine RunL.nil ?_
      refine Run.condF rfl ?_
      refine Run.skip ?_
      refine Run.inBlock ?_
      refine Run.region ?_
      refine RunL.ok (OpOk.move rfl) rfl ?_
      refine RunL.ok (OpOk.addN _ 1 rfl rfl rfl rfl (by omega)) rfl ?_
      refine RunL.ok (OpOk.assign rfl) rfl ?_
      refine RunL.nil ?_
      have e := only_F (b := b) (s := s) hlt (by rw [decide_eq_false y1, (by assumption : b = true)]; decide)
      refine Run.jump ((ih (i + 1, _, _, _, ys) ⟨by dsimp only; omega, hm, by dsimp only; rw [e, hys]⟩ (by dsimp only; omega))) ⟨rfl, rfl, rfl, rfl, rfl, trivial⟩ (Grew.of (congrArg (· * _) as1) (Grew.refl _))
    refine RunL.ok (OpOk.eqlB rfl rfl rfl) rfl ?_
    refine RunL.nil ?_
    refine Run.condT rfl ?_
    refine Run.region ?_
    refine RunL.ok (OpOk.move rfl) rfl ?_
    refine RunL.ok (OpOk.move rfl) rfl ?_
    refine RunL.ok (OpOk.move rfl) rfl ?_
    refine RunL.ok (OpOk.idx1N rfl ti9 rfl rd.left.left rfl (by omega)) rfl ?_
    refine RunL.ok (OpOk.loadStr rfl rfl rfl rd.left.left (by omega)) rfl ?_
    refine RunL.litS (ss := [xs.getD i default]) rfl ti9 rfl rfl rfl (by decide) rfl (fun vy17 rdy17 => ?_)
    refine RunL.know (fun w s => (s.conv rfl).ownRd0) (fun rdy19 => ?_)
    refine RunL.appendF rfl ti9 rfl rfl rfl (frl rfl) (Rd.right rdy19) rfl (by decide) (by omega) (by simp only [maxLen]; omega) rfl (fun vy18 rdy18 => ?_)
    refine RunL.ok (OpOk.assign rfl) rfl ?_
    refine RunL.nil ?_
    refine Run.inBlock ?_
    refine Run.region ?_
    refine RunL.ok (OpOk.move rfl) rfl ?_
    refine RunL.ok (OpOk.addN _ 1 rfl rfl rfl rfl (by omega)) rfl ?_
    refine RunL.ok (OpOk.assign rfl) rfl ?_
    refine RunL.nil ?_
    have e := only_T (b := b) (s := s) hlt (by rw [decide_eq_false y1, (by assumption : b = false)]; decide)
    refine Run.jump ((ih (i + 1, _, _, _, ys ++ [xs.getD i default]) ⟨by dsimp only; omega, by simp [hm], by dsimp only; rw [e, hys]⟩ (by dsimp only; omega))) ⟨rfl, rfl, rfl, rfl, rfl, trivial⟩ (Grew.of (congrArg (· * _) (asg as1)) (Grew.refl _))
  · obtain rfl : i = xs.length := by omega
    clear ih
    rw [List.take_of_length_le (Nat.le_refl _)] at hys
    subst hys hm
    refine Run.seq ?_
    refine Run.seq ?_
    refine Run.region ?_
    refine RunL.ok (OpOk.move rfl) rfl ?_
    refine RunL.ok (OpOk.move rfl) rfl ?_
    refine RunL.ok (OpOk.lenR rfl rfl rd.left.left rfl) rfl ?_
    refine RunL.ok (OpOk.asF (OpOk.lss rfl rfl) (by omega)) rfl ?_
    refine RunL.nil ?_
    refine Run.condF rfl ?_
    refine Run.exit rfl ?_
    refine Run.seq ?_
    refine Run.region ?_
    refine RunL.ok (OpOk.move rfl) rfl ?_
    refine RunL.ok (OpOk.assign rfl) rfl ?_
    refine RunL.nil ?_
    refine Run.ret1 Try.func18 rfl rfl ?_
    exact ⟨_, (congrArg (· * _) as1)⟩
theorem del_next {k i : Nat} {xs : List (List UInt8)} (h : i < xs.length) : del k (xs.take (i + 1)) = del k (xs.take i) ++ (if i = k then [] else [xs.getD i default]) := by
  rw [take_next h]
  have hl : (xs.take i).length = i := by rw [List.length_take]; omega
  simp only [del, List.take_append, List.drop_append, hl]
  by_cases h1 : i = k
  · subst h1
    simp
  · rw [if_neg h1]
    rcases Nat.lt_or_ge i k with h2 | h2
    · rw [List.take_of_length_le (l := xs.take i) (by omega), List.take_of_length_le (l := [xs.getD i default]) (by rw [List.length_singleton]; omega), List.drop_of_length_le (l := xs.take i) (by omega), List.drop_of_length_le (l := [xs.getD i default]) (by rw [List.length_singleton]; omega)]
      simp
    · rw [show k - i = 0 by omega, show k + 1 - i = 0 by omega]
      simp
theorem s27 {u : Value} {k : Nat} {xs : List (List UInt8)} (rd : Rd w0 A u 1 xs.length (Fl encS xs)) (hs : xs.length ≤ 4194304) :
    Spec Try.prog w0 27 [u, .int .i64 (k : Int)] A (fun v' A' => ∃ J, A' = A * J * own 9 1 v' (del k xs).length (Fl encS (del k xs))) := by
  refine Spec.of_run [(0, u), (1, .int .i64 (k : Int))] Try.func27 rfl (Nat.le_of_ble_eq_true rfl) (by repeat (first | exact trivial | refine ⟨rfl, ?_⟩)) ?_
  refine Run.seq ?_
  refine Run.region ?_
  refine RunL.ok (OpOk.assign rfl) rfl ?_
  refine RunL.nil ?_
  refine Run.seq ?_
  refine Run.region ?_
  refine RunL.ok (OpOk.assign rfl) rfl ?_
  refine RunL.nil ?_
  refine Run.seq ?_
  refine Run.seq ?_
  refine Run.region ?_
  refine RunL.ok (OpOk.assign rfl) rfl ?_
  refine RunL.nil ?_
  refine Run.block ?_
  refine Run.ownNilE 9 1 ?_
  refine Run.jump ((Run.loopJ (X := Nat × Asn × Value × Nat × List (List UInt8)) (fun x => [(6, .int .i64 (x.1 : Int)), (5, x.2.2.1), (0, u), (1, .int .i64 (k : Int))]) (fun x => A * x.2.1 * own 9 1 x.2.2.1 x.2.2.2.1 (Fl encS x.2.2.2.2)) (fun x => x.1 ≤ xs.length ∧ x.2.2.2.1 = x.2.2.2.2.length ∧ x.2.2.2.2 = del k (xs.take x.1)) (fun x => xs.length - x.1) (0, _, .slice none 0 0, 0, []) ⟨Nat.zero_le _, rfl, by simp [del]⟩ (fun x hx ih => ?_))) ⟨rfl, rfl, rfl, rfl, trivial⟩ (Grew.of (Eq.trans (frc rfl rfl) (congrArg (· * _) as1)) (Grew.refl _))
  obtain ⟨i, J, v7, m, ys⟩ := x
  simp only at hx ih ⊢
  obtain ⟨hi1, hm, hys⟩ := hx
  have hyl : m ≤ i := by
    have : ys.length ≤ i := by
      rw [hys, del, List.length_append, List.length_take, List.length_drop, List.length_take]
      omega
    omega
  rcases Nat.lt_or_ge i xs.length with hlt | hge
  · have e := del_next (k := k) hlt
    refine Run.seq ?_
    refine Run.seq ?_
    refine Run.region ?_
    refine RunL.ok (OpOk.move rfl) rfl ?_
    refine RunL.ok (OpOk.move rfl) rfl ?_
    refine RunL.ok (OpOk.lenR rfl rfl rd.left.left rfl) rfl ?_
    refine RunL.ok (OpOk.asT (OpOk.lss rfl rfl) (by omega)) rfl ?_
    refine RunL.nil ?_
    refine Run.condT rfl ?_
    refine Run.skip ?_
    refine Run.seq ?_
    refine Run.block ?_
    refine Run.seq ?_
    refine Run.region ?_
    refine RunL.ok (OpOk.move rfl) rfl ?_
    refine RunL.ok (OpOk.move rfl) rfl ?_
    refine RunL.ok (OpOk.neq rfl rfl) rfl ?_
    refine RunL.nil ?_
    refine Run.condN rfl (fun y1 => ?_) (fun y1 => ?_)
    · refine Run.region ?_
      refine RunL.ok (OpOk.move rfl) rfl ?_
      refine RunL.ok (OpOk.move rfl) rfl ?_
      refine RunL.ok (OpOk.move rfl) rfl ?_
      refine RunL.ok (OpOk.idx1N rfl ti9 rfl rd.left.left rfl (by omega)) rfl ?_
      refine RunL.ok (OpOk.loadStr rfl rfl rfl rd.left.left (by omega)) rfl ?_
      refine RunL.litS (ss := [xs.getD i default]) rfl ti9 rfl rfl rfl (by decide) rfl (fun vy2 rdy2 => ?_)
      refine RunL.know (fun w s => (s.conv rfl).ownRd0) (fun rdy4 => ?_)
      refine RunL.appendF rfl ti9 rfl rfl rfl (frl rfl) (Rd.right rdy4) rfl (by decide) (by omega) (by simp only [maxLen]; omega) rfl (fun vy3 rdy3 => ?_)
      refine RunL.ok (OpOk.assign rfl) rfl ?_
      refine RunL.nil ?_
      refine Run.inBlock ?_
      refine Run.region ?_
      refine RunL.ok (OpOk.move rfl) rfl ?_
      refine RunL.ok (OpOk.addN _ 1 rfl rfl rfl rfl (by omega)) rfl ?_
      refine RunL.ok (OpOk.assign rfl) rfl ?_
      refine RunL.nil ?_
      rw [if_neg (by omega : ¬ i = k)] at e
      refine Run.jump ((ih (i + 1, _, _, _, ys ++ [xs.getD i default]) ⟨by dsimp only; omega, by simp [hm], by dsimp only; rw [e, hys]⟩ (by dsimp only; omega))) ⟨rfl, rfl, rfl, rfl, trivial⟩ (Grew.of (congrArg (· * _) (asg as1)) (Grew.refl _))
    refine Run.skip ?_
    refine Run.inBlock ?_
    refine Run.region ?_
    refine RunL.ok (OpOk.move rfl) rfl ?_
    refine RunL.ok (OpOk.addN _ 1 rfl rfl rfl rfl (by omega)) rfl ?_
    refine RunL.ok (OpOk.assign rfl) rfl ?_
    refine RunL.nil ?_
    rw [if_pos (by omega : i = k), List.append_nil] at e
    refine Run.jump ((ih (i + 1, _, _, _, ys) ⟨by dsimp only; omega, hm, by dsimp only; rw [e, hys]⟩ (by dsimp only; omega))) ⟨rfl, rfl, rfl, rfl, trivial⟩ (Grew.of (congrArg (· * _) as1) (Grew.refl _))
  · obtain rfl : i = xs.length := by omega
    clear ih
    rw [List.take_of_length_le (Nat.le_refl _)] at hys
    subst hys hm
    refine Run.seq ?_
    refine Run.seq ?_
    refine Run.region ?_
    refine RunL.ok (OpOk.move rfl) rfl ?_
    refine RunL.ok (OpOk.move rfl) rfl ?_
    refine RunL.ok (OpOk.lenR rfl rfl rd.left.left rfl) rfl ?_
    refine RunL.ok (OpOk.asF (OpOk.lss rfl rfl) (by omega)) rfl ?_
    refine RunL.nil ?_
    refine Run.condF rfl ?_
    refine Run.exit rfl ?_
    refine Run.seq ?_
    refine Run.region ?_
    refine RunL.ok (OpOk.move rfl) rfl ?_
    refine RunL.ok (OpOk.assign rfl) rfl ?_
    refine RunL.nil ?_
    refine Run.ret1 Try.func27 rfl rfl ?_
    exact ⟨_, (congrArg (· * _) as1)⟩
end
end Go.Proofs.Ytegbfnibjgpbpaa
