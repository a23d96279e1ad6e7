/- The pool's functions. -/
import Derived.Test.YtegbfnibjgpbpaaLkA
namespace Go.Proofs.Ytegbfnibjgpbpaa
open Go Go.Proofs
set_option maxRecDepth 100000
set_option maxHeartbeats 4000000
theorem tmod_fix {i : Int} {n : Nat} (h : 0 < n) : (if Int.tmod i n < 0 then Int.tmod i n + n else Int.tmod i n) = i % (n : Int) := by
  have h1 := Int.tmod_eq_emod (a := i) (b := (n : Int))
  have h2 := Int.emod_nonneg i (show (n : Int) ≠ 0 by omega)
  have h3 := Int.emod_lt_of_pos i (show (0 : Int) < n by omega)
  split at h1 <;> split <;> omega
theorem tmod_fix2 {i : Int} {n : Nat} : (Int.tmod i n + n) % (n : Int) = i % (n : Int) := by
  have h1 := Int.tmod_eq_emod (a := i) (b := (n : Int))
  split at h1
  · rw [h1]
    simp
  · rw [h1]
    simp
section
variable {w0 : World} {A : Asn}
theorem s26 {i : Int} {n : Nat} (h : 0 < n) (hn : n ≤ 4611686018427387904) : Spec Try.prog w0 26 [.int .i64 i, .int .i64 (n : Int)] A (fun v' A' => v' = .int .i64 (i % (n : Int)) ∧ A' = A) := by
  have h1 := tmod_fix (i := i) h
  have h2 := Int.tmod_lt_of_pos i (show (0 : Int) < n by omega)
  have h3 := Int.lt_tmod_of_pos i (show (0 : Int) < n by omega)
  refine Spec.of_run [(0, .int .i64 i), (1, .int .i64 (n : Int))] Try.func26 rfl (Nat.le_of_ble_eq_true rfl) (by repeat (first | exact trivial | refine ⟨rfl, ?_⟩)) ?_
  rcases Int.lt_or_le (Int.tmod i n) 0 with hc | hc
  · rw [if_pos hc] at h1
    refine Run.seq ?_
    refine Run.region ?_
    refine RunL.ok (OpOk.assign rfl) rfl ?_
    refine RunL.nil ?_
    refine Run.seq ?_
    refine Run.region ?_
    refine RunL.ok (OpOk.move rfl) rfl ?_
    refine RunL.ok (OpOk.move rfl) rfl ?_
    refine RunL.ok (OpOk.rem rfl rfl (by omega) rfl) rfl ?_
    refine RunL.ok (OpOk.assign rfl) rfl ?_
    refine RunL.nil ?_
    refine Run.seq ?_
    refine Run.seq ?_
    refine Run.region ?_
    refine RunL.ok (OpOk.move rfl) rfl ?_
    refine RunL.ok (OpOk.asT (OpOk.lss rfl rfl) (by omega)) rfl ?_
    refine RunL.nil ?_
    refine Run.condT rfl ?_
    refine Run.region ?_
    refine RunL.ok (OpOk.move rfl) rfl ?_
    refine RunL.ok (OpOk.move rfl) rfl ?_
    refine RunL.ok (OpOk.add rfl rfl (wrapI (by omega) (by omega))) rfl ?_
    refine RunL.ok (OpOk.assign rfl) rfl ?_
    refine RunL.nil ?_
    refine Run.seq ?_
    refine Run.region ?_
    refine RunL.ok (OpOk.move rfl) rfl ?_
    refine RunL.ok (OpOk.assign rfl) rfl ?_
    refine RunL.nil ?_
    refine Run.ret1 Try.func26 rfl rfl ?_
    exact ⟨by rw [← h1], rfl⟩
  · rw [if_neg (by omega)] at h1
    refine Run.seq ?_
    refine Run.region ?_
    refine RunL.ok (OpOk.assign rfl) rfl ?_
    refine RunL.nil ?_
    refine Run.seq ?_
    refine Run.region ?_
    refine RunL.ok (OpOk.move rfl) rfl ?_
    refine RunL.ok (OpOk.move rfl) rfl ?_
    refine RunL.ok (OpOk.rem rfl rfl (by omega) rfl) rfl ?_
    refine RunL.ok (OpOk.assign rfl) rfl ?_
    refine RunL.nil ?_
    refine Run.seq ?_
    refine Run.seq ?_
    refine Run.region ?_
    refine RunL.ok (OpOk.move rfl) rfl ?_
    refine RunL.ok (OpOk.asF (OpOk.lss rfl rfl) (by omega)) rfl ?_
    refine RunL.nil ?_
    refine Run.condF rfl ?_
    refine Run.skip ?_
    refine Run.seq ?_
    refine Run.region ?_
    refine RunL.ok (OpOk.move rfl) rfl ?_
    refine RunL.ok (OpOk.assign rfl) rfl ?_
    refine RunL.nil ?_
    refine Run.ret1 Try.func26 rfl rfl ?_
    exact ⟨by rw [← h1], rfl⟩
variable {p : Nat} {v : Value} {ss : List (List UInt8)}
theorem s57 {i : Int} (h : 0 < ss.length) (hn : ss.length ≤ 4611686018427387904) : Spec Try.prog w0 57 [.pointer (some ⟨p, 0, none⟩), .int .i64 i] (A * pts p (.cells #[v] 26 (0, 0)) * own 9 1 v (ss).length (Fl encS (ss))) (fun v' A' => v' = .tuple #[.int .i64 (i % (ss.length : Int)), .bool true] ∧ A' = A * pts p (.cells #[v] 26 (0, 0)) * own 9 1 v (ss).length (Fl encS (ss))) := by
  have h1 := tmod_fix2 (i := i) (n := ss.length)
  have h2 := Int.tmod_lt_of_pos i (show (0 : Int) < ss.length by omega)
  have h3 := Int.lt_tmod_of_pos i (show (0 : Int) < ss.length by omega)
  refine Spec.of_run [(0, .pointer (some ⟨p, 0, none⟩)), (1, .int .i64 i)] Try.func57 rfl (Nat.le_of_ble_eq_true rfl) (by repeat (first | exact trivial | refine ⟨rfl, ?_⟩)) ?_
  refine Run.seq ?_
  refine Run.region ?_
  refine RunL.ok (OpOk.assign rfl) rfl ?_
  refine RunL.ok (OpOk.assign rfl) rfl ?_
  refine RunL.nil ?_
  refine Run.seq ?_
  refine Run.region ?_
  refine RunL.ok (OpOk.move rfl) rfl ?_
  refine RunL.ok (OpOk.nilOk rfl) rfl ?_
  refine RunL.ok (OpOk.fieldAddr fld26_0 rfl) rfl ?_
  refine RunL.ok (OpOk.load rfl rfl rfl (Blk.out Blk.pts.left _ _ (by first | rfl | assumption))) rfl ?_
  refine RunL.know (fun w s => (s.conv rfl).ownRd0) (fun rdx1 => ?_)
  refine RunL.ok (OpOk.lenR rfl rfl (Rd.right rdx1) rfl) rfl ?_
  refine RunL.ok (OpOk.assign rfl) rfl ?_
  refine RunL.nil ?_
  refine Run.seq ?_
  refine Run.seq ?_
  refine Run.region ?_
  refine RunL.ok (OpOk.move rfl) rfl ?_
  refine RunL.ok (OpOk.asF (OpOk.eql rfl rfl) (by omega)) rfl ?_
  refine RunL.nil ?_
  refine Run.condF rfl ?_
  refine Run.skip ?_
  refine Run.seq ?_
  refine Run.region ?_
  refine RunL.ok (OpOk.move rfl) rfl ?_
  refine RunL.ok (OpOk.move rfl) rfl ?_
  refine RunL.ok (OpOk.rem rfl rfl (by omega) rfl) rfl ?_
  refine RunL.ok (OpOk.move rfl) rfl ?_
  refine RunL.ok (OpOk.add rfl rfl (wrapI (by omega) (by omega))) rfl ?_
  refine RunL.ok (OpOk.move rfl) rfl ?_
  refine RunL.ok (OpOk.rem rfl rfl (by omega) (tmodI (by omega))) rfl ?_
  refine RunL.ok (OpOk.assign rfl) rfl ?_
  refine RunL.ok (OpOk.assign rfl) rfl ?_
  refine RunL.nil ?_
  refine Run.ret2 Try.func57 rfl rfl rfl ?_
  exact ⟨by rw [← h1], rfl⟩
theorem s57a {i : Int} (h : ss.length = 0) : Spec Try.prog w0 57 [.pointer (some ⟨p, 0, none⟩), .int .i64 i] (A * pts p (.cells #[v] 26 (0, 0)) * own 9 1 v (ss).length (Fl encS (ss))) (fun v' A' => v' = .tuple #[.int .i64 0, .bool false] ∧ A' = A * pts p (.cells #[v] 26 (0, 0)) * own 9 1 v (ss).length (Fl encS (ss))) := by
  refine Spec.of_run [(0, .pointer (some ⟨p, 0, none⟩)), (1, .int .i64 i)] Try.func57 rfl (Nat.le_of_ble_eq_true rfl) (by repeat (first | exact trivial | refine ⟨rfl, ?_⟩)) ?_
  refine Run.seq ?_
  refine Run.region ?_
  refine RunL.ok (OpOk.assign rfl) rfl ?_
  refine RunL.ok (OpOk.assign rfl) rfl ?_
  refine RunL.nil ?_
  refine Run.seq ?_
  refine Run.region ?_
  refine RunL.ok (OpOk.move rfl) rfl ?_
  refine RunL.ok (OpOk.nilOk rfl) rfl ?_
  refine RunL.ok (OpOk.fieldAddr fld26_0 rfl) rfl ?_
  refine RunL.ok (OpOk.load rfl rfl rfl (Blk.out Blk.pts.left _ _ (by first | rfl | assumption))) rfl ?_
  refine RunL.know (fun w s => (s.conv rfl).ownRd0) (fun rdx1 => ?_)
  refine RunL.ok (OpOk.lenR rfl rfl (Rd.right rdx1) rfl) rfl ?_
  refine RunL.ok (OpOk.assign rfl) rfl ?_
  refine RunL.nil ?_
  refine Run.seq ?_
  refine Run.seq ?_
  refine Run.region ?_
  refine RunL.ok (OpOk.move rfl) rfl ?_
  refine RunL.ok (OpOk.asT (OpOk.eql rfl rfl) (by omega)) rfl ?_
  refine RunL.nil ?_
  refine Run.condT rfl ?_
  refine Run.seq ?_
  refine Run.region ?_
  refine RunL.ok (OpOk.assign rfl) rfl ?_
  refine RunL.ok (OpOk.assign rfl) rfl ?_
  refine RunL.nil ?_
  refine Run.ret2 Try.func57 rfl rfl rfl ?_
  exact ⟨rfl, rfl⟩
theorem s20 : Spec Try.prog w0 20 [.pointer (some ⟨p, 0, none⟩)] (A * pts p (.cells #[v] 26 (0, 0)) * own 9 1 v (ss).length (Fl encS (ss))) (fun v' A' => v' = .int .i64 (ss.length : Int) ∧ A' = A * pts p (.cells #[v] 26 (0, 0)) * own 9 1 v (ss).length (Fl encS (ss))) := by
  refine Spec.of_run [(0, .pointer (some ⟨p, 0, none⟩))] Try.func20 rfl (Nat.le_of_ble_eq_true rfl) (by repeat (first | exact trivial | refine ⟨rfl, ?_⟩)) ?_
  refine Run.seq ?_
  refine Run.region ?_
  refine RunL.ok (OpOk.assign rfl) rfl ?_
  refine RunL.nil ?_
  refine Run.seq ?_
  refine Run.region ?_
  refine RunL.ok (OpOk.move rfl) rfl ?_
  refine RunL.ok (OpOk.nilOk rfl) rfl ?_
  refine RunL.ok (OpOk.fieldAddr fld26_0 rfl) rfl ?_
  refine RunL.ok (OpOk.load rfl rfl rfl (Blk.out Blk.pts.left _ _ (by first | rfl | assumption))) rfl ?_
  refine RunL.know (fun w s => (s.conv rfl).ownRd0) (fun rdx1 => ?_)
  refine RunL.ok (OpOk.lenR rfl rfl (Rd.right rdx1) rfl) rfl ?_
  refine RunL.ok (OpOk.assign rfl) rfl ?_
  refine RunL.nil ?_
  refine Run.ret1 Try.func20 rfl rfl ?_
  exact ⟨rfl, rfl⟩
theorem s15 {u : Value} {k : Nat} {ts : List (List UInt8)} (rd : Rd w0 A u 1 k (Fl encS ts)) (hs : (ss.length + k) * 16 ≤ 140737488355328) : Spec Try.prog w0 15 [.pointer (some ⟨p, 0, none⟩), u] (A * pts p (.cells #[v] 26 (0, 0)) * own 9 1 v (ss).length (Fl encS (ss))) (fun v' A' => ∃ v2, v' = .int .i64 ((ss ++ ts).length : Int) ∧ A' = A * pts p (.cells #[v2] 26 (0, 0)) * own 9 1 v2 (ss ++ ts).length (Fl encS (ss ++ ts))) := by
  refine Spec.of_run [(0, .pointer (some ⟨p, 0, none⟩)), (1, u)] Try.func15 rfl (Nat.le_of_ble_eq_true rfl) (by repeat (first | exact trivial | refine ⟨rfl, ?_⟩)) ?_
  have hl := rd.len
  rw [Fl_S_length, Nat.mul_one] at hl
  subst hl
  refine Run.seq ?_
  refine Run.region ?_
  refine RunL.ok (OpOk.assign rfl) rfl ?_
  refine RunL.nil ?_
  refine Run.seq ?_
  refine Run.region ?_
  refine RunL.ok (OpOk.move rfl) rfl ?_
  refine RunL.ok (OpOk.move rfl) rfl ?_
  refine RunL.ok (OpOk.nilOk rfl) rfl ?_
  refine RunL.ok (OpOk.fieldAddr fld26_0 rfl) rfl ?_
  refine RunL.ok (OpOk.load rfl rfl rfl (Blk.out Blk.pts.left _ _ (by first | rfl | assumption))) rfl ?_
  refine RunL.ok (OpOk.move rfl) rfl ?_
  refine RunL.appendF rfl ti9 rfl rfl rfl rfl rd.left.left rfl (by decide) (by omega) (by simp only [maxLen]; omega) rfl (fun vx1 rdx1 => ?_)
  refine RunL.ok (OpOk.nilOk rfl) rfl ?_
  refine RunL.ok (OpOk.fieldAddr fld26_0 rfl) rfl ?_
  refine RunL.know (fun w s => (s.conv rfl).ownRd0) (fun rdx2 => ?_)
  refine RunL.store ti22 rfl rfl (Rd.one rdx2) (frl rfl) (by exact Nat.le_of_ble_eq_true rfl) (.inl rfl) ?_
  refine RunL.nil ?_
  refine Run.seq ?_
  refine Run.region ?_
  refine RunL.ok (OpOk.move rfl) rfl ?_
  refine RunL.ok (OpOk.nilOk rfl) rfl ?_
  refine RunL.ok (OpOk.fieldAddr fld26_0 rfl) rfl ?_
  refine RunL.ok (OpOk.load rfl rfl rfl (Blk.out Blk.pts _ _ (by first | rfl | assumption))) rfl ?_
  refine RunL.ok (OpOk.lenR rfl rfl (Rd.right rdx2).left rfl) rfl ?_
  refine RunL.ok (OpOk.assign rfl) rfl ?_
  refine RunL.nil ?_
  refine Run.ret1 Try.func15 rfl rfl ?_
  exact ⟨_, by simp, by rw [List.length_append]; ac_rfl⟩
theorem s60 {u : Value} {ts : List (List UInt8)} (rd : Rd w0 A u 1 ts.length (Fl encS ts)) (hs : ts.length * 16 ≤ 140737488355328) : Spec Try.prog w0 60 [u] A (fun v' A' => A' = A * own 9 1 v' ts.length (Fl encS ts)) := by
  obtain ⟨ad, cap, rfl, hcap, ha⟩ := rd.form
  have hmx := rd.max
  refine Spec.of_run [(0, .slice ad ts.length cap)] Try.func60 rfl (Nat.le_of_ble_eq_true rfl) (by repeat (first | exact trivial | refine ⟨rfl, ?_⟩)) ?_
  cases ad with
  | none =>
    obtain rfl : ts = [] := List.eq_nil_of_length_eq_zero (by
      rcases Nat.eq_zero_or_pos ts.length with e | e
      · exact e
      · cases ha e)
    refine Run.seq ?_
    refine Run.region ?_
    refine RunL.ok (OpOk.assign rfl) rfl ?_
    refine RunL.nil ?_
    refine Run.seq ?_
    refine Run.seq ?_
    refine Run.region ?_
    refine RunL.ok (OpOk.move rfl) rfl ?_
    refine RunL.ok (OpOk.eqlNil rfl rfl) rfl ?_
    refine RunL.nil ?_
    refine Run.condT rfl ?_
    refine Run.seq ?_
    refine Run.region ?_
    refine RunL.ok (OpOk.assign rfl) rfl ?_
    refine RunL.nil ?_
    refine Run.ent (Ent.ownNil' _ 9 1 (Fl encS []) rfl) ?_
    refine Run.ret1 Try.func60 rfl rfl ?_
    exact (frc rfl rfl)
  | some a =>
    refine Run.seq ?_
    refine Run.region ?_
    refine RunL.ok (OpOk.assign rfl) rfl ?_
    refine RunL.nil ?_
    refine Run.seq ?_
    refine Run.seq ?_
    refine Run.region ?_
    refine RunL.ok (OpOk.move rfl) rfl ?_
    refine RunL.ok (OpOk.eqlNil rfl rfl) rfl ?_
    refine RunL.nil ?_
    refine Run.condF rfl ?_
    refine Run.skip ?_
    refine Run.seq ?_
    refine Run.region ?_
    refine RunL.lit0 rfl ti9 rfl (fun vy1 rdy1 => ?_)
    refine RunL.ok (OpOk.move rfl) rfl ?_
    refine RunL.appendF0 rfl ti9 rfl rfl rfl rfl rd.left rfl (by decide) (by omega) (by simp only [maxLen]; omega) rfl (fun vy2 rdy2 => ?_)
    refine RunL.ok (OpOk.assign rfl) rfl ?_
    refine RunL.nil ?_
    refine Run.ret1 Try.func60 rfl rfl ?_
    exact rfl
end
end Go.Proofs.Ytegbfnibjgpbpaa
