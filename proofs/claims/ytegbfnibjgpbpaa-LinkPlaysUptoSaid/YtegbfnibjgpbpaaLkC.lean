/- The pool's functions: Take, Double, Sweep; the document's lists. -/
import Derived.Test.YtegbfnibjgpbpaaLkB
namespace Go.Proofs.Ytegbfnibjgpbpaa
open Go Go.Proofs
set_option maxRecDepth 100000
set_option maxHeartbeats 4000000
def del (k : Nat) (ss : List (List UInt8)) : List (List UInt8) := ss.take k ++ ss.drop (k + 1)
theorem del_length {k : Nat} {ss : List (List UInt8)} (h : k < ss.length) : (del k ss).length = ss.length - (k + 1 - k) := by
  simp only [del, List.length_append, List.length_take, List.length_drop]
  omega
section
variable {w0 : World} {A : Asn} {p : Nat} {v : Value} {ss : List (List UInt8)}
theorem s58a {k : Nat} (hk : k < ss.length) (hmx : ss.length ≤ 4611686018427387904) :
    Spec Try.prog w0 58 [v, .int .i64 (k : Int), .int .i64 ((k : Int) + 1)] (A * own 9 1 v ss.length (Fl encS ss)) (fun v' A' => A' = A * own 9 1 v' (del k ss).length (Fl encS (del k ss))) := by
  have h := s58 (w0 := w0) (A := A) (v := v) (i := k) (j := k + 1) (m := ss.length) (ss := ss) (by omega) (by omega) (by omega)
  rw [del_length hk]
  exact h
theorem s57b {i : Int} {k : Nat} (h : 0 < ss.length) (hn : ss.length ≤ 4611686018427387904) (hk : i % (ss.length : Int) = (k : Int)) : Spec Try.prog w0 57 [.pointer (some ⟨p, 0, none⟩), .int .i64 i] (A * pts p (.cells #[v] 26 (0, 0)) * own 9 1 v (ss).length (Fl encS (ss))) (fun v' A' => v' = .tuple #[.int .i64 (k : Int), .bool true] ∧ A' = A * pts p (.cells #[v] 26 (0, 0)) * own 9 1 v (ss).length (Fl encS (ss))) := by
  rw [← hk]
  exact s57 h hn
theorem s19 {i : Int} {k : Nat} (h : 0 < ss.length) (hn : ss.length ≤ 4611686018427387904) (hk : i % (ss.length : Int) = (k : Int)) :
    Spec Try.prog w0 19 [.pointer (some ⟨p, 0, none⟩), .int .i64 i] (A * pts p (.cells #[v] 26 (0, 0)) * own 9 1 v (ss).length (Fl encS (ss))) (fun v' A' => ∃ v2, v' = .tuple #[S (ss.getD k default), .bool true] ∧ A' = A * pts p (.cells #[v2] 26 (0, 0)) * own 9 1 v2 (del k ss).length (Fl encS (del k ss))) := by
  have hlt : k < ss.length := by
    have := Int.emod_lt_of_pos i (show (0 : Int) < ss.length by omega)
    omega
  refine Spec.of_run [(0, .pointer (some ⟨p, 0, none⟩)), (1, .int .i64 i)] Try.func19 rfl (Nat.le_of_ble_eq_true rfl) (by repeat (first | exact trivial | refine ⟨rfl, ?_⟩)) ?_
  refine Run.seq ?_
  refine Run.region ?_
  refine RunL.ok (OpOk.assign rfl) rfl ?_
  refine RunL.ok (OpOk.assign rfl) rfl ?_
  refine RunL.nil ?_
  refine Run.seq ?_
  refine Run.region ?_
  refine RunL.ok (OpOk.assign rfl) rfl ?_
  refine RunL.nil ?_
  refine Run.seq ?_
  refine Run.region ?_
  refine RunL.ok (OpOk.move rfl) rfl ?_
  refine RunL.ok (OpOk.move rfl) rfl ?_
  refine RunL.call cal57 rfl (s57b (by assumption) (by assumption) (by assumption)) rfl (fun vx2 Ax2 hx2 => ?_)
  obtain ⟨rfl, rfl⟩ := hx2
  refine RunL.ok (OpOk.move rfl) rfl ?_
  refine RunL.ok (OpOk.ext20 rfl) rfl ?_
  refine RunL.ok (OpOk.ext21 rfl) rfl ?_
  refine RunL.ok (OpOk.assign rfl) rfl ?_
  refine RunL.ok (OpOk.assign rfl) rfl ?_
  refine RunL.nil ?_
  refine Run.seq ?_
  refine Run.seq ?_
  refine Run.region ?_
  refine RunL.ok (OpOk.move rfl) rfl ?_
  refine RunL.nil ?_
  refine Run.condT rfl ?_
  refine Run.seq ?_
  refine Run.region ?_
  refine RunL.ok (OpOk.move rfl) rfl ?_
  refine RunL.ok (OpOk.nilOk rfl) rfl ?_
  refine RunL.ok (OpOk.fieldAddr fld26_0 rfl) rfl ?_
  refine RunL.ok (OpOk.load rfl rfl rfl (Blk.out Blk.pts.left _ _ (by first | rfl | assumption))) rfl ?_
  refine RunL.ok (OpOk.move rfl) rfl ?_
  refine RunL.know (fun w s => (s.conv rfl).ownRd0) (fun rdx3 => ?_)
  refine RunL.ok (OpOk.idx1N rfl ti9 rfl (Rd.right rdx3) rfl (by omega)) rfl ?_
  refine RunL.ok (OpOk.loadStr rfl rfl rfl (Rd.right rdx3) (by omega)) rfl ?_
  refine RunL.ok (OpOk.assign rfl) rfl ?_
  refine RunL.nil ?_
  refine Run.region ?_
  refine RunL.ok (OpOk.move rfl) rfl ?_
  refine RunL.ok (OpOk.move rfl) rfl ?_
  refine RunL.ok (OpOk.nilOk rfl) rfl ?_
  refine RunL.ok (OpOk.fieldAddr fld26_0 rfl) rfl ?_
  refine RunL.ok (OpOk.load rfl rfl rfl (Blk.out Blk.pts.left _ _ (by first | rfl | assumption))) rfl ?_
  refine RunL.ok (OpOk.move rfl) rfl ?_
  refine RunL.ok (OpOk.move rfl) rfl ?_
  refine RunL.ok (OpOk.addN _ 1 rfl rfl rfl rfl (by omega)) rfl ?_
  refine RunL.call cal58 rfl (s58a (by assumption) (by assumption)) rfl (fun vx4 Ax4 hx4 => ?_)
  obtain rfl := hx4
  refine RunL.ok (OpOk.nilOk rfl) rfl ?_
  refine RunL.ok (OpOk.fieldAddr fld26_0 rfl) rfl ?_
  refine RunL.know (fun w s => (s.conv rfl).ownRd0) (fun rdx5 => ?_)
  refine RunL.store ti22 rfl rfl (Rd.one rdx5) (frl rfl) (by exact Nat.le_of_ble_eq_true rfl) (.inl rfl) ?_
  refine RunL.nil ?_
  refine Run.seq ?_
  refine Run.region ?_
  refine RunL.ok (OpOk.move rfl) rfl ?_
  refine RunL.ok (OpOk.move rfl) rfl ?_
  refine RunL.ok (OpOk.assign rfl) rfl ?_
  refine RunL.ok (OpOk.assign rfl) rfl ?_
  refine RunL.nil ?_
  refine Run.ret2 Try.func19 rfl rfl rfl ?_
  exact ⟨_, rfl, (frc (frl rfl) (frc rfl rfl))⟩
theorem s19a {i : Int} (h : ss.length = 0) :
    Spec Try.prog w0 19 [.pointer (some ⟨p, 0, none⟩), .int .i64 i] (A * pts p (.cells #[v] 26 (0, 0)) * own 9 1 v (ss).length (Fl encS (ss))) (fun v' A' => v' = .tuple #[S [], .bool false] ∧ A' = A * pts p (.cells #[v] 26 (0, 0)) * own 9 1 v (ss).length (Fl encS (ss))) := by
  refine Spec.of_run [(0, .pointer (some ⟨p, 0, none⟩)), (1, .int .i64 i)] Try.func19 rfl (Nat.le_of_ble_eq_true rfl) (by repeat (first | exact trivial | refine ⟨rfl, ?_⟩)) ?_
  refine Run.seq ?_
  refine Run.region ?_
  refine RunL.ok (OpOk.assign rfl) rfl ?_
  refine RunL.ok (OpOk.assign rfl) rfl ?_
  refine RunL.nil ?_
  refine Run.seq ?_
  refine Run.region ?_
  refine RunL.ok (OpOk.assign rfl) rfl ?_
  refine RunL.nil ?_
  refine Run.seq ?_
  refine Run.region ?_
  refine RunL.ok (OpOk.move rfl) rfl ?_
  refine RunL.ok (OpOk.move rfl) rfl ?_
  refine RunL.call cal57 rfl (s57a (by assumption)) rfl (fun vx1 Ax1 hx1 => ?_)
  obtain ⟨rfl, rfl⟩ := hx1
  refine RunL.ok (OpOk.move rfl) rfl ?_
  refine RunL.ok (OpOk.ext20 rfl) rfl ?_
  refine RunL.ok (OpOk.ext21 rfl) rfl ?_
  refine RunL.ok (OpOk.assign rfl) rfl ?_
  refine RunL.ok (OpOk.assign rfl) rfl ?_
  refine RunL.nil ?_
  refine Run.seq ?_
  refine Run.seq ?_
  refine Run.region ?_
  refine RunL.ok (OpOk.move rfl) rfl ?_
  refine RunL.nil ?_
  refine Run.condF rfl ?_
  refine Run.skip ?_
  refine Run.seq ?_
  refine Run.region ?_
  refine RunL.ok (OpOk.move rfl) rfl ?_
  refine RunL.ok (OpOk.move rfl) rfl ?_
  refine RunL.ok (OpOk.assign rfl) rfl ?_
  refine RunL.ok (OpOk.assign rfl) rfl ?_
  refine RunL.nil ?_
  refine Run.ret2 Try.func19 rfl rfl rfl ?_
  exact ⟨rfl, rfl⟩
theorem s28 {i : Int} {k : Nat} (h : 0 < ss.length) (hn : ss.length ≤ 4194304) (hk : i % (ss.length : Int) = (k : Int)) :
    Spec Try.prog w0 28 [.pointer (some ⟨p, 0, none⟩), .int .i64 i] (A * pts p (.cells #[v] 26 (0, 0)) * own 9 1 v (ss).length (Fl encS (ss))) (fun v' A' => ∃ v2 J, v' = .bool true ∧ A' = A * J * pts p (.cells #[v2] 26 (0, 0)) * own 9 1 v2 ((ss ++ [ss.getD k default])).length (Fl encS ((ss ++ [ss.getD k default])))) := by
  have hlt : k < ss.length := by
    have := Int.emod_lt_of_pos i (show (0 : Int) < ss.length by omega)
    omega
  refine Spec.of_run [(0, .pointer (some ⟨p, 0, none⟩)), (1, .int .i64 i)] Try.func28 rfl (Nat.le_of_ble_eq_true rfl) (by repeat (first | exact trivial | refine ⟨rfl, ?_⟩)) ?_
  refine Run.seq ?_
  refine Run.region ?_
  refine RunL.ok (OpOk.assign rfl) rfl ?_
  refine RunL.nil ?_
  refine Run.seq ?_
  refine Run.region ?_
  refine RunL.ok (OpOk.move rfl) rfl ?_
  refine RunL.ok (OpOk.move rfl) rfl ?_
  refine RunL.call cal57 rfl (s57b (by assumption) (by omega) (by assumption)) rfl (fun vx2 Ax2 hx2 => ?_)
  obtain ⟨rfl, rfl⟩ := hx2
  refine RunL.ok (OpOk.move rfl) rfl ?_
  refine RunL.ok (OpOk.ext20 rfl) rfl ?_
  refine RunL.ok (OpOk.ext21 rfl) rfl ?_
  refine RunL.ok (OpOk.assign rfl) rfl ?_
  refine RunL.ok (OpOk.assign rfl) rfl ?_
  refine RunL.nil ?_
  refine Run.seq ?_
  refine Run.seq ?_
  refine Run.region ?_
  refine RunL.ok (OpOk.move rfl) rfl ?_
  refine RunL.nil ?_
  refine Run.condT rfl ?_
  refine Run.region ?_
  refine RunL.ok (OpOk.move rfl) rfl ?_
  refine RunL.ok (OpOk.move rfl) rfl ?_
  refine RunL.ok (OpOk.nilOk rfl) rfl ?_
  refine RunL.ok (OpOk.fieldAddr fld26_0 rfl) rfl ?_
  refine RunL.ok (OpOk.load rfl rfl rfl (Blk.out Blk.pts.left _ _ (by first | rfl | assumption))) rfl ?_
  refine RunL.ok (OpOk.move rfl) rfl ?_
  refine RunL.know (fun w s => (s.conv rfl).ownRd0) (fun rdx3 => ?_)
  refine RunL.ok (OpOk.idx1N rfl ti9 rfl (Rd.right rdx3) rfl (by omega)) rfl ?_
  refine RunL.ok (OpOk.loadStr rfl rfl rfl (Rd.right rdx3) (by omega)) rfl ?_
  refine RunL.litS (ss := [ss.getD k default]) rfl ti9 rfl rfl rfl (by decide) rfl (fun vx4 rdx4 => ?_)
  refine RunL.know (fun w s => (s.conv rfl).ownRd0) (fun rdx5 => ?_)
  refine RunL.mem (frc (frl rfl) (frc (frl rfl) rfl)) ?_
  refine RunL.call cal15 rfl (s15 (Rd.right rdx5) (by omega)) rfl (fun vx6 Ax6 hx6 => ?_)
  obtain ⟨x7, ⟨rfl, rfl⟩⟩ := hx6
  refine RunL.nil ?_
  refine Run.seq ?_
  refine Run.region ?_
  refine RunL.ok (OpOk.move rfl) rfl ?_
  refine RunL.ok (OpOk.assign rfl) rfl ?_
  refine RunL.nil ?_
  refine Run.ret1 Try.func28 rfl rfl ?_
  exact ⟨_, _, rfl, (congrArg (· * _) (congrArg (· * _) as1))⟩
theorem s28a {i : Int} (h : ss.length = 0) :
    Spec Try.prog w0 28 [.pointer (some ⟨p, 0, none⟩), .int .i64 i] (A * pts p (.cells #[v] 26 (0, 0)) * own 9 1 v (ss).length (Fl encS (ss))) (fun v' A' => v' = .bool false ∧ A' = A * pts p (.cells #[v] 26 (0, 0)) * own 9 1 v (ss).length (Fl encS (ss))) := by
  refine Spec.of_run [(0, .pointer (some ⟨p, 0, none⟩)), (1, .int .i64 i)] Try.func28 rfl (Nat.le_of_ble_eq_true rfl) (by repeat (first | exact trivial | refine ⟨rfl, ?_⟩)) ?_
  refine Run.seq ?_
  refine Run.region ?_
  refine RunL.ok (OpOk.assign rfl) rfl ?_
  refine RunL.nil ?_
  refine Run.seq ?_
  refine Run.region ?_
  refine RunL.ok (OpOk.move rfl) rfl ?_
  refine RunL.ok (OpOk.move rfl) rfl ?_
  refine RunL.call cal57 rfl (s57a (by assumption)) rfl (fun vx1 Ax1 hx1 => ?_)
  obtain ⟨rfl, rfl⟩ := hx1
  refine RunL.ok (OpOk.move rfl) rfl ?_
  refine RunL.ok (OpOk.ext20 rfl) rfl ?_
  refine RunL.ok (OpOk.ext21 rfl) rfl ?_
  refine RunL.ok (OpOk.assign rfl) rfl ?_
  refine RunL.ok (OpOk.assign rfl) rfl ?_
  refine RunL.nil ?_
  refine Run.seq ?_
  refine Run.seq ?_
  refine Run.region ?_
  refine RunL.ok (OpOk.move rfl) rfl ?_
  refine RunL.nil ?_
  refine Run.condF rfl ?_
  refine Run.skip ?_
  refine Run.seq ?_
  refine Run.region ?_
  refine RunL.ok (OpOk.move rfl) rfl ?_
  refine RunL.ok (OpOk.assign rfl) rfl ?_
  refine RunL.nil ?_
  refine Run.ret1 Try.func28 rfl rfl ?_
  exact ⟨rfl, rfl⟩
theorem s24 {u1 u2 : Value} {xs ys : List (List UInt8)} (rd1 : Rd w0 A u1 1 xs.length (Fl encS xs)) (rd2 : Rd w0 A u2 1 ys.length (Fl encS ys)) :
    Spec Try.prog w0 24 [u1, u2] A (fun v' A' => v' = .bool (decide (xs = ys)) ∧ A' = A) := by
  have hm1 := rd1.max
  have hm2 := rd2.max
  refine Spec.of_run [(0, u1), (1, u2)] Try.func24 rfl (Nat.le_of_ble_eq_true rfl) (by repeat (first | exact trivial | refine ⟨rfl, ?_⟩)) ?_
  refine Run.seq ?_
  refine Run.region ?_
  refine RunL.ok (OpOk.assign rfl) rfl ?_
  refine RunL.nil ?_
  refine Run.seq ?_
  refine Run.seq ?_
  refine Run.region ?_
  refine RunL.ok (OpOk.move rfl) rfl ?_
  refine RunL.ok (OpOk.lenR rfl rfl rd1 rfl) rfl ?_
  refine RunL.ok (OpOk.move rfl) rfl ?_
  refine RunL.ok (OpOk.lenR rfl rfl rd2 rfl) rfl ?_
  refine RunL.ok (OpOk.neq rfl rfl) rfl ?_
  refine RunL.nil ?_
  refine Run.condN rfl (fun x1 => ?_) (fun x1 => ?_)
  · refine Run.seq ?_
    refine Run.region ?_
    refine RunL.ok (OpOk.assign rfl) rfl ?_
    refine RunL.nil ?_
    refine Run.ret1 Try.func24 rfl rfl ?_
    refine ⟨?_, rfl⟩
    have : xs ≠ ys := fun e => x1 (by subst e; omega)
    simp [this]
  refine Run.skip ?_
  refine Run.seq ?_
  refine Run.seq ?_
  refine Run.region ?_
  refine RunL.ok (OpOk.assign rfl) rfl ?_
  refine RunL.nil ?_
  refine Run.block ?_
  refine Run.loop (X := Nat) (fun i => [(0, u1), (1, u2), (5, .int .i64 i)]) (fun _ => A) (fun i => i ≤ xs.length ∧ xs.take i = ys.take i) (fun i => xs.length - i) 0 ⟨rfl, rfl, rfl, trivial⟩ rfl ⟨by omega, by simp⟩ (fun i hi ih => ?_)
  obtain ⟨hi1, hi2⟩ := hi
  rcases Nat.lt_or_ge i xs.length with hlt | hge
  · have hlt2 : i < ys.length := by omega
    refine Run.seq ?_
    refine Run.seq ?_
    refine Run.region ?_
    refine RunL.ok (OpOk.move rfl) rfl ?_
    refine RunL.ok (OpOk.move rfl) rfl ?_
    refine RunL.ok (OpOk.lenR rfl rfl rd1 rfl) rfl ?_
    refine RunL.ok (OpOk.asT (OpOk.lss rfl rfl) (by omega)) rfl ?_
    refine RunL.nil ?_
    refine Run.condT rfl ?_
    refine Run.skip ?_
    refine Run.seq ?_
    refine Run.block ?_
    refine Run.seq ?_
    (apply Run.drawD [] (by rfl) (sep_emp _).symm; case hchk => kernel_rfl)
    refine Sd.quiet 0 _ _ rfl rfl rfl rfl rfl (QOp.ok (fun X => OpOk.move rfl)) ?_
    refine Sd.quiet 1 _ _ rfl rfl rfl rfl rfl (QOp.ok (fun X => OpOk.move rfl)) ?_
    refine Sd.quiet 2 _ _ rfl rfl rfl rfl rfl (QOp.ok (fun X => OpOk.idx1N rfl ti9 rfl rd1.left.left rfl (by omega))) ?_
    refine Sd.quiet 3 _ _ rfl rfl rfl rfl rfl (QOp.ok (fun X => OpOk.loadStr rfl rfl rfl rd1.left.left (by omega))) ?_
    refine Sd.quiet 4 _ _ rfl rfl rfl rfl rfl (QOp.ok (fun X => OpOk.move rfl)) ?_
    refine Sd.quiet 5 _ _ rfl rfl rfl rfl rfl (QOp.ok (fun X => OpOk.move rfl)) ?_
    refine Sd.quiet 6 _ _ rfl rfl rfl rfl rfl (QOp.ok (fun X => OpOk.idx1N rfl ti9 rfl rd2.left.left rfl (by omega))) ?_
    refine Sd.quiet 7 _ _ rfl rfl rfl rfl rfl (QOp.ok (fun X => OpOk.loadStr rfl rfl rfl rd2.left.left (by omega))) ?_
    refine Sd.quiet 8 _ _ rfl rfl rfl rfl rfl (QOp.ok (fun X => OpOk.neqSS rfl rfl)) ?_
    (apply Sd.tail; case hall => kernel_rfl)
    refine RunL.mem (fl2 (sep_emp _) (sep_emp _)) ?_
    refine RunL.nil ?_
    refine Run.condN rfl (fun y1 => ?_) (fun y1 => ?_)
    · refine Run.seq ?_
      refine Run.region ?_
      refine RunL.ok (OpOk.assign rfl) rfl ?_
      refine RunL.nil ?_
      refine Run.ret1 Try.func24 rfl rfl ?_
      refine ⟨?_, rfl⟩
      have : xs ≠ ys := fun e => y1 (by subst e; rfl)
      simp [this]
    refine Run.skip ?_
    refine Run.inBlock ?_
    refine Run.region ?_
    refine RunL.ok (OpOk.move rfl) rfl ?_
    refine RunL.ok (OpOk.addN _ 1 rfl rfl rfl rfl (by omega)) rfl ?_
    refine RunL.ok (OpOk.assign rfl) rfl ?_
    refine RunL.nil ?_
    refine Run.jump ((ih (i + 1) ⟨by omega, by rw [take_next hlt, take_next hlt2, hi2, y1]⟩ (by omega))) ⟨rfl, rfl, rfl, trivial⟩ ((Grew.refl _))
  · obtain rfl : i = xs.length := by omega
    rw [List.take_of_length_le (by omega), List.take_of_length_le (by omega)] at hi2
    refine Run.seq ?_
    refine Run.seq ?_
    refine Run.region ?_
    refine RunL.ok (OpOk.move rfl) rfl ?_
    refine RunL.ok (OpOk.move rfl) rfl ?_
    refine RunL.ok (OpOk.lenR rfl rfl rd1 rfl) rfl ?_
    refine RunL.ok (OpOk.asF (OpOk.lss rfl rfl) (by omega)) rfl ?_
    refine RunL.nil ?_
    refine Run.condF rfl ?_
    refine Run.exit rfl ?_
    refine Run.seq ?_
    refine Run.region ?_
    refine RunL.ok (OpOk.assign rfl) rfl ?_
    refine RunL.nil ?_
    refine Run.ret1 Try.func24 rfl rfl ?_
    rw [decide_eq_true (by first | omega | with_reducible rfl | assumption)]
    exact ⟨rfl, rfl⟩
end
end Go.Proofs.Ytegbfnibjgpbpaa
