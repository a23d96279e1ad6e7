/- The router: New, known, Len, Refused. -/
import Derived.Test.YtegbfnibjgpbpaaRtC
namespace Go.Proofs.Ytegbfnibjgpbpaa
open Go Go.Proofs
set_option maxRecDepth 100000
set_option maxHeartbeats 4000000
set_option linter.unusedSimpArgs false
abbrev q0 : Qu := (⟨.slice none 0 0, rfl⟩, [])
theorem ownsQ_new (k : Nat) : ownsQ (List.replicate k q0) = emp := by
  induction k with
  | zero => rfl
  | succ k ih =>
    have e : ownsQ (List.replicate (k + 1) q0) = qone q0 * ownsQ (List.replicate k q0) := rfl
    have e2 : own 82 5 (Value.slice none 0 0) 0 (Fl encT82 ([] : List Ms)) = emp := own_nil_eq 82 5
    rw [e, ih, sep_emp]
    show own 82 5 (Value.slice none 0 0) 0 (Fl encT82 ([] : List Ms)) * emp = emp
    rw [e2, sep_emp]
theorem Fl_new (k : Nat) : Fl encT123 (List.replicate k q0) = List.replicate k (.slice none 0 0) := by
  induction k with
  | zero => rfl
  | succ k ih =>
    rw [List.replicate_succ, List.replicate_succ, show Fl encT123 (q0 :: List.replicate k q0) = encT123 q0 ++ Fl encT123 (List.replicate k q0) from rfl, ih]
    rfl
/-- How many wait. -/
def lenQ (Q : List Qu) : Nat := (Q.map fun q => q.2.length).sum
theorem lenQ_next {Q : List Qu} {i : Nat} (h : i < Q.length) : lenQ (Q.take (i + 1)) = lenQ (Q.take i) + (Q.getD i default).2.length := by
  simp only [lenQ, take_next h, List.map_append, List.sum_append, List.map_cons, List.map_nil, List.sum_cons, List.sum_nil, Nat.add_zero]
theorem lenQ_le (Q : List Qu) (i : Nat) : lenQ (Q.take i) ≤ lenQ Q := by
  have h := congrArg lenQ (List.take_append_drop i Q)
  have e : lenQ (Q.take i ++ Q.drop i) = lenQ (Q.take i) + lenQ (Q.drop i) := by simp only [lenQ, List.map_append, List.sum_append]
  omega
section
variable {w0 : World} {A : Asn} {p n : Nat} {qv : Value} {room ref : Int} {Q : List Qu}
theorem s68 {to : Int} : Spec Try.prog w0 68 [.pointer (some ⟨p, 0, none⟩), .int .i64 to] (A * pts p (.cells #[qv, .int .i64 room, .int .i64 ref] 119 (0, 0)) * own 123 1 qv n (Fl encT123 (Q)) * ownsQ (Q)) (fun v' A' => v' = .bool (decide (0 ≤ to ∧ to < (n : Int))) ∧ A' = A * pts p (.cells #[qv, .int .i64 room, .int .i64 ref] 119 (0, 0)) * own 123 1 qv n (Fl encT123 (Q)) * ownsQ (Q)) := by
  refine Spec.of_run [(0, .pointer (some ⟨p, 0, none⟩)), (1, .int .i64 to)] Try.func68 rfl (Nat.le_of_ble_eq_true rfl) (by repeat (first | exact trivial | refine ⟨rfl, ?_⟩)) ?_
  refine Run.seq ?_
  refine Run.region ?_
  refine RunL.ok (OpOk.assign rfl) rfl ?_
  refine RunL.nil ?_
  refine Run.seq ?_
  refine Run.region ?_
  refine RunL.ok (OpOk.move rfl) rfl ?_
  refine RunL.ok (OpOk.geq rfl rfl) rfl ?_
  refine RunL.ok (OpOk.move rfl) rfl ?_
  refine RunL.splitD (t := 7) rfl (fun x1 => ?_) (fun x1 => ?_)
  · refine RunL.on rfl rfl ?_
    refine RunL.ok (OpOk.move rfl) rfl ?_
    refine RunL.on rfl rfl ?_
    refine RunL.ok (OpOk.move rfl) rfl ?_
    refine RunL.on rfl rfl ?_
    refine RunL.ok (OpOk.nilOk rfl) rfl ?_
    refine RunL.on rfl rfl ?_
    refine RunL.ok (OpOk.fieldAddr fld119_0 rfl) rfl ?_
    refine RunL.on rfl rfl ?_
    refine RunL.ok (OpOk.load rfl rfl rfl (Blk.out Blk.pts.left.left _ _ (by first | rfl | assumption))) rfl ?_
    refine RunL.on rfl rfl ?_
    refine RunL.know (fun w s => (s.conv (frl rfl)).ownRd0) (fun rdx2 => ?_)
    refine RunL.ok (OpOk.lenR rfl rfl (Rd.right rdx2).left rfl) rfl ?_
    refine RunL.on rfl rfl ?_
    refine RunL.ok (OpOk.lss rfl rfl) rfl ?_
    refine RunL.ok (OpOk.pickT rfl rfl) rfl ?_
    refine RunL.ok (OpOk.assign rfl) rfl ?_
    refine RunL.nil ?_
    refine Run.ret1 Try.func68 rfl rfl ?_
    exact ⟨congrArg Value.bool (decide_eq_decide.2 ⟨fun h => ⟨x1, h⟩, fun h => h.2⟩), rfl⟩
  refine RunL.off rfl rfl rfl rfl ?_
  refine RunL.off rfl rfl rfl rfl ?_
  refine RunL.off rfl rfl rfl rfl ?_
  refine RunL.off rfl rfl rfl rfl ?_
  refine RunL.off rfl rfl rfl rfl ?_
  refine RunL.off rfl rfl rfl rfl ?_
  refine RunL.off rfl rfl rfl rfl ?_
  refine RunL.ok (OpOk.pickF rfl rfl) rfl ?_
  refine RunL.ok (OpOk.assign rfl) rfl ?_
  refine RunL.nil ?_
  refine Run.ret1 Try.func68 rfl rfl ?_
  exact ⟨congrArg Value.bool (decide_eq_false (fun h => x1 h.1)).symm, rfl⟩
theorem s52 : Spec Try.prog w0 52 [.pointer (some ⟨p, 0, none⟩)] (A * pts p (.cells #[qv, .int .i64 room, .int .i64 ref] 119 (0, 0)) * own 123 1 qv n (Fl encT123 (Q)) * ownsQ (Q)) (fun v' A' => v' = .int .i64 ref ∧ A' = A * pts p (.cells #[qv, .int .i64 room, .int .i64 ref] 119 (0, 0)) * own 123 1 qv n (Fl encT123 (Q)) * ownsQ (Q)) := by
  refine Spec.of_run [(0, .pointer (some ⟨p, 0, none⟩))] Try.func52 rfl (Nat.le_of_ble_eq_true rfl) (by repeat (first | exact trivial | refine ⟨rfl, ?_⟩)) ?_
  refine Run.seq ?_
  refine Run.region ?_
  refine RunL.ok (OpOk.assign rfl) rfl ?_
  refine RunL.nil ?_
  refine Run.seq ?_
  refine Run.region ?_
  refine RunL.ok (OpOk.move rfl) rfl ?_
  refine RunL.ok (OpOk.nilOk rfl) rfl ?_
  refine RunL.ok (OpOk.fieldAddr fld119_2 rfl) rfl ?_
  refine RunL.ok (OpOk.load rfl rfl rfl (Blk.out Blk.pts.left.left _ _ (by first | rfl | assumption))) rfl ?_
  refine RunL.ok (OpOk.assign rfl) rfl ?_
  refine RunL.nil ?_
  refine Run.ret1 Try.func52 rfl rfl ?_
  exact ⟨rfl, rfl⟩
theorem s51 (hn : Q.length = n) (hn2 : n ≤ 5) (hl : lenQ Q ≤ 1048576) : Spec Try.prog w0 51 [.pointer (some ⟨p, 0, none⟩)] (A * pts p (.cells #[qv, .int .i64 room, .int .i64 ref] 119 (0, 0)) * own 123 1 qv n (Fl encT123 (Q)) * ownsQ (Q)) (fun v' A' => v' = .int .i64 (lenQ Q : Int) ∧ A' = A * pts p (.cells #[qv, .int .i64 room, .int .i64 ref] 119 (0, 0)) * own 123 1 qv n (Fl encT123 (Q)) * ownsQ (Q)) := by
  refine Spec.of_run [(0, .pointer (some ⟨p, 0, none⟩))] Try.func51 rfl (Nat.le_of_ble_eq_true rfl) (by repeat (first | exact trivial | refine ⟨rfl, ?_⟩)) ?_
  refine Run.seq ?_
  refine Run.region ?_
  refine RunL.ok (OpOk.assign rfl) rfl ?_
  refine RunL.nil ?_
  refine Run.seq ?_
  refine Run.region ?_
  refine RunL.ok (OpOk.assign rfl) rfl ?_
  refine RunL.nil ?_
  refine Run.seq ?_
  refine Run.seq ?_
  refine Run.region ?_
  refine RunL.ok (OpOk.move rfl) rfl ?_
  refine RunL.ok (OpOk.nilOk rfl) rfl ?_
  refine RunL.ok (OpOk.fieldAddr fld119_0 rfl) rfl ?_
  refine RunL.ok (OpOk.load rfl rfl rfl (Blk.out Blk.pts.left.left _ _ (by first | rfl | assumption))) rfl ?_
  refine RunL.know (fun w s => (s.conv (frl rfl)).ownRd0) (fun rdx1 => ?_)
  refine RunL.ok (OpOk.lenR rfl rfl (Rd.right rdx1).left rfl) rfl ?_
  refine RunL.ok (OpOk.move rfl) rfl ?_
  refine RunL.nil ?_
  refine Run.block ?_
  refine Run.jump ((Run.loopJ (X := Nat) (fun i => [(10, .int .i64 (i : Int)), (9, .int .i64 (n : Int)), (3, .int .i64 (lenQ (Q.take i) : Int)), (0, .pointer (some ⟨p, 0, none⟩))]) (fun _ => A * pts p (.cells #[qv, .int .i64 room, .int .i64 ref] 119 (0, 0)) * own 123 1 qv n (Fl encT123 (Q)) * ownsQ (Q)) (fun i => i ≤ n) (fun i => n - i) 0 (Nat.zero_le _) (fun i hi ih => ?_))) ⟨rfl, rfl, rfl, rfl, trivial⟩ ((Grew.refl _))
  have hle := lenQ_le Q i
  have hle2 := lenQ_le Q (i + 1)
  rcases Nat.lt_or_ge i n with hlt | hge
  · have hnx := lenQ_next (Q := Q) (i := i) (by omega)
    obtain ⟨q, hq⟩ : ∃ q, Q.getD i default = q := ⟨_, rfl⟩
    rw [hq] at hnx
    obtain ⟨sv, ms⟩ := q
    dsimp only at hnx
    refine Run.seq ?_
    refine Run.region ?_
    refine RunL.ok (OpOk.asT (OpOk.lss rfl rfl) (by omega)) rfl ?_
    refine RunL.nil ?_
    refine Run.seq ?_
    refine Run.condT rfl ?_
    refine Run.skip ?_
    refine Run.seq ?_
    refine Run.block ?_
    refine Run.seq ?_
    refine Run.region ?_
    refine RunL.ok (OpOk.move rfl) rfl ?_
    refine RunL.ok (OpOk.assign rfl) rfl ?_
    refine RunL.nil ?_
    refine Run.region ?_
    refine RunL.ok (OpOk.move rfl) rfl ?_
    refine RunL.ok (OpOk.move rfl) rfl ?_
    refine RunL.ok (OpOk.nilOk rfl) rfl ?_
    refine RunL.ok (OpOk.fieldAddr fld119_0 rfl) rfl ?_
    refine RunL.ok (OpOk.load rfl rfl rfl (Blk.out Blk.pts.left.left _ _ (by first | rfl | assumption))) rfl ?_
    refine RunL.ok (OpOk.move rfl) rfl ?_
    refine RunL.ok (OpOk.idx1N rfl ti123 rfl (Rd.right rdx1).left rfl (by omega)) rfl ?_
    refine RunL.ok (OpOk.fieldAddrA fld123_0 rfl) rfl ?_
    refine RunL.call cal69 rfl (s69 (by assumption) (by assumption) (by assumption)) rfl (fun vy1 Ay1 hy1 => ?_)
    obtain ⟨rfl, rfl⟩ := hy1
    refine RunL.ok (OpOk.addN _ _ rfl rfl rfl rfl (by omega)) rfl ?_
    refine RunL.ok (OpOk.assign rfl) rfl ?_
    refine RunL.nil ?_
    refine Run.inBlock ?_
    refine Run.region ?_
    refine RunL.ok (OpOk.addN _ 1 rfl rfl rfl rfl (by omega)) rfl ?_
    refine RunL.ok (OpOk.move rfl) rfl ?_
    refine RunL.nil ?_
    refine Run.jump ((ih (i + 1) (by omega) (by omega))) ⟨rfl, rfl, lkI rfl (by omega), rfl, trivial⟩ ((Grew.refl _))
  · obtain rfl : i = n := by omega
    clear ih
    rw [List.take_of_length_le (by omega)]
    refine Run.seq ?_
    refine Run.region ?_
    refine RunL.ok (OpOk.asF (OpOk.lss rfl rfl) (by omega)) rfl ?_
    refine RunL.nil ?_
    refine Run.seq ?_
    refine Run.condF rfl ?_
    refine Run.exit rfl ?_
    refine Run.seq ?_
    refine Run.region ?_
    refine RunL.ok (OpOk.move rfl) rfl ?_
    refine RunL.ok (OpOk.assign rfl) rfl ?_
    refine RunL.nil ?_
    refine Run.ret1 Try.func51 rfl rfl ?_
    exact ⟨rfl, rfl⟩
theorem s41a {ops room : Int} (h : ops < 1 ∨ 4 < ops ∨ room < 1 ∨ 16 < room) : Spec Try.prog w0 41 [.int .i64 ops, .int .i64 room] A (fun v' A' => v' = .tuple #[.pointer none, .int .i64 2] ∧ A' = A) := by
  refine Spec.of_run [(0, .int .i64 ops), (1, .int .i64 room)] Try.func41 rfl (Nat.le_of_ble_eq_true rfl) (by repeat (first | exact trivial | refine ⟨rfl, ?_⟩)) ?_
  refine Run.seq ?_
  refine Run.region ?_
  refine RunL.ok (OpOk.assign rfl) rfl ?_
  refine RunL.ok (OpOk.assign rfl) rfl ?_
  refine RunL.nil ?_
  refine Run.seq ?_
  refine Run.seq ?_
  refine Run.region ?_
  refine RunL.ok (OpOk.move rfl) rfl ?_
  refine RunL.ok (OpOk.lss rfl rfl) rfl ?_
  refine RunL.ok (OpOk.move rfl) rfl ?_
  refine RunL.splitD (t := 8) rfl (fun x1 => ?_) (fun x1 => ?_)
  · refine RunL.off rfl rfl rfl rfl ?_
    refine RunL.off rfl rfl rfl rfl ?_
    refine RunL.ok (OpOk.pickT rfl rfl) rfl ?_
    refine RunL.ok (OpOk.move rfl) rfl ?_
    refine RunL.off rfl rfl rfl rfl ?_
    refine RunL.off rfl rfl rfl rfl ?_
    refine RunL.ok (OpOk.pickT rfl rfl) rfl ?_
    refine RunL.ok (OpOk.move rfl) rfl ?_
    refine RunL.off rfl rfl rfl rfl ?_
    refine RunL.off rfl rfl rfl rfl ?_
    refine RunL.ok (OpOk.pickT rfl rfl) rfl ?_
    refine RunL.nil ?_
    refine Run.condT rfl ?_
    refine Run.seq ?_
    refine Run.region ?_
    refine RunL.ok (OpOk.assign rfl) rfl ?_
    refine RunL.ok (OpOk.assign rfl) rfl ?_
    refine RunL.nil ?_
    refine Run.ret2 Try.func41 rfl rfl rfl ?_
    exact ⟨rfl, rfl⟩
  refine RunL.on rfl rfl ?_
  refine RunL.ok (OpOk.move rfl) rfl ?_
  refine RunL.on rfl rfl ?_
  refine RunL.ok (OpOk.gtr rfl rfl) rfl ?_
  refine RunL.ok (OpOk.pickF rfl rfl) rfl ?_
  refine RunL.ok (OpOk.move rfl) rfl ?_
  refine RunL.splitD (t := 12) rfl (fun x2 => ?_) (fun x2 => ?_)
  · refine RunL.off rfl rfl rfl rfl ?_
    refine RunL.off rfl rfl rfl rfl ?_
    refine RunL.ok (OpOk.pickT rfl rfl) rfl ?_
    refine RunL.ok (OpOk.move rfl) rfl ?_
    refine RunL.off rfl rfl rfl rfl ?_
    refine RunL.off rfl rfl rfl rfl ?_
    refine RunL.ok (OpOk.pickT rfl rfl) rfl ?_
    refine RunL.nil ?_
    refine Run.condT rfl ?_
    refine Run.seq ?_
    refine Run.region ?_
    refine RunL.ok (OpOk.assign rfl) rfl ?_
    refine RunL.ok (OpOk.assign rfl) rfl ?_
    refine RunL.nil ?_
    refine Run.ret2 Try.func41 rfl rfl rfl ?_
    exact ⟨rfl, rfl⟩
  refine RunL.on rfl rfl ?_
  refine RunL.ok (OpOk.move rfl) rfl ?_
  refine RunL.on rfl rfl ?_
  refine RunL.ok (OpOk.lss rfl rfl) rfl ?_
  refine RunL.ok (OpOk.pickF rfl rfl) rfl ?_
  refine RunL.ok (OpOk.move rfl) rfl ?_
  refine RunL.splitD (t := 16) rfl (fun x3 => ?_) (fun x3 => ?_)
  · refine RunL.off rfl rfl rfl rfl ?_
    refine RunL.off rfl rfl rfl rfl ?_
    refine RunL.ok (OpOk.pickT rfl rfl) rfl ?_
    refine RunL.nil ?_
    refine Run.condT rfl ?_
    refine Run.seq ?_
    refine Run.region ?_
    refine RunL.ok (OpOk.assign rfl) rfl ?_
    refine RunL.ok (OpOk.assign rfl) rfl ?_
    refine RunL.nil ?_
    refine Run.ret2 Try.func41 rfl rfl rfl ?_
    exact ⟨rfl, rfl⟩
  refine RunL.on rfl rfl ?_
  refine RunL.ok (OpOk.move rfl) rfl ?_
  refine RunL.on rfl rfl ?_
  refine RunL.ok (OpOk.asT (OpOk.gtr rfl rfl) (by omega)) rfl ?_
  refine RunL.ok (OpOk.pickF rfl rfl) rfl ?_
  refine RunL.nil ?_
  refine Run.condT rfl ?_
  refine Run.seq ?_
  refine Run.region ?_
  refine RunL.ok (OpOk.assign rfl) rfl ?_
  refine RunL.ok (OpOk.assign rfl) rfl ?_
  refine RunL.nil ?_
  refine Run.ret2 Try.func41 rfl rfl rfl ?_
  exact ⟨rfl, rfl⟩
theorem s41b {k : Nat} {room : Int} (h1 : 1 ≤ k) (h2 : k ≤ 4) (h3 : 1 ≤ room) (h4 : room ≤ 16) : Spec Try.prog w0 41 [.int .i64 (k : Int), .int .i64 room] A (fun v' A' => ∃ p qv, v' = .tuple #[.pointer (some ⟨p, 0, none⟩), .int .i64 0] ∧ A' = A * pts p (.cells #[qv, .int .i64 room, .int .i64 0] 119 (0, 0)) * own 123 1 qv (k + 1) (Fl encT123 ((List.replicate (k + 1) q0))) * ownsQ ((List.replicate (k + 1) q0))) := by
  refine Spec.of_run [(0, .int .i64 (k : Int)), (1, .int .i64 room)] Try.func41 rfl (Nat.le_of_ble_eq_true rfl) (by repeat (first | exact trivial | refine ⟨rfl, ?_⟩)) ?_
  refine Run.seq ?_
  refine Run.region ?_
  refine RunL.ok (OpOk.assign rfl) rfl ?_
  refine RunL.ok (OpOk.assign rfl) rfl ?_
  refine RunL.nil ?_
  refine Run.seq ?_
  refine Run.seq ?_
  refine Run.region ?_
  refine RunL.ok (OpOk.move rfl) rfl ?_
  refine RunL.ok (OpOk.asF (OpOk.lss rfl rfl) (by omega)) rfl ?_
  refine RunL.ok (OpOk.move rfl) rfl ?_
  refine RunL.on rfl rfl ?_
  refine RunL.ok (OpOk.move rfl) rfl ?_
  refine RunL.on rfl rfl ?_
  refine RunL.ok (OpOk.asF (OpOk.gtr rfl rfl) (by omega)) rfl ?_
  refine RunL.ok (OpOk.pickF rfl rfl) rfl ?_
  refine RunL.ok (OpOk.move rfl) rfl ?_
  refine RunL.on rfl rfl ?_
  refine RunL.ok (OpOk.move rfl) rfl ?_
  refine RunL.on rfl rfl ?_
  refine RunL.ok (OpOk.asF (OpOk.lss rfl rfl) (by omega)) rfl ?_
  refine RunL.ok (OpOk.pickF rfl rfl) rfl ?_
  refine RunL.ok (OpOk.move rfl) rfl ?_
  refine RunL.on rfl rfl ?_
  refine RunL.ok (OpOk.move rfl) rfl ?_
  refine RunL.on rfl rfl ?_
  refine RunL.ok (OpOk.asF (OpOk.gtr rfl rfl) (by omega)) rfl ?_
  refine RunL.ok (OpOk.pickF rfl rfl) rfl ?_
  refine RunL.nil ?_
  refine Run.condF rfl ?_
  refine Run.skip ?_
  refine Run.seq ?_
  refine Run.region ?_
  refine RunL.ok (OpOk.move rfl) rfl ?_
  refine RunL.ok (OpOk.addN _ 1 rfl rfl rfl rfl (by omega)) rfl ?_
  refine RunL.make rfl ti123 rfl rfl (by omega) (by simp only [maxLen]; omega) rfl (fun vx1 rdx1 => ?_)
  refine RunL.ok (OpOk.move rfl) rfl ?_
  refine RunL.know (fun w s => (s.conv rfl).ownRd0) (fun rdx2 => ?_)
  obtain ⟨adx3, capx3, rfl, hcapx3, hadx3⟩ := (rdx2).form
  refine RunL.ok (OpOk.build (cells := #[.slice (adx3) (k + 1) (capx3), .int (IntKind.i64) (room), .int (IntKind.i64) (0)]) rfl (fun w => run_build w 119 _ _ (by rfl))) rfl ?_
  refine RunL.box rfl rfl (fun bx4 => ?_)
  refine RunL.ok (OpOk.assign rfl) rfl ?_
  refine RunL.ok (OpOk.assign rfl) rfl ?_
  refine RunL.nil ?_
  refine Run.ret2 Try.func41 rfl rfl rfl ?_
  refine ⟨bx4, .slice adx3 (k + 1) capx3, rfl, ?_⟩
  rw [ownsQ_new, sep_emp, Fl_new, show (madeCells (Value.agg #[Value.slice none 0 0]).cells ((k + 1) * 1)).toList = List.replicate (k + 1) (.slice none 0 0) from made_one (.slice none 0 0) rfl (k + 1)]
  exact (frc (frl rfl) (frc rfl rfl))
end
end Go.Proofs.Ytegbfnibjgpbpaa
