/- The law's own looks: they count what they are told. -/
import Derived.Test.YteopadjihklkmaaAuA
namespace Go.Proofs.Yteopadjihklkmaa
open Go Go.Proofs
set_option maxRecDepth 100000
set_option maxHeartbeats 4000000
set_option linter.unusedSimpArgs false
section
variable {w0 : World} {A : Asn}
theorem s134 {b : Nat} {n k e : Int} {l : Bool} {q : Array Value} :
    Spec Try.prog w0 134 [.pointer (some ⟨b, 0, none⟩), .agg q] (A * pts b (.cells #[.int .i64 (n), .int .i64 (k), .int .i64 (e), .bool (l)] 28 (0, 0))) (fun v' A' => ∃ J, v' = .bool (!decide (IntKind.i64.wrap (k + 1) = n)) ∧ A' = A * J * pts b (.cells #[.int .i64 (n), .int .i64 ((IntKind.i64.wrap (k + 1))), .int .i64 (e), .bool (l)] 28 (0, 0))) := by
  refine Spec.of_run [(0, .pointer (some ⟨b, 0, none⟩)), (1, .agg q)] Try.func134 rfl (Nat.le_of_ble_eq_true rfl) (by repeat (first | exact trivial | refine ⟨rfl, ?_⟩)) ?_
  refine Run.seq ?_
  refine Run.region ?_
  refine RunL.box rfl rfl (fun bx1 => ?_)
  refine RunL.ok (OpOk.assign rfl) rfl ?_
  refine RunL.nil ?_
  refine Run.seq ?_
  refine Run.region ?_
  refine RunL.ok (OpOk.move rfl) rfl ?_
  refine RunL.ok (OpOk.nilOk rfl) rfl ?_
  refine RunL.ok (OpOk.fieldAddr fld28_1 rfl) rfl ?_
  refine RunL.ok (OpOk.load rfl rfl rfl (Blk.out Blk.pts.left _ _ (by first | rfl | assumption))) rfl ?_
  refine RunL.ok (OpOk.add rfl rfl rfl) rfl ?_
  refine RunL.ok (OpOk.nilOk rfl) rfl ?_
  refine RunL.ok (OpOk.fieldAddr fld28_1 rfl) rfl ?_
  refine RunL.store ti3 rfl rfl rfl (frl rfl) (by exact Nat.le_of_ble_eq_true rfl) (.inl rfl) ?_
  refine RunL.nil ?_
  refine Run.seq ?_
  refine Run.drop [4] ?_
  (apply Run.drawD [] (by rfl) (sep_emp _).symm; case hchk => kernel_rfl)
  refine Sd.quiet 0 _ _ rfl rfl rfl rfl rfl (QOp.ok (fun X => OpOk.move rfl)) ?_
  refine Sd.quiet 1 _ _ rfl rfl rfl rfl rfl (QOp.ok (fun X => OpOk.nilOk rfl)) ?_
  refine Sd.quiet 2 _ _ rfl rfl rfl rfl rfl (QOp.ok (fun X => OpOk.fieldAddr fld28_1 rfl)) ?_
  refine Sd.quiet 3 _ _ rfl rfl rfl rfl rfl (QOp.ok (fun X => OpOk.load rfl rfl rfl (Blk.out Blk.pts.left.left _ _ (by first | rfl | assumption)))) ?_
  refine Sd.quiet 4 _ _ rfl rfl rfl rfl rfl (QOp.ok (fun X => OpOk.move rfl)) ?_
  refine Sd.quiet 5 _ _ rfl rfl rfl rfl rfl (QOp.ok (fun X => OpOk.nilOk rfl)) ?_
  refine Sd.quiet 6 _ _ rfl rfl rfl rfl rfl (QOp.ok (fun X => OpOk.fieldAddr fld28_0 rfl)) ?_
  refine Sd.quiet 7 _ _ rfl rfl rfl rfl rfl (QOp.ok (fun X => OpOk.load rfl rfl rfl (Blk.out Blk.pts.left.left _ _ (by first | rfl | assumption)))) ?_
  refine Sd.quiet 8 _ _ rfl rfl rfl rfl rfl (QOp.ok (fun X => OpOk.neq rfl rfl)) ?_
  refine Sd.quiet 9 _ _ rfl rfl rfl rfl rfl (QOp.ok (fun X => OpOk.assign rfl)) ?_
  (apply Sd.tail; case hall => kernel_rfl)
  refine RunL.mem (fl2 (sep_emp _) (sep_emp _)) ?_
  refine RunL.nil ?_
  refine Run.ret1 Try.func134 rfl rfl ?_
  exact ⟨_, rfl, (Eq.trans (frc rfl rfl) (congrArg (· * _) as1))⟩
theorem s133 {b : Nat} {n k e : Int} {l : Bool} :
    Spec Try.prog w0 133 [.pointer (some ⟨b, 0, none⟩)] (A * pts b (.cells #[.int .i64 (n), .int .i64 (k), .int .i64 (e), .bool (l)] 28 (0, 0))) (fun v' A' => ∃ J, v' = .bool (!l) ∧ A' = A * J * pts b (.cells #[.int .i64 (n), .int .i64 (k), .int .i64 ((IntKind.i64.wrap (e + 1))), .bool (l)] 28 (0, 0))) := by
  refine Spec.of_run [(0, .pointer (some ⟨b, 0, none⟩))] Try.func133 rfl (Nat.le_of_ble_eq_true rfl) (by repeat (first | exact trivial | refine ⟨rfl, ?_⟩)) ?_
  refine Run.seq ?_
  refine Run.region ?_
  refine RunL.ok (OpOk.assign rfl) rfl ?_
  refine RunL.nil ?_
  refine Run.seq ?_
  refine Run.region ?_
  refine RunL.ok (OpOk.move rfl) rfl ?_
  refine RunL.ok (OpOk.nilOk rfl) rfl ?_
  refine RunL.ok (OpOk.fieldAddr fld28_2 rfl) rfl ?_
  refine RunL.ok (OpOk.load rfl rfl rfl (Blk.out Blk.pts _ _ (by first | rfl | assumption))) rfl ?_
  refine RunL.ok (OpOk.add rfl rfl rfl) rfl ?_
  refine RunL.ok (OpOk.nilOk rfl) rfl ?_
  refine RunL.ok (OpOk.fieldAddr fld28_2 rfl) rfl ?_
  refine RunL.store ti3 rfl rfl rfl rfl (by exact Nat.le_of_ble_eq_true rfl) (.inl rfl) ?_
  refine RunL.nil ?_
  refine Run.seq ?_
  refine Run.region ?_
  refine RunL.ok (OpOk.move rfl) rfl ?_
  refine RunL.ok (OpOk.nilOk rfl) rfl ?_
  refine RunL.ok (OpOk.fieldAddr fld28_3 rfl) rfl ?_
  refine RunL.ok (OpOk.load rfl rfl rfl (Blk.out Blk.pts _ _ (by first | rfl | assumption))) rfl ?_
  refine RunL.ok (OpOk.not rfl) rfl ?_
  refine RunL.ok (OpOk.assign rfl) rfl ?_
  refine RunL.nil ?_
  refine Run.ret1 Try.func133 rfl rfl ?_
  exact ⟨_, rfl, (Eq.trans (frc rfl rfl) (congrArg (· * _) as0))⟩
end
end Go.Proofs.Yteopadjihklkmaa
