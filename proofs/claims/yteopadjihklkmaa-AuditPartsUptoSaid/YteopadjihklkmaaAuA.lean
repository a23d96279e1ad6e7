/- The makers of audit's looks. -/
import Derived.Test.YteopadjihklkmaaLib
import Derived.Test.YteopadjihklkmaaLe
import Derived.Test.YteopadjihklkmaaSto
import Derived.Test.YteopadjihklkmaaIf
namespace Go.Proofs.Yteopadjihklkmaa
open Go Go.Proofs
set_option maxRecDepth 100000
set_option maxHeartbeats 4000000
set_option linter.unusedSimpArgs false
section
variable {w0 : World} {A : Asn}
theorem s61 : Spec Try.prog w0 61 [] A (fun v' A' => v' = .iface 187 (.agg #[]) ∧ A' = A) := by
  refine Spec.of_run [] Try.func61 rfl (Nat.le_of_ble_eq_true rfl) (by repeat (first | exact trivial | refine ⟨rfl, ?_⟩)) ?_
  refine Run.seq ?_
  refine Run.region ?_
  refine RunL.ok (OpOk.assign rfl) rfl ?_
  refine RunL.nil ?_
  refine Run.seq ?_
  refine Run.region ?_
  refine RunL.ok (OpOk.build rfl (fun w => run_build w 187 _ _ (by rfl))) rfl ?_
  refine RunL.ok (OpOk.makeIface (fun w => by kernel_rfl) rfl) rfl ?_
  refine RunL.ok (OpOk.assign rfl) rfl ?_
  refine RunL.nil ?_
  refine Run.ret1 Try.func61 rfl rfl ?_
  exact ⟨rfl, rfl⟩
theorem s137 : Spec Try.prog w0 137 [.agg #[]] A (fun v' A' => ∃ J, v' = .bool true ∧ A' = A * J) := by
  refine Spec.of_run [(0, .agg #[])] Try.func137 rfl (Nat.le_of_ble_eq_true rfl) (by repeat (first | exact trivial | refine ⟨rfl, ?_⟩)) ?_
  refine Run.seq ?_
  refine Run.region ?_
  refine RunL.box rfl rfl (fun bx1 => ?_)
  refine RunL.ok (OpOk.assign rfl) rfl ?_
  refine RunL.nil ?_
  refine Run.seq ?_
  refine Run.region ?_
  refine RunL.ok (OpOk.assign rfl) rfl ?_
  refine RunL.nil ?_
  refine Run.ret1 Try.func137 rfl rfl ?_
  exact ⟨_, rfl, as1⟩
end
end Go.Proofs.Yteopadjihklkmaa
