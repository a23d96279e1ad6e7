/- The law LinkSweeps: swept again by the same rule nothing leaves; swept by what was kept all leaves. -/
import Derived.Test.YtegbfnibjgpbpaaLkG
import Derived.Test.YtegbfnibjgpbpaaCod
namespace Go.Proofs.Ytegbfnibjgpbpaa
open Go Go.Proofs
set_option maxRecDepth 100000
set_option maxHeartbeats 4000000
set_option linter.unusedVariables false
theorem linkSweeps_walk {H : Type} {enc : TypeId × Value → H} (W : World) (base : Nat) (v0 : Value) (d0 : DataW H) (p0 : List MemPlace) (v1 : Value) (d1 : DataW H) (p1 : List MemPlace) (h0 : DataW.Trod enc Try.prog W 0 (fun _ => true) true 22 v0 d0 p0) (o0 : Value.okWide Try.prog W .any base 22 v0) (h1 : DataW.Trod enc Try.prog W 0 (fun _ => true) true 9 v1 d1 p1) (o1 : Value.okWide Try.prog W .any base 9 v1)
    (hk : (DataW.weightsEach Try.prog [22, 9] [d0, d1]).all (· ≤ reachBytes) = true) : Calls Try.prog 4 #[v0, v1] W fun e W' => e = .returned (.bool true) ∧ RowKit.Below W.heap.size W W' := by
  obtain ⟨ss, rd, _, _, _⟩ := open_v Try.underlying22 (by rfl) (by rfl) (rep_s Try.underlying9 rfl) h0 o0
  obtain ⟨o, rfl, _⟩ := open_str Try.underlying9 h1 o1
  exact law_walk (linkSweeps_spec (ss := ss) (o := o) rd)
end Go.Proofs.Ytegbfnibjgpbpaa
