/- The law RouterOrder: messages for one receiver are handed on in the order in which they were taken, each once; a queue never holds more than there is room for. -/
import Derived.Test.YtegbfnibjgpbpaaRtN
namespace Go.Proofs.Ytegbfnibjgpbpaa
open Go Go.Proofs
set_option maxRecDepth 100000
set_option maxHeartbeats 4000000
set_option linter.unusedVariables false
theorem routerOrder_walk {H : Type} {enc : TypeId × Value → H} (W : World) (base : Nat) (v0 : Value) (d0 : DataW H) (p0 : List MemPlace) (v1 : Value) (d1 : DataW H) (p1 : List MemPlace) (h0 : DataW.Trod enc Try.prog W 0 (fun _ => true) true 3 v0 d0 p0) (o0 : Value.okWide Try.prog W .any base 3 v0) (h1 : DataW.Trod enc Try.prog W 0 (fun _ => true) true 65 v1 d1 p1) (o1 : Value.okWide Try.prog W .any base 65 v1)
    (hk : (DataW.weightsEach Try.prog [3, 65] [d0, d1]).all (· ≤ reachBytes) = true) : Calls Try.prog 10 #[v0, v1] W fun e W' => e = .returned (.bool true) ∧ RowKit.Below W.heap.size W W' := by
  obtain ⟨room, rfl, _⟩ := open_i Try.underlying3 h0 o0
  obtain ⟨P, rd, _⟩ := open_ros h1 o1 (sized_at hk (j := 1) rfl rfl)
  exact law_walk (routerOrder_spec rd)
end Go.Proofs.Ytegbfnibjgpbpaa
