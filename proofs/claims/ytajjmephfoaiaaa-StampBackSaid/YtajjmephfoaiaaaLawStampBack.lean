/- The law StampBack: digits there and back. -/
import Derived.Test.YtajjmephfoaiaaaSpB
import Derived.Test.YtajjmephfoaiaaaCod
namespace Go.Proofs.Ytajjmephfoaiaaa
open Go Go.Proofs
set_option maxRecDepth 100000
set_option maxHeartbeats 4000000
set_option linter.unusedVariables false
theorem stampBack_walk {H : Type} {enc : TypeId × Value → H} (W : World) (base : Nat) (v0 : Value) (d0 : DataW H) (p0 : List MemPlace) (v1 : Value) (d1 : DataW H) (p1 : List MemPlace) (h0 : DataW.Trod enc Try.prog W 0 (fun _ => true) true 3 v0 d0 p0) (o0 : Value.okWide Try.prog W .any base 3 v0) (h1 : DataW.Trod enc Try.prog W 0 (fun _ => true) true 3 v1 d1 p1) (o1 : Value.okWide Try.prog W .any base 3 v1)
    (hk : (DataW.weightsEach Try.prog [3, 3] [d0, d1]).all (· ≤ reachBytes) = true) : Calls Try.prog 11 #[v0, v1] W fun e W' => e = .returned (.bool true) ∧ RowKit.Below W.heap.size W W' := by
  obtain ⟨a, rfl, ha⟩ := open_i Try.underlying3 h0 o0
  obtain ⟨b, rfl, hb⟩ := open_i Try.underlying3 h1 o1
  exact law_walk (stampBack_spec ha hb)
end Go.Proofs.Ytajjmephfoaiaaa
