/- The law StampLatest: the latest of some. -/
import Derived.Test.YtajjmephfoaiaaaSpB
import Derived.Test.YtajjmephfoaiaaaCod
namespace Go.Proofs.Ytajjmephfoaiaaa
open Go Go.Proofs
set_option maxRecDepth 100000
set_option maxHeartbeats 4000000
theorem rep_stamp (W : World) : Rep Try.prog W 29 (cP cI cI) 2 := rep_t Try.underlying29 (by rfl) (repF_cons rfl (rep_i Try.underlying3 rfl) (repF_one rfl (rep_i Try.underlying3 rfl)))
set_option linter.unusedVariables false
theorem stampLatest_walk {H : Type} {enc : TypeId × Value → H} (W : World) (base : Nat) (v0 : Value) (d0 : DataW H) (p0 : List MemPlace) (h0 : DataW.Trod enc Try.prog W 0 (fun _ => true) true 52 v0 d0 p0) (o0 : Value.okWide Try.prog W .any base 52 v0)
    (hk : (DataW.weightsEach Try.prog [52] [d0]).all (· ≤ reachBytes) = true) : Calls Try.prog 12 #[v0] W fun e W' => e = .returned (.bool true) ∧ RowKit.Below W.heap.size W W' := by
  obtain ⟨ss, rd, _, _, _⟩ := open_v Try.underlying52 (by rfl) (by rfl) (rep_stamp W) h0 o0
  exact law_walk (stampLatest_spec (ss := ss) rd)
end Go.Proofs.Ytajjmephfoaiaaa
