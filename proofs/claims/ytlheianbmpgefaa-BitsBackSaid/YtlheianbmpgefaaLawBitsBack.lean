/- The law BitsBack: what was put is taken so. -/
import Derived.Test.YtlheianbmpgefaaBiA
import Derived.Test.YtlheianbmpgefaaCod
namespace Go.Proofs.Ytlheianbmpgefaa
open Go Go.Proofs
set_option maxRecDepth 100000
set_option maxHeartbeats 4000000
theorem rep_field (W : World) : Rep Try.prog W 31 (cP cI cI) 2 := rep_t Try.underlying31 (by rfl) (repF_cons rfl (rep_i Try.underlying3 rfl) (repF_one rfl (rep_i Try.underlying3 rfl)))
set_option linter.unusedVariables false
theorem bitsBack_walk {H : Type} {enc : TypeId × Value → H} (W : World) (base : Nat) (v0 : Value) (d0 : DataW H) (p0 : List MemPlace) (h0 : DataW.Trod enc Try.prog W 0 (fun _ => true) true 27 v0 d0 p0) (o0 : Value.okWide Try.prog W .any base 27 v0)
    (hk : (DataW.weightsEach Try.prog [27] [d0]).all (· ≤ reachBytes) = true) : Calls Try.prog 6 #[v0] W fun e W' => e = .returned (.bool true) ∧ RowKit.Below W.heap.size W W' := by
  obtain ⟨fs, rd, _, _, _⟩ := open_v Try.underlying27 (by rfl) (by rfl) (rep_field W) h0 o0
  exact law_walk (bitsBack_spec (fs := fs) rd)
end Go.Proofs.Ytlheianbmpgefaa
