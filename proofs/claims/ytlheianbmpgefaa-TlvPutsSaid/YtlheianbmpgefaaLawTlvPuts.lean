/- The law TlvPuts: Put is the document's, of any elements, which stay. -/
import Derived.Test.YtlheianbmpgefaaTvK
import Derived.Test.YtlheianbmpgefaaTvL
namespace Go.Proofs.Ytlheianbmpgefaa
open Go Go.Proofs
set_option maxRecDepth 100000
set_option maxHeartbeats 4000000
set_option linter.unusedVariables false
theorem tlvPuts_walk {H : Type} {enc : TypeId × Value → H} (W : World) (base : Nat) (v0 : Value) (d0 : DataW H) (p0 : List MemPlace) (h0 : DataW.Trod enc Try.prog W 0 (fun _ => true) true 50 v0 d0 p0) (o0 : Value.okWide Try.prog W .any base 50 v0)
    (hk : (DataW.weightsEach Try.prog [50] [d0]).all (· ≤ reachBytes) = true) : Calls Try.prog 8 #[v0] W fun e W' => e = .returned (.bool true) ∧ RowKit.Below W.heap.size W W' := by
  obtain ⟨xs, rd, al, hk2, _⟩ := open_els h0 o0
  obtain ⟨hs, hm⟩ := hk2 (sized_at hk (j := 0) rfl rfl)
  exact law_walk (tlvPuts_spec rd al hs hm)
end Go.Proofs.Ytlheianbmpgefaa
