/- The law TlvCuts: no beginning of a form with elements is a form of as many, and none of what is cut off within the last element is read. -/
import Derived.Test.YtlheianbmpgefaaTvQ
import Derived.Test.YtlheianbmpgefaaTvL
namespace Go.Proofs.Ytlheianbmpgefaa
open Go Go.Proofs
set_option maxRecDepth 100000
set_option maxHeartbeats 4000000
set_option linter.unusedVariables false
theorem tlvCuts_walk {H : Type} {enc : TypeId × Value → H} (W : World) (base : Nat) (v0 : Value) (d0 : DataW H) (p0 : List MemPlace) (v1 : Value) (d1 : DataW H) (p1 : List MemPlace) (h0 : DataW.Trod enc Try.prog W 0 (fun _ => true) true 50 v0 d0 p0) (o0 : Value.okWide Try.prog W .any base 50 v0) (h1 : DataW.Trod enc Try.prog W 0 (fun _ => true) true 3 v1 d1 p1) (o1 : Value.okWide Try.prog W .any base 3 v1)
    (hk : (DataW.weightsEach Try.prog [50, 3] [d0, d1]).all (· ≤ reachBytes) = true) : Calls Try.prog 10 #[v0, v1] W fun e W' => e = .returned (.bool true) ∧ RowKit.Below W.heap.size W W' := by
  obtain ⟨xs, rd, al, hk2, _⟩ := open_els h0 o0
  obtain ⟨hs, hm⟩ := hk2 (sized_at hk (j := 0) rfl rfl)
  obtain ⟨cut, rfl, _⟩ := open_i Try.underlying3 h1 o1
  exact law_walk (tlvCuts_spec rd al hs hm)
end Go.Proofs.Ytlheianbmpgefaa
