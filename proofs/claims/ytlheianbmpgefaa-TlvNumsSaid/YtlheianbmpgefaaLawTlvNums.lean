/- The law TlvNums: Num and Int are the document's, and undo each other. -/
import Derived.Test.YtlheianbmpgefaaTvU
import Derived.Test.YtlheianbmpgefaaTvL
namespace Go.Proofs.Ytlheianbmpgefaa
open Go Go.Proofs
set_option maxRecDepth 100000
set_option maxHeartbeats 4000000
set_option linter.unusedVariables false
theorem tlvNums_walk {H : Type} {enc : TypeId × Value → H} (W : World) (base : Nat) (v0 : Value) (d0 : DataW H) (p0 : List MemPlace) (v1 : Value) (d1 : DataW H) (p1 : List MemPlace) (h0 : DataW.Trod enc Try.prog W 0 (fun _ => true) true 3 v0 d0 p0) (o0 : Value.okWide Try.prog W .any base 3 v0) (h1 : DataW.Trod enc Try.prog W 0 (fun _ => true) true 24 v1 d1 p1) (o1 : Value.okWide Try.prog W .any base 24 v1)
    (hk : (DataW.weightsEach Try.prog [3, 24] [d0, d1]).all (· ≤ reachBytes) = true) : Calls Try.prog 12 #[v0, v1] W fun e W' => e = .returned (.bool true) ∧ RowKit.Below W.heap.size W W' := by
  obtain ⟨z, rfl, _, hz⟩ := open_i Try.underlying3 h0 o0
  obtain ⟨b, rd, _, _, _⟩ := open_v (bytes := 1) Try.underlying24 (by rfl) (by rfl) (rep_u Try.underlying5 rfl) h1 o1
  exact law_walk (tlvNums_spec (b := b) hz (Eq.mp (congrArg (Rd W (old W) v1 1 (List.length b)) (Fl_u b)) rd))
end Go.Proofs.Ytlheianbmpgefaa
