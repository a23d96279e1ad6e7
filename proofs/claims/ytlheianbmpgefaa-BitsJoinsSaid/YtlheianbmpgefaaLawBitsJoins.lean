/- The law BitsJoins: fields written in two goes are those written in one. -/
import Derived.Test.YtlheianbmpgefaaBiB
import Derived.Test.YtlheianbmpgefaaCod
namespace Go.Proofs.Ytlheianbmpgefaa
open Go Go.Proofs
set_option maxRecDepth 100000
set_option maxHeartbeats 4000000
theorem rep_field (W : World) : Rep Try.prog W 31 (cP cI cI) 2 := rep_t Try.underlying31 (by rfl) (repF_cons rfl (rep_i Try.underlying3 rfl) (repF_one rfl (rep_i Try.underlying3 rfl)))
set_option linter.unusedVariables false
theorem bitsJoins_walk {H : Type} {enc : TypeId × Value → H} (W : World) (base : Nat) (v0 : Value) (d0 : DataW H) (p0 : List MemPlace) (v1 : Value) (d1 : DataW H) (p1 : List MemPlace) (h0 : DataW.Trod enc Try.prog W 0 (fun _ => true) true 27 v0 d0 p0) (o0 : Value.okWide Try.prog W .any base 27 v0) (h1 : DataW.Trod enc Try.prog W 0 (fun _ => true) true 27 v1 d1 p1) (o1 : Value.okWide Try.prog W .any base 27 v1)
    (hk : (DataW.weightsEach Try.prog [27, 27] [d0, d1]).all (· ≤ reachBytes) = true) : Calls Try.prog 7 #[v0, v1] W fun e W' => e = .returned (.bool true) ∧ RowKit.Below W.heap.size W W' := by
  obtain ⟨a, rd, _, _, _⟩ := open_v Try.underlying27 (by rfl) (by rfl) (rep_field W) h0 o0
  obtain ⟨b, rd2, _, _, _⟩ := open_v Try.underlying27 (by rfl) (by rfl) (rep_field W) h1 o1
  exact law_walk (bitsJoins_spec (a := a) (b := b) rd rd2)
end Go.Proofs.Ytlheianbmpgefaa
