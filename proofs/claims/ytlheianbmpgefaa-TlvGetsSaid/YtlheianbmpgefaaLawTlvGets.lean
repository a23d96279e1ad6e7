/- The law TlvGets: Get is the document's, of any bytes, which stay; what is read shares nothing with them. -/
import Derived.Test.YtlheianbmpgefaaTvK
import Derived.Test.YtlheianbmpgefaaTvL
namespace Go.Proofs.Ytlheianbmpgefaa
open Go Go.Proofs
set_option maxRecDepth 100000
set_option maxHeartbeats 4000000
set_option linter.unusedVariables false
theorem tlvGets_walk {H : Type} {enc : TypeId × Value → H} (W : World) (base : Nat) (v0 : Value) (d0 : DataW H) (p0 : List MemPlace) (h0 : DataW.Trod enc Try.prog W 0 (fun _ => true) true 24 v0 d0 p0) (o0 : Value.okWide Try.prog W .any base 24 v0)
    (hk : (DataW.weightsEach Try.prog [24] [d0]).all (· ≤ reachBytes) = true) : Calls Try.prog 9 #[v0] W fun e W' => e = .returned (.bool true) ∧ RowKit.Below W.heap.size W W' := by
  obtain ⟨b, rd, _, hb, _⟩ := open_v (bytes := 1) Try.underlying24 (by rfl) (by rfl) (rep_u Try.underlying5 rfl) h0 o0
  have er : reachBytes = 140737488351232 := by decide
  have hl := (hb (sized_at hk (j := 0) rfl rfl)).1
  rw [er] at hl
  have hl2 : List.length (α := UInt8) b * 1 ≤ 140737488351232 := hl
  exact law_walk (tlvGets_spec (b := b) (Eq.mp (congrArg (Rd W (old W) v0 1 (List.length b)) (Fl_u b)) rd) (by omega))
end Go.Proofs.Ytlheianbmpgefaa
