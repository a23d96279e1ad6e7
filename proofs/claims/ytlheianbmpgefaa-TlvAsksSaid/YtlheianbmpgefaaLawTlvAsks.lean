/- The law TlvAsks: Same is the document's; Find is the first of the tag, a copy down to its bytes. -/
import Derived.Test.YtlheianbmpgefaaTvW
import Derived.Test.YtlheianbmpgefaaTvL
namespace Go.Proofs.Ytlheianbmpgefaa
open Go Go.Proofs
set_option maxRecDepth 100000
set_option maxHeartbeats 4000000
set_option linter.unusedVariables false
theorem tlvAsks_walk {H : Type} {enc : TypeId × Value → H} (W : World) (base : Nat) (v0 : Value) (d0 : DataW H) (p0 : List MemPlace) (v1 : Value) (d1 : DataW H) (p1 : List MemPlace) (v2 : Value) (d2 : DataW H) (p2 : List MemPlace) (h0 : DataW.Trod enc Try.prog W 0 (fun _ => true) true 50 v0 d0 p0) (o0 : Value.okWide Try.prog W .any base 50 v0) (h1 : DataW.Trod enc Try.prog W 0 (fun _ => true) true 50 v1 d1 p1) (o1 : Value.okWide Try.prog W .any base 50 v1) (h2 : DataW.Trod enc Try.prog W 0 (fun _ => true) true 3 v2 d2 p2) (o2 : Value.okWide Try.prog W .any base 3 v2)
    (hk : (DataW.weightsEach Try.prog [50, 50, 3] [d0, d1, d2]).all (· ≤ reachBytes) = true) : Calls Try.prog 14 #[v0, v1, v2] W fun e W' => e = .returned (.bool true) ∧ RowKit.Below W.heap.size W W' := by
  obtain ⟨xs, rd, al, hk2, _⟩ := open_els h0 o0
  obtain ⟨ys, rd2, al2, _, _⟩ := open_els h1 o1
  obtain ⟨hs, hm⟩ := hk2 (sized_at hk (j := 0) rfl rfl)
  obtain ⟨q, rfl, _⟩ := open_i Try.underlying3 h2 o2
  exact law_walk (tlvAsks_spec rd al rd2 al2 hs hm)
end Go.Proofs.Ytlheianbmpgefaa
