/- The law StampOrder: the later one is behind. -/
import Derived.Test.YtajjmephfoaiaaaSpB
import Derived.Test.YtajjmephfoaiaaaCod
namespace Go.Proofs.Ytajjmephfoaiaaa
open Go Go.Proofs
set_option maxRecDepth 100000
set_option maxHeartbeats 4000000
theorem rep_stamp (W : World) : Rep Try.prog W 29 (cP cI cI) 2 := rep_t Try.underlying29 (by rfl) (repF_cons rfl (rep_i Try.underlying3 rfl) (repF_one rfl (rep_i Try.underlying3 rfl)))
set_option linter.unusedVariables false
theorem stampOrder_walk {H : Type} {enc : TypeId × Value → H} (W : World) (base : Nat) (v0 : Value) (d0 : DataW H) (p0 : List MemPlace) (v1 : Value) (d1 : DataW H) (p1 : List MemPlace) (h0 : DataW.Trod enc Try.prog W 0 (fun _ => true) true 29 v0 d0 p0) (o0 : Value.okWide Try.prog W .any base 29 v0) (h1 : DataW.Trod enc Try.prog W 0 (fun _ => true) true 29 v1 d1 p1) (o1 : Value.okWide Try.prog W .any base 29 v1)
    (hk : (DataW.weightsEach Try.prog [29, 29] [d0, d1]).all (· ≤ reachBytes) = true) : Calls Try.prog 13 #[v0, v1] W fun e W' => e = .returned (.bool true) ∧ RowKit.Below W.heap.size W W' := by
  obtain ⟨a, rfl, _⟩ := open_t Try.underlying29 (rep_stamp W) h0 o0
  obtain ⟨b, rfl, _⟩ := open_t Try.underlying29 (rep_stamp W) h1 o1
  exact law_walk (stampOrder_spec (a := a) (b := b))
end Go.Proofs.Ytajjmephfoaiaaa
