/- The law StampSteps: going on twice is going on by the sum. -/
import Derived.Test.YtajjmephfoaiaaaSpA
import Derived.Test.YtajjmephfoaiaaaCod
namespace Go.Proofs.Ytajjmephfoaiaaa
open Go Go.Proofs
set_option maxRecDepth 100000
set_option maxHeartbeats 4000000
theorem rep_stamp (W : World) : Rep Try.prog W 29 (cP cI cI) 2 := rep_t Try.underlying29 (by rfl) (repF_cons rfl (rep_i Try.underlying3 rfl) (repF_one rfl (rep_i Try.underlying3 rfl)))
set_option linter.unusedVariables false
theorem stampSteps_walk {H : Type} {enc : TypeId × Value → H} (W : World) (base : Nat) (v0 : Value) (d0 : DataW H) (p0 : List MemPlace) (v1 : Value) (d1 : DataW H) (p1 : List MemPlace) (v2 : Value) (d2 : DataW H) (p2 : List MemPlace) (h0 : DataW.Trod enc Try.prog W 0 (fun _ => true) true 29 v0 d0 p0) (o0 : Value.okWide Try.prog W .any base 29 v0) (h1 : DataW.Trod enc Try.prog W 0 (fun _ => true) true 3 v1 d1 p1) (o1 : Value.okWide Try.prog W .any base 3 v1) (h2 : DataW.Trod enc Try.prog W 0 (fun _ => true) true 3 v2 d2 p2) (o2 : Value.okWide Try.prog W .any base 3 v2)
    (hk : (DataW.weightsEach Try.prog [29, 3, 3] [d0, d1, d2]).all (· ≤ reachBytes) = true) : Calls Try.prog 4 #[v0, v1, v2] W fun e W' => e = .returned (.bool true) ∧ RowKit.Below W.heap.size W W' := by
  obtain ⟨s, rfl, _⟩ := open_t Try.underlying29 (rep_stamp W) h0 o0
  obtain ⟨a, rfl, ha⟩ := open_i Try.underlying3 h1 o1
  obtain ⟨b, rfl, hb⟩ := open_i Try.underlying3 h2 o2
  exact law_walk (stampSteps_spec (s := s) ha hb)
end Go.Proofs.Ytajjmephfoaiaaa
