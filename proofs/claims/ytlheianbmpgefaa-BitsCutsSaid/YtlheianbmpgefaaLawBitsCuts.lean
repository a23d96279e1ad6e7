/- The law BitsCuts: of a beginning of the bytes the same numbers are taken. -/
import Derived.Test.YtlheianbmpgefaaBiC
import Derived.Test.YtlheianbmpgefaaCod
namespace Go.Proofs.Ytlheianbmpgefaa
open Go Go.Proofs
set_option maxRecDepth 100000
set_option maxHeartbeats 4000000
set_option linter.unusedVariables false
theorem bitsCuts_walk {H : Type} {enc : TypeId × Value → H} (W : World) (base : Nat) (v0 : Value) (d0 : DataW H) (p0 : List MemPlace) (v1 : Value) (d1 : DataW H) (p1 : List MemPlace) (v2 : Value) (d2 : DataW H) (p2 : List MemPlace) (h0 : DataW.Trod enc Try.prog W 0 (fun _ => true) true 24 v0 d0 p0) (o0 : Value.okWide Try.prog W .any base 24 v0) (h1 : DataW.Trod enc Try.prog W 0 (fun _ => true) true 42 v1 d1 p1) (o1 : Value.okWide Try.prog W .any base 42 v1) (h2 : DataW.Trod enc Try.prog W 0 (fun _ => true) true 3 v2 d2 p2) (o2 : Value.okWide Try.prog W .any base 3 v2)
    (hk : (DataW.weightsEach Try.prog [24, 42, 3] [d0, d1, d2]).all (· ≤ reachBytes) = true) : Calls Try.prog 5 #[v0, v1, v2] W fun e W' => e = .returned (.bool true) ∧ RowKit.Below W.heap.size W W' := by
  obtain ⟨xs, rd, _, _, _⟩ := open_v Try.underlying24 (by rfl) (by rfl) (rep_u Try.underlying5 rfl) h0 o0
  obtain ⟨ws, rd2, _, _, _⟩ := open_v Try.underlying42 (by rfl) (by rfl) (rep_i Try.underlying3 rfl) h1 o1
  obtain ⟨cut, rfl, _⟩ := open_i Try.underlying3 h2 o2
  exact law_walk (bitsCuts_spec (xs := xs) (ws := ws) (cut := cut) (Eq.mp (congrArg (Rd W (old W) v0 1 (List.length xs)) (Fl_u xs)) rd) (Eq.mp (congrArg (Rd W (old W) v1 1 (List.length ws)) (Fl_i ws)) rd2))
end Go.Proofs.Ytlheianbmpgefaa
