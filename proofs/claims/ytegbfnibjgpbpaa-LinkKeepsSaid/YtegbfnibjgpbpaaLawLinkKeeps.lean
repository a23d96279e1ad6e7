/- The law LinkKeeps: each thing leaves as often as it was put and doubled. -/
import Derived.Test.YtegbfnibjgpbpaaLkH
import Derived.Test.YtegbfnibjgpbpaaCod
namespace Go.Proofs.Ytegbfnibjgpbpaa
open Go Go.Proofs
set_option maxRecDepth 100000
set_option maxHeartbeats 4000000
set_option linter.unusedVariables false
theorem linkKeeps_walk {H : Type} {enc : TypeId × Value → H} (W : World) (base : Nat) (v0 : Value) (d0 : DataW H) (p0 : List MemPlace) (v1 : Value) (d1 : DataW H) (p1 : List MemPlace) (v2 : Value) (d2 : DataW H) (p2 : List MemPlace) (h0 : DataW.Trod enc Try.prog W 0 (fun _ => true) true 22 v0 d0 p0) (o0 : Value.okWide Try.prog W .any base 22 v0) (h1 : DataW.Trod enc Try.prog W 0 (fun _ => true) true 48 v1 d1 p1) (o1 : Value.okWide Try.prog W .any base 48 v1) (h2 : DataW.Trod enc Try.prog W 0 (fun _ => true) true 9 v2 d2 p2) (o2 : Value.okWide Try.prog W .any base 9 v2)
    (hk : (DataW.weightsEach Try.prog [22, 48, 9] [d0, d1, d2]).all (· ≤ reachBytes) = true) : Calls Try.prog 6 #[v0, v1, v2] W fun e W' => e = .returned (.bool true) ∧ RowKit.Below W.heap.size W W' := by
  obtain ⟨ss, rd, _, _, _⟩ := open_v Try.underlying22 (by rfl) (by rfl) (rep_s Try.underlying9 rfl) h0 o0
  obtain ⟨is, rd2, good, _, _⟩ := open_v Try.underlying48 (by rfl) (by rfl) (rep_i Try.underlying3 rfl) h1 o1
  obtain ⟨o, rfl, _⟩ := open_str Try.underlying9 h2 o2
  exact law_walk (linkKeeps_spec (ss := ss) (is := is) (o := o) rd (Eq.mp (congrArg (Rd W (old W) v1 1 (List.length is)) (Fl_i is)) rd2) (fun z hz => good z hz))
end Go.Proofs.Ytegbfnibjgpbpaa
