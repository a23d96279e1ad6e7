/- The law JournalOpens: whatever bytes a file has, Open tells the rows that it says, and cuts it to them. -/
import Derived.Test.YteopadjihklkmaaJnJ
import Derived.Test.YteopadjihklkmaaBk
namespace Go.Proofs.Yteopadjihklkmaa
open Go Go.Proofs
set_option maxRecDepth 100000
set_option maxHeartbeats 4000000
set_option linter.unusedVariables false
theorem journalOpens_walk {H : Type} {enc : TypeId × Value → H} (W : World) (base : Nat) (v0 : Value) (d0 : DataW H) (p0 : List MemPlace) (h0 : DataW.Trod enc Try.prog W 0 (fun _ => true) true 63 v0 d0 p0) (o0 : Value.okWide Try.prog W .any base 63 v0)
    (hk : (DataW.weightsEach Try.prog [63] [d0]).all (· ≤ reachBytes) = true) : Calls Try.prog 9 #[v0] W fun e W' => e = .returned (.bool true) ∧ RowKit.Below W.heap.size W W' := by
  obtain ⟨m, bs, rfl, rd, _⟩ := open_bytes Try.underlying63 Try.underlying5 rfl h0 o0
  exact law_walk (journalOpens_spec rd)
end Go.Proofs.Yteopadjihklkmaa
