/- The law JournalAgain: a journal that is opened again tells the same, its file stays as it is, and what is appended then stands behind. -/
import Derived.Test.YteopadjihklkmaaJnL
import Derived.Test.YteopadjihklkmaaBk
namespace Go.Proofs.Yteopadjihklkmaa
open Go Go.Proofs
set_option maxRecDepth 100000
set_option maxHeartbeats 4000000
set_option linter.unusedVariables false
theorem journalAgain_walk {H : Type} {enc : TypeId × Value → H} (W : World) (base : Nat) (v0 : Value) (d0 : DataW H) (p0 : List MemPlace) (v1 : Value) (d1 : DataW H) (p1 : List MemPlace) (h0 : DataW.Trod enc Try.prog W 0 (fun _ => true) true 63 v0 d0 p0) (o0 : Value.okWide Try.prog W .any base 63 v0) (h1 : DataW.Trod enc Try.prog W 0 (fun _ => true) true 63 v1 d1 p1) (o1 : Value.okWide Try.prog W .any base 63 v1)
    (hk : (DataW.weightsEach Try.prog [63, 63] [d0, d1]).all (· ≤ reachBytes) = true) : Calls Try.prog 7 #[v0, v1] W fun e W' => e = .returned (.bool true) ∧ RowKit.Below W.heap.size W W' := by
  obtain ⟨m, bs, rfl, rd, _⟩ := open_bytes Try.underlying63 Try.underlying5 rfl h0 o0
  obtain ⟨m2, bs2, rfl, rd2, _⟩ := open_bytes Try.underlying63 Try.underlying5 rfl h1 o1
  exact law_walk (journalAgain_spec rd rd2)
end Go.Proofs.Yteopadjihklkmaa
