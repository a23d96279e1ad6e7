/- The law LinkPlays: whatever is put, taken, doubled and swept, answers and what is left are the document's (where what it reads is of bulk at most 1048576). -/
import Derived.Test.YtegbfnibjgpbpaaLkK
namespace Go.Proofs.Ytegbfnibjgpbpaa
open Go Go.Proofs
set_option maxRecDepth 100000
set_option maxHeartbeats 4000000
set_option linter.unusedVariables false
theorem linkPlays_walk {H : Type} {enc : TypeId × Value → H} (W : World) (base : Nat) (v0 : Value) (d0 : DataW H) (p0 : List MemPlace) (h0 : DataW.Trod enc Try.prog W 0 (fun _ => true) true 37 v0 d0 p0) (o0 : Value.okWide Try.prog W .any base 37 v0)
    (hk : Rows.uptoSmall H [d0] = true) : Calls Try.prog 5 #[v0] W fun e W' => e = .returned (.bool true) ∧ RowKit.Below W.heap.size W W' := by
  have hb := bulk_small hk
  simp only [Rows.uptoBulkAll] at hb
  obtain ⟨ops, rd, hok, hp⟩ := open_los h0 o0 (by omega)
  exact law_walk (linkPlays_spec rd hok hp)
end Go.Proofs.Ytegbfnibjgpbpaa
