/- The law LedgerPlays: whatever is posted, in lists, errors, balances and postings are the document's (where what it reads is of bulk at most 1048576). -/
import Derived.Test.YtegbfnibjgpbpaaLgM
import Derived.Test.YtegbfnibjgpbpaaLgd
namespace Go.Proofs.Ytegbfnibjgpbpaa
open Go Go.Proofs
set_option maxRecDepth 100000
set_option maxHeartbeats 4000000
set_option linter.unusedVariables false
theorem ledgerPlays_walk {H : Type} {enc : TypeId × Value → H} (W : World) (base : Nat) (v0 : Value) (d0 : DataW H) (p0 : List MemPlace) (v1 : Value) (d1 : DataW H) (p1 : List MemPlace) (h0 : DataW.Trod enc Try.prog W 0 (fun _ => true) true 3 v0 d0 p0) (o0 : Value.okWide Try.prog W .any base 3 v0) (h1 : DataW.Trod enc Try.prog W 0 (fun _ => true) true 93 v1 d1 p1) (o1 : Value.okWide Try.prog W .any base 93 v1)
    (hk : Rows.uptoSmall H [d0, d1] = true) : Calls Try.prog 12 #[v0, v1] W fun e W' => e = .returned (.bool true) ∧ RowKit.Below W.heap.size W W' := by
  have hb := bulk_small hk
  simp only [Rows.uptoBulkAll] at hb
  obtain ⟨ops, rfl, _⟩ := open_i Try.underlying3 h0 o0
  obtain ⟨P, rd, hok⟩ := open_pss h1 o1 (by omega)
  exact law_walk (ledgerPlays_spec rd hok)
end Go.Proofs.Ytegbfnibjgpbpaa
