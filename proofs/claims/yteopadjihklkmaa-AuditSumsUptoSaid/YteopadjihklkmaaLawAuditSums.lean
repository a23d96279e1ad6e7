/- The law AuditSums: Totals and Missing are the document's, of any postings and journeys (where what it reads is of bulk at most 1048576). -/
import Derived.Test.YteopadjihklkmaaAuZe
import Derived.Test.YteopadjihklkmaaAuY
namespace Go.Proofs.Yteopadjihklkmaa
open Go Go.Proofs
set_option maxRecDepth 100000
set_option maxHeartbeats 4000000
set_option linter.unusedVariables false
theorem auditSums_walk {H : Type} {enc : TypeId × Value → H} (W : World) (base : Nat) (v0 : Value) (d0 : DataW H) (p0 : List MemPlace) (h0 : DataW.Trod enc Try.prog W 0 (fun _ => true) true 34 v0 d0 p0) (o0 : Value.okWide Try.prog W .any base 34 v0)
    (hk : Rows.uptoSmall H [d0] = true) : Calls Try.prog 4 #[v0] W fun e W' => e = .returned (.bool true) ∧ RowKit.Below W.heap.size W W' := by
  have hb := bulk_small hk
  simp only [Rows.uptoBulkAll] at hb
  obtain ⟨⟨ops, ⟨sv, ps⟩, ⟨jv, js⟩, wv, ws⟩, rfl, good, _, hbk⟩ := open_t Try.underlying34 (rep_su W) h0 o0
  obtain ⟨rd, al, hin⟩ := good_pl good.2.1
  have hL := bulk_su (y := (ops, (sv, ps), (jv, js), (wv, ws))) (by omega)
  exact law_walk (auditSums_spec (ops := ops) (sv := sv) (jv := jv) (wv := wv) (ps := ps) (js := js) (ws := ws) rd al (good_jl good.2.2.1) (good_jl good.2.2.2) hin (fun q hq => Nat.le_trans (len_shs hq) hL) hL)
end Go.Proofs.Yteopadjihklkmaa
