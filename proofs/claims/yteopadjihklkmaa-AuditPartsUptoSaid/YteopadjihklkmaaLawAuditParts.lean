/- The law AuditParts: postings told in two lists sum to what all sum to; what is missing of all is what is missing behind both (where what it reads is of bulk at most 1048576). -/
import Derived.Test.YteopadjihklkmaaAuZg
import Derived.Test.YteopadjihklkmaaAuY
namespace Go.Proofs.Yteopadjihklkmaa
open Go Go.Proofs
set_option maxRecDepth 100000
set_option maxHeartbeats 4000000
set_option linter.unusedVariables false
theorem auditParts_walk {H : Type} {enc : TypeId × Value → H} (W : World) (base : Nat) (v0 : Value) (d0 : DataW H) (p0 : List MemPlace) (v1 : Value) (d1 : DataW H) (p1 : List MemPlace) (h0 : DataW.Trod enc Try.prog W 0 (fun _ => true) true 34 v0 d0 p0) (o0 : Value.okWide Try.prog W .any base 34 v0) (h1 : DataW.Trod enc Try.prog W 0 (fun _ => true) true 3 v1 d1 p1) (o1 : Value.okWide Try.prog W .any base 3 v1)
    (hk : Rows.uptoSmall H [d0, d1] = true) : Calls Try.prog 5 #[v0, v1] W fun e W' => e = .returned (.bool true) ∧ RowKit.Below W.heap.size W W' := by
  have hb := bulk_small hk
  simp only [Rows.uptoBulkAll] at hb
  obtain ⟨⟨ops, ⟨sv, ps⟩, ⟨jv, js⟩, wv, ws⟩, rfl, good, _, hbk⟩ := open_t Try.underlying34 (rep_su W) h0 o0
  obtain ⟨cut, rfl, _⟩ := open_i Try.underlying3 h1 o1
  obtain ⟨rd, al, hin⟩ := good_pl good.2.1
  have hL := bulk_su (y := (ops, (sv, ps), (jv, js), (wv, ws))) (by omega)
  exact law_walk (auditParts_spec (ops := ops) (cut := cut) (sv := sv) (jv := jv) (wv := wv) (ps := ps) (js := js) rd al (good_jl good.2.2.1) hin hL)
end Go.Proofs.Yteopadjihklkmaa
