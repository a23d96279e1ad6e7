/- The law AuditTells: looks of anyone's are told postings in order, and no more once one said no; End is asked of each, up to the first that says no. -/
import Derived.Test.YteopadjihklkmaaAuX
import Derived.Test.YteopadjihklkmaaAuY
namespace Go.Proofs.Yteopadjihklkmaa
open Go Go.Proofs
set_option maxRecDepth 100000
set_option maxHeartbeats 4000000
abbrev cTl : Cod := cP cPl (cP cI (cP cI cB))
theorem rep_tl (W : World) : Rep Try.prog W 24 cTl 4 := rep_t (n := 1 + (1 + (1 + 1))) Try.underlying24 (by rfl) (repF_cons rfl (rep_pl W) (repF_cons rfl (rep_i Try.underlying3 rfl) (repF_cons rfl (rep_i Try.underlying3 rfl) (repF_one rfl (rep_b Try.underlying4 rfl)))))
set_option linter.unusedVariables false
theorem auditTells_walk {H : Type} {enc : TypeId × Value → H} (W : World) (base : Nat) (v0 : Value) (d0 : DataW H) (p0 : List MemPlace) (h0 : DataW.Trod enc Try.prog W 0 (fun _ => true) true 24 v0 d0 p0) (o0 : Value.okWide Try.prog W .any base 24 v0)
    (hk : (DataW.weightsEach Try.prog [24] [d0]).all (· ≤ reachBytes) = true) : Calls Try.prog 3 #[v0] W fun e W' => e = .returned (.bool true) ∧ RowKit.Below W.heap.size W W' := by
  obtain ⟨⟨⟨sv, ps⟩, a, b, last⟩, rfl, good, sized, _⟩ := open_t Try.underlying24 (rep_tl W) h0 o0
  obtain ⟨rd, al, _⟩ := good_pl good.1
  exact law_walk (auditTells_spec (a := a) (b := b) (last := last) (sv := sv) (ps := ps) rd al (sized_pl (sized (sized_at hk (j := 0) rfl rfl)).1))
end Go.Proofs.Yteopadjihklkmaa
