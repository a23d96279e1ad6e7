/- The law TlvBack: what was put is got, and what is got is put so: one form alone. -/
import Derived.Test.YtlheianbmpgefaaTvP
import Derived.Test.YtlheianbmpgefaaTvL
namespace Go.Proofs.Ytlheianbmpgefaa
open Go Go.Proofs
set_option maxRecDepth 100000
set_option maxHeartbeats 4000000
set_option linter.unusedVariables false
theorem tlvBack_walk {H : Type} {enc : TypeId × Value → H} (W : World) (base : Nat) (v0 : Value) (d0 : DataW H) (p0 : List MemPlace) (v1 : Value) (d1 : DataW H) (p1 : List MemPlace) (h0 : DataW.Trod enc Try.prog W 0 (fun _ => true) true 50 v0 d0 p0) (o0 : Value.okWide Try.prog W .any base 50 v0) (h1 : DataW.Trod enc Try.prog W 0 (fun _ => true) true 24 v1 d1 p1) (o1 : Value.okWide Try.prog W .any base 24 v1)
    (hk : (DataW.weightsEach Try.prog [50, 24] [d0, d1]).all (· ≤ reachBytes) = true) : Calls Try.prog 13 #[v0, v1] W fun e W' => e = .returned (.bool true) ∧ RowKit.Below W.heap.size W W' := by
  obtain ⟨xs, rd, al, hk2, _⟩ := open_els h0 o0
  obtain ⟨hs, hm⟩ := hk2 (sized_at hk (j := 0) rfl rfl)
  obtain ⟨b, rd2, _, hb, _⟩ := open_v (bytes := 1) Try.underlying24 (by rfl) (by rfl) (rep_u Try.underlying5 rfl) h1 o1
  have er : reachBytes = 140737488351232 := by decide
  have hl := (hb (sized_at hk (j := 1) rfl rfl)).1
  rw [er] at hl
  have hl2 : List.length (α := UInt8) b * 1 ≤ 140737488351232 := hl
  exact law_walk (tlvBack_spec (b := b) rd al hs hm (Eq.mp (congrArg (Rd W (old W) v1 1 (List.length b)) (Fl_u b)) rd2) (by omega))
end Go.Proofs.Ytlheianbmpgefaa
