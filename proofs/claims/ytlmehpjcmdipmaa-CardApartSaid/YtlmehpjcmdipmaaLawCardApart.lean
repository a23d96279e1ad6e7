/- The law CardApart: a write changes its sector alone. -/
import Derived.Test.YtlmehpjcmdipmaaCaC
import Derived.Test.YtlmehpjcmdipmaaCod
namespace Go.Proofs.Ytlmehpjcmdipmaa
open Go Go.Proofs
set_option maxRecDepth 100000
set_option maxHeartbeats 4000000
set_option linter.unusedVariables false
theorem cardApart_walk {H : Type} {enc : TypeId × Value → H} (W : World) (base : Nat) (v0 : Value) (d0 : DataW H) (p0 : List MemPlace) (v1 : Value) (d1 : DataW H) (p1 : List MemPlace) (v2 : Value) (d2 : DataW H) (p2 : List MemPlace) (h0 : DataW.Trod enc Try.prog W 0 (fun _ => true) true 37 v0 d0 p0) (o0 : Value.okWide Try.prog W .any base 37 v0) (h1 : DataW.Trod enc Try.prog W 0 (fun _ => true) true 3 v1 d1 p1) (o1 : Value.okWide Try.prog W .any base 3 v1) (h2 : DataW.Trod enc Try.prog W 0 (fun _ => true) true 37 v2 d2 p2) (o2 : Value.okWide Try.prog W .any base 37 v2)
    (hk : (DataW.weightsEach Try.prog [37, 3, 37] [d0, d1, d2]).all (· ≤ reachBytes) = true) : Calls Try.prog 5 #[v0, v1, v2] W fun e W' => e = .returned (.bool true) ∧ RowKit.Below W.heap.size W W' := by
  obtain ⟨xs, rd, _, _, _⟩ := open_v Try.underlying37 (by rfl) (by rfl) (rep_u Try.underlying5 rfl) h0 o0
  obtain ⟨n, rfl, hn⟩ := open_i Try.underlying3 h1 o1
  obtain ⟨ys, rd2, _, sized, _⟩ := open_v Try.underlying37 (by rfl) (by rfl) (rep_u Try.underlying5 rfl) h2 o2
  have hs := (sized (sized_at hk (j := 2) rfl rfl)).1
  have e : reachBytes = 140737488351232 := by decide
  rw [e] at hs
  refine law_walk (cardApart_spec (im := xs) (bs := ys) (Eq.mp (congrArg (Rd W (old W) v0 1 (List.length xs)) (Fl_u xs)) rd) (Eq.mp (congrArg (Rd W (old W) v2 1 (List.length ys)) (Fl_u ys)) rd2) ?_)
  show List.length ys ≤ _
  change List.length ys * 1 ≤ _ at hs
  generalize List.length ys = k at *
  omega
end Go.Proofs.Ytlmehpjcmdipmaa
