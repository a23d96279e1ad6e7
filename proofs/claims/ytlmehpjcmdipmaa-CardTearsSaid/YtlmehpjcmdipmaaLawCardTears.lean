/- The law CardTears: power that fails. -/
import Derived.Test.YtlmehpjcmdipmaaCaD
import Derived.Test.YtlmehpjcmdipmaaCod
namespace Go.Proofs.Ytlmehpjcmdipmaa
open Go Go.Proofs
set_option maxRecDepth 100000
set_option maxHeartbeats 4000000
theorem Fl_vb : ∀ xs : List (Value × List UInt8), Fl (cV cU 1 1).enc xs = Fl encV xs
  | [] => rfl
  | x :: r => congrArg (x.1 :: ·) (Fl_vb r)
set_option linter.unusedVariables false
theorem cardTears_walk {H : Type} {enc : TypeId × Value → H} (W : World) (base : Nat) (v0 : Value) (d0 : DataW H) (p0 : List MemPlace) (v1 : Value) (d1 : DataW H) (p1 : List MemPlace) (h0 : DataW.Trod enc Try.prog W 0 (fun _ => true) true 26 v0 d0 p0) (o0 : Value.okWide Try.prog W .any base 26 v0) (h1 : DataW.Trod enc Try.prog W 0 (fun _ => true) true 3 v1 d1 p1) (o1 : Value.okWide Try.prog W .any base 3 v1)
    (hk : (DataW.weightsEach Try.prog [26, 3] [d0, d1]).all (· ≤ reachBytes) = true) : Calls Try.prog 4 #[v0, v1] W fun e W' => e = .returned (.bool true) ∧ RowKit.Below W.heap.size W W' := by
  obtain ⟨ls, rd, good, _, _⟩ := open_v Try.underlying26 (by rfl) (by rfl) (rep_v (bytes := 1) Try.underlying37 (by rfl) (by rfl) (rep_u Try.underlying5 rfl)) h0 o0
  obtain ⟨n, rfl, hn⟩ := open_i Try.underlying3 h1 o1
  exact law_walk (cardTears_spec (ls := ls) (Eq.mp (congrArg (Rd W (old W) v0 1 (List.length ls)) (Fl_vb ls)) rd) ⟨fun y hy => Eq.mp (congrArg (Rd W (old W) y.1 1 y.2.length) (Fl_u y.2)) (good y hy).1⟩)
end Go.Proofs.Ytlmehpjcmdipmaa
