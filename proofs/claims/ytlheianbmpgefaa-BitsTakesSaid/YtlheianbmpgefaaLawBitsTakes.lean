/- The law BitsTakes: whatever widths are asked of any bytes, numbers, error and what is left are the document's. -/
import Derived.Test.YtlheianbmpgefaaBiD
import Derived.Test.YtlheianbmpgefaaCod
namespace Go.Proofs.Ytlheianbmpgefaa
open Go Go.Proofs
set_option maxRecDepth 100000
set_option maxHeartbeats 4000000
theorem Fl_vl : ∀ xs : List (Value × List Int), Fl (cV cI 1 8).enc xs = Fl encVL xs
  | [] => rfl
  | x :: r => congrArg (x.1 :: ·) (Fl_vl r)
set_option linter.unusedVariables false
theorem bitsTakes_walk {H : Type} {enc : TypeId × Value → H} (W : World) (base : Nat) (v0 : Value) (d0 : DataW H) (p0 : List MemPlace) (v1 : Value) (d1 : DataW H) (p1 : List MemPlace) (h0 : DataW.Trod enc Try.prog W 0 (fun _ => true) true 24 v0 d0 p0) (o0 : Value.okWide Try.prog W .any base 24 v0) (h1 : DataW.Trod enc Try.prog W 0 (fun _ => true) true 38 v1 d1 p1) (o1 : Value.okWide Try.prog W .any base 38 v1)
    (hk : (DataW.weightsEach Try.prog [24, 38] [d0, d1]).all (· ≤ reachBytes) = true) : Calls Try.prog 4 #[v0, v1] W fun e W' => e = .returned (.bool true) ∧ RowKit.Below W.heap.size W W' := by
  obtain ⟨xs, rd, _, _, _⟩ := open_v Try.underlying24 (by rfl) (by rfl) (rep_u Try.underlying5 rfl) h0 o0
  obtain ⟨wss, rd2, good, sized, _⟩ := open_v Try.underlying38 (by rfl) (by rfl) (rep_v (bytes := 8) Try.underlying42 (by rfl) (by rfl) (rep_i Try.underlying3 rfl)) h1 o1
  have hs := sized (sized_at hk (j := 1) rfl rfl)
  refine law_walk (bitsTakes_spec (xs := xs) (wss := wss) (Eq.mp (congrArg (Rd W (old W) v0 1 (List.length xs)) (Fl_u xs)) rd) (Eq.mp (congrArg (Rd W (old W) v1 1 (List.length wss)) (Fl_vl wss)) rd2) (fun p hp => ?_) (fun p hp => ?_))
  · have h := (good p hp).1
    exact Eq.mp (congrArg (Rd W (old W) p.1 1 (List.length p.2)) (Fl_i p.2)) h
  · have h := (hs.2 p hp).1
    have e : reachBytes = 140737488351232 := by decide
    rw [e] at h
    show List.length p.2 ≤ _
    change List.length p.2 * 8 ≤ _ at h
    generalize List.length p.2 = k at *
    omega
end Go.Proofs.Ytlheianbmpgefaa
