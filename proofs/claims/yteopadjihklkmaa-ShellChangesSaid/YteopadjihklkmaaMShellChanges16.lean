/- The law ShellChanges: Store and Drop write what the document says, one change behind the other, as far as power goes, and tell the view then. -/
import Derived.Test.YteopadjihklkmaaMShellChanges15
section
namespace Go.Proofs.Yteopadjihklkmaa
open Go Go.Proofs
set_option maxRecDepth 100000
set_option maxHeartbeats 4000000
theorem law_ex {P : Program} {w0 : World} {f : FuncId} {args : List Value} {A : Asn} (h : Spec P w0 f args A (fun v' A' => ∃ J, v' = .bool true ∧ A' = A * J)) : Spec P w0 f args A (fun v' A' => v' = .bool true ∧ Grew A A') := h.mono (by rintro v' A' ⟨J, h1, h2⟩; exact ⟨h1, ⟨J, h2⟩⟩)
set_option linter.unusedVariables false
theorem shellChanges_walk {H : Type} {enc : TypeId × Value → H} (W : World) (base : Nat) (v0 : Value) (d0 : DataW H) (p0 : List MemPlace) (v1 : Value) (d1 : DataW H) (p1 : List MemPlace) (h0 : DataW.Trod enc Try.prog W 0 (fun _ => true) true 3 v0 d0 p0) (o0 : Value.okWide Try.prog W .any base 3 v0) (h1 : DataW.Trod enc Try.prog W 0 (fun _ => true) true 108 v1 d1 p1) (o1 : Value.okWide Try.prog W .any base 108 v1)
    (hk : (DataW.weightsEach Try.prog [3, 108] [d0, d1]).all (· ≤ reachBytes) = true) : Calls Try.prog 13 #[v0, v1] W fun e W' => e = .returned (.bool true) ∧ RowKit.Below W.heap.size W W' := by
  obtain ⟨n, rfl, _⟩ := open_i Try.underlying3 h0 o0
  obtain ⟨xs, rd, good, sized, _⟩ := open_v Try.underlying108 (by rfl) (by rfl) (rep_ch W) h1 o1
  have hs := (sized (sized_at hk (j := 1) rfl rfl)).2
  refine law_walk (law_ex (changes_spec (id := n) (cs := xs.map toCh) ?_ (good_ch good) (sized_ch good hs)))
  rw [List.length_map]
  exact Eq.mp (congrArg (Rd W (old W) v1 7 (List.length xs)) (Fl_ch xs)) rd
end Go.Proofs.Yteopadjihklkmaa
end
