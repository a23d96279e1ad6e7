/- The law JournalSnaps: behind a snapshot the journal has that snapshot and what was appended behind it. -/
import Derived.Test.YteopadjihklkmaaJnM
import Derived.Test.YteopadjihklkmaaCod
namespace Go.Proofs.Yteopadjihklkmaa
open Go Go.Proofs
set_option maxRecDepth 100000
set_option maxHeartbeats 4000000
theorem Fl_vb : ∀ xs : List (Value × List UInt8), Fl (cV cU 1 1).enc xs = Fl encV xs
  | [] => rfl
  | x :: r => congrArg (x.1 :: ·) (Fl_vb r)
set_option linter.unusedVariables false
theorem journalSnaps_walk {H : Type} {enc : TypeId × Value → H} (W : World) (base : Nat) (v0 : Value) (d0 : DataW H) (p0 : List MemPlace) (v1 : Value) (d1 : DataW H) (p1 : List MemPlace) (v2 : Value) (d2 : DataW H) (p2 : List MemPlace) (h0 : DataW.Trod enc Try.prog W 0 (fun _ => true) true 58 v0 d0 p0) (o0 : Value.okWide Try.prog W .any base 58 v0) (h1 : DataW.Trod enc Try.prog W 0 (fun _ => true) true 63 v1 d1 p1) (o1 : Value.okWide Try.prog W .any base 63 v1) (h2 : DataW.Trod enc Try.prog W 0 (fun _ => true) true 58 v2 d2 p2) (o2 : Value.okWide Try.prog W .any base 58 v2)
    (hk : (DataW.weightsEach Try.prog [58, 63, 58] [d0, d1, d2]).all (· ≤ reachBytes) = true) : Calls Try.prog 8 #[v0, v1, v2] W fun e W' => e = .returned (.bool true) ∧ RowKit.Below W.heap.size W W' := by
  obtain ⟨ls, rd, good, _, _⟩ := open_v Try.underlying58 (by rfl) (by rfl) (rep_v (bytes := 1) Try.underlying63 (by rfl) (by rfl) (rep_u Try.underlying5 rfl)) h0 o0
  obtain ⟨m, bs, rfl, rdb, _⟩ := open_bytes Try.underlying63 Try.underlying5 rfl h1 o1
  obtain ⟨ls2, rd2, good2, _, _⟩ := open_v Try.underlying58 (by rfl) (by rfl) (rep_v (bytes := 1) Try.underlying63 (by rfl) (by rfl) (rep_u Try.underlying5 rfl)) h2 o2
  exact law_walk (journalSnaps_spec (ls := ls) (ls2 := ls2) (Eq.mp (congrArg (Rd W (old W) v0 1 (List.length ls)) (Fl_vb ls)) rd) ⟨fun y hy => Eq.mp (congrArg (Rd W (old W) y.1 1 y.2.length) (Fl_u y.2)) (good y hy).1⟩ rdb (Eq.mp (congrArg (Rd W (old W) v2 1 (List.length ls2)) (Fl_vb ls2)) rd2) ⟨fun y hy => Eq.mp (congrArg (Rd W (old W) y.1 1 y.2.length) (Fl_u y.2)) (good2 y hy).1⟩)
end Go.Proofs.Yteopadjihklkmaa
