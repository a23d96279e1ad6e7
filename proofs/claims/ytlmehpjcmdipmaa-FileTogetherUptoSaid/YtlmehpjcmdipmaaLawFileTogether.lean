/- The law FileTogether: what is written together is what is written one by one, where there is room and power for all (where what it reads is of bulk at most 1048576). -/
import Derived.Test.YtlmehpjcmdipmaaFiD
import Derived.Test.YtlmehpjcmdipmaaFiL
namespace Go.Proofs.Ytlmehpjcmdipmaa
open Go Go.Proofs
set_option maxRecDepth 100000
set_option maxHeartbeats 4000000
set_option linter.unusedVariables false
theorem fileTogether_walk {H : Type} {enc : TypeId × Value → H} (W : World) (base : Nat) (v0 : Value) (d0 : DataW H) (p0 : List MemPlace) (v1 : Value) (d1 : DataW H) (p1 : List MemPlace) (v2 : Value) (d2 : DataW H) (p2 : List MemPlace) (h0 : DataW.Trod enc Try.prog W 0 (fun _ => true) true 3 v0 d0 p0) (o0 : Value.okWide Try.prog W .any base 3 v0) (h1 : DataW.Trod enc Try.prog W 0 (fun _ => true) true 3 v1 d1 p1) (o1 : Value.okWide Try.prog W .any base 3 v1) (h2 : DataW.Trod enc Try.prog W 0 (fun _ => true) true 26 v2 d2 p2) (o2 : Value.okWide Try.prog W .any base 26 v2)
    (hk : Rows.uptoSmall H [d0, d1, d2] = true) : Calls Try.prog 9 #[v0, v1, v2] W fun e W' => e = .returned (.bool true) ∧ RowKit.Below W.heap.size W W' := by
  obtain ⟨s, rfl, hs⟩ := open_i Try.underlying3 h0 o0
  obtain ⟨n, rfl, hn⟩ := open_i Try.underlying3 h1 o1
  obtain ⟨ls, rd, good, _, hb2⟩ := open_v Try.underlying26 (by rfl) (by rfl) (rep_v (bytes := 1) Try.underlying37 (by rfl) (by rfl) (rep_u Try.underlying5 rfl)) h2 o2
  have hb := bulk_small hk
  simp only [Rows.uptoBulkAll] at hb
  have h3 := flatB_bulk ls
  have al : Alls (GB W) (old W) ls := ⟨fun y hy => Eq.mp (congrArg (Rd W (old W) y.1 1 y.2.length) (Fl_u y.2)) (good y hy).1⟩
  exact law_walk (fileTogether_spec (ls := ls) (Eq.mp (congrArg (Rd W (old W) v2 1 (List.length ls)) (Fl_vb ls)) rd) al (by omega) hs.2 hn.1 hn.2)
end Go.Proofs.Ytlmehpjcmdipmaa
