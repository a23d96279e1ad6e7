/- The law OracleTrue: a token holds for a key and bytes just where it was given out for them (where what it reads is of bulk at most 1048576). -/
import Derived.Test.YtlmehpjcmdipmaaOrL
namespace Go.Proofs.Ytlmehpjcmdipmaa
open Go Go.Proofs
set_option maxRecDepth 100000
set_option maxHeartbeats 4000000
set_option linter.unusedVariables false
theorem oracleTrue_walk {H : Type} {enc : TypeId × Value → H} (W : World) (base : Nat) (v0 : Value) (d0 : DataW H) (p0 : List MemPlace) (v1 : Value) (d1 : DataW H) (p1 : List MemPlace) (h0 : DataW.Trod enc Try.prog W 0 (fun _ => true) true 22 v0 d0 p0) (o0 : Value.okWide Try.prog W .any base 22 v0) (h1 : DataW.Trod enc Try.prog W 0 (fun _ => true) true 28 v1 d1 p1) (o1 : Value.okWide Try.prog W .any base 28 v1)
    (hk : Rows.uptoSmall H [d0, d1] = true) : Calls Try.prog 3 #[v0, v1] W fun e W' => e = .returned (.bool true) ∧ RowKit.Below W.heap.size W W' := by
  have hb := bulk_small hk
  simp only [Rows.uptoBulkAll] at hb
  obtain ⟨ops, rd, hok⟩ := open_oops h0 o0 (by omega)
  obtain ⟨⟨gb, gt, ⟨ga, gc, gd, ge⟩, gs, gl⟩, rfl, hgood, _, hbg⟩ := open_t Try.underlying28 (rep_oop W) h1 o1
  exact law_walk (oracleTrue_spec (gb := gb) (gt := gt) (ga := ga) (gc := gc) (gd := gd) (ge := ge) (gs := gs) (gl := gl) rd hok (good_oop hgood (Nat.le_trans hbg (by omega))))
end Go.Proofs.Ytlmehpjcmdipmaa
