/- The oracle's scripts as arguments: how many pieces. -/
import Derived.Test.YtlmehpjcmdipmaaOrG
import Derived.Test.YtlmehpjcmdipmaaOrL
namespace Go.Proofs.Ytlmehpjcmdipmaa
open Go Go.Proofs
set_option maxRecDepth 100000
set_option maxHeartbeats 4000000
theorem open_oops2 {H : Type} {enc : TypeId × Value → H} {W : World} {base : Nat} {v : Value} {d : DataW H} {ps : List MemPlace} (h : DataW.Trod enc Try.prog W 0 (fun _ => true) true 22 v d ps) (o : Value.okWide Try.prog W .any base 22 v) (hb : Rows.uptoBulk d ≤ 1048576) :
    ∃ ops : List OpT, Rd W (old W) v 7 ops.length (Fl encT28 ops) ∧ ∀ o ∈ ops, OpG2 W o := by
  obtain ⟨ops, rd, good, _, hbk⟩ := open_v Try.underlying22 (by rfl) (by rfl) (rep_oop W) h o
  refine ⟨ops, Eq.mp (congrArg (Rd W (old W) v 7 (List.length ops)) (Fl_oop ops)) rd, fun o ho => ?_⟩
  have h1 := mem_le_sum cOp.bulk ho
  refine ⟨good_oop (good o ho) (by omega), ?_⟩
  have h3 : o.2.2.2.2.length ≤ (o.2.2.2.2.map (cV cU 1 1).bulk).sum := len_le_sum (cV cU 1 1).bulk (fun p => by
    have e : (cV cU 1 1).bulk p = (p.2.map cU.bulk).sum + 1 := rfl
    omega) o.2.2.2.2
  have e : cOp.bulk o = 1 + (1 + ((1 + (1 + (1 + 1))) + ((o.2.2.2.2.map (cV cU 1 1).bulk).sum + 1))) := rfl
  omega
end Go.Proofs.Ytlmehpjcmdipmaa
