/- The oracle's scripts as arguments. -/
import Derived.Test.YtlmehpjcmdipmaaOrC
import Derived.Test.YtlmehpjcmdipmaaCow
namespace Go.Proofs.Ytlmehpjcmdipmaa
open Go Go.Proofs
set_option maxRecDepth 100000
set_option maxHeartbeats 4000000
abbrev cK4 : Cod := cP cI (cP cI (cP cI cI))
abbrev cVW : Cod := cW (cV cU 1 1) 1 24
abbrev cOp : Cod := cP cB (cP cI (cP cK4 cVW))
theorem rep_key (W : World) : Rep Try.prog W 25 cK4 4 := rep_t (n := 1 + (1 + (1 + 1))) Try.underlying25 (by rfl) (repF_cons rfl (rep_i Try.underlying3 rfl) (repF_cons rfl (rep_i Try.underlying3 rfl) (repF_cons rfl (rep_i Try.underlying3 rfl) (repF_one rfl (rep_i Try.underlying3 rfl)))))
theorem rep_vw (W : World) : Rep Try.prog W 26 cVW 1 := rep_w (bytes := 24) Try.underlying26 (by rfl) (by rfl) (rep_v (bytes := 1) Try.underlying37 (by rfl) (by rfl) (rep_u Try.underlying5 rfl))
theorem rep_oop (W : World) : Rep Try.prog W 28 cOp 7 := rep_t (n := 1 + (1 + (4 + 1))) Try.underlying28 (by rfl) (repF_cons rfl (rep_b Try.underlying4 rfl) (repF_cons rfl (rep_i Try.underlying23 rfl) (repF_cons rfl (rep_key W) (repF_one rfl (rep_vw W)))))
theorem Fl_oop (xs : List OpT) : Fl cOp.enc xs = Fl encT28 xs := Fl_eq (fun _ => rfl) xs
theorem Fl_vb (xs : List (Value × List UInt8)) : Fl (cV cU 1 1).enc xs = Fl encV xs := Fl_eq (fun _ => rfl) xs
theorem flatB_bulk : ∀ ls : List (Value × List UInt8), (flatB ls).length ≤ (ls.map (cV cU 1 1).bulk).sum
  | [] => by simp [flatB]
  | p :: r => by
    have h := flatB_bulk r
    have h2 : p.2.length ≤ (p.2.map cU.bulk).sum := len_le_sum cU.bulk (fun _ => Nat.le_refl _) p.2
    have e : (cV cU 1 1).bulk p = (p.2.map cU.bulk).sum + 1 := rfl
    have e2 : flatB (p :: r) = p.2 ++ flatB r := rfl
    have e3 : ((p :: r).map (cV cU 1 1).bulk).sum = (cV cU 1 1).bulk p + (r.map (cV cU 1 1).bulk).sum := rfl
    rw [e2, List.length_append, e3, e]
    omega
theorem good_oop {W : World} {o : OpT} (h : cOp.good W o) (hb : cOp.bulk o ≤ 1048576) : OpG W o := by
  obtain ⟨_, _, _, h1, h2⟩ := h
  refine ⟨Eq.mp (congrArg (Rd W (old W) o.2.2.2.1.1 1 o.2.2.2.2.length) (Fl_vb o.2.2.2.2)) h1, ⟨fun y hy => ?_⟩, ?_⟩
  · exact Eq.mp (congrArg (Rd W (old W) y.1 1 y.2.length) (Fl_u y.2)) (h2 y hy).1
  · have h3 := flatB_bulk o.2.2.2.2
    have e : cOp.bulk o = 1 + (1 + ((1 + (1 + (1 + 1))) + ((o.2.2.2.2.map (cV cU 1 1).bulk).sum + 1))) := rfl
    omega
theorem open_oops {H : Type} {enc : TypeId × Value → H} {W : World} {base : Nat} {v : Value} {d : DataW H} {ps : List MemPlace} (h : DataW.Trod enc Try.prog W 0 (fun _ => true) true 22 v d ps) (o : Value.okWide Try.prog W .any base 22 v) (hb : Rows.uptoBulk d ≤ 1048576) :
    ∃ ops : List OpT, Rd W (old W) v 7 ops.length (Fl encT28 ops) ∧ ∀ o ∈ ops, OpG W o := by
  obtain ⟨ops, rd, good, _, hbk⟩ := open_v Try.underlying22 (by rfl) (by rfl) (rep_oop W) h o
  refine ⟨ops, Eq.mp (congrArg (Rd W (old W) v 7 (List.length ops)) (Fl_oop ops)) rd, fun o ho => good_oop (good o ho) ?_⟩
  have h1 := mem_le_sum cOp.bulk ho
  omega
end Go.Proofs.Ytlmehpjcmdipmaa
