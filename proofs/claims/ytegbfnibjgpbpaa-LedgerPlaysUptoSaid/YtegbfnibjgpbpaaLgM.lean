/- Lists of postings as arguments. -/
import Derived.Test.YtegbfnibjgpbpaaLgL
import Derived.Test.YtegbfnibjgpbpaaLga
namespace Go.Proofs.Ytegbfnibjgpbpaa
open Go Go.Proofs
set_option maxRecDepth 100000
set_option maxHeartbeats 4000000
abbrev cPs : Cod := cV cPo 3 40
theorem rep_ps (W : World) : Rep Try.prog W 50 cPs 1 := rep_v (bytes := 40) Try.underlying50 (by rfl) (by rfl) (rep_po W)
theorem Fl_ps (xs : List (Value × List Po)) : Fl cPs.enc xs = Fl encV xs := Fl_eq (fun _ => rfl) xs
theorem good_ps {W : World} {y : Value × List Po} (h : cPs.good W y) (hb : cPs.bulk y ≤ 1048576) : PsG W y := by
  obtain ⟨h1, h2⟩ := h
  have e : cPs.bulk y = (y.2.map cPo.bulk).sum + 1 := rfl
  have e2 : ∀ q : Po, cPo.bulk q = 1 + (1 + ((q.2.2.2.map (cP cI cI).bulk).sum + 1)) := fun _ => rfl
  refine ⟨Eq.mp (congrArg (Rd W (old W) y.1 3 y.2.length) (Fl_po y.2)) h1, ⟨fun p hp => (good_po (h2 p hp)).1⟩, fun q hq s hs => ((good_po (h2 q hq)).2.2.2 s hs).2, fun q hq => ?_, ?_⟩
  · have h3 := mem_le_sum cPo.bulk hq
    have h4 : q.2.2.2.length ≤ (q.2.2.2.map (cP cI cI).bulk).sum := len_le_sum (cP cI cI).bulk (fun _ => Nat.le_add_left 1 1) q.2.2.2
    rw [e2] at h3
    omega
  · have h4 : y.2.length ≤ (y.2.map cPo.bulk).sum := len_le_sum cPo.bulk (fun q => by have := e2 q; omega) y.2
    omega
theorem open_pss {H : Type} {enc : TypeId × Value → H} {W : World} {base : Nat} {v : Value} {d : DataW H} {ps : List MemPlace} (h : DataW.Trod enc Try.prog W 0 (fun _ => true) true 93 v d ps) (o : Value.okWide Try.prog W .any base 93 v) (hb : Rows.uptoBulk d ≤ 1048576) :
    ∃ P : List (Value × List Po), Rd W (old W) v 1 P.length (Fl encV P) ∧ ∀ y ∈ P, PsG W y := by
  obtain ⟨P, rd, good, _, hbk⟩ := open_v (bytes := 24) Try.underlying93 (by rfl) (by rfl) (rep_ps W) h o
  refine ⟨P, Eq.mp (congrArg (Rd W (old W) v 1 P.length) (Fl_ps P)) rd, fun y hy => good_ps (good y hy) ?_⟩
  have := mem_le_sum cPs.bulk hy
  omega
end Go.Proofs.Ytegbfnibjgpbpaa
