/- Postings as arguments. -/
import Derived.Test.YtegbfnibjgpbpaaLg2
import Derived.Test.YtegbfnibjgpbpaaCow
namespace Go.Proofs.Ytegbfnibjgpbpaa
open Go Go.Proofs
set_option maxRecDepth 100000
set_option maxHeartbeats 4000000
abbrev cSh : Cod := cW (cP cI cI) 2 16
abbrev cPo : Cod := cP cI (cP cI cSh)
theorem rep_sh (W : World) : Rep Try.prog W 61 cSh 1 := rep_w (bytes := 16) Try.underlying61 (by rfl) (by rfl) (rep_t (n := 1 + 1) Try.underlying97 (by rfl) (repF_cons rfl (rep_i Try.underlying3 rfl) (repF_one rfl (rep_i Try.underlying3 rfl))))
theorem rep_po (W : World) : Rep Try.prog W 63 cPo 3 := rep_t (n := 1 + (1 + 1)) Try.underlying63 (by rfl) (repF_cons rfl (rep_i Try.underlying3 rfl) (repF_cons rfl (rep_i Try.underlying3 rfl) (repF_one rfl (rep_sh W))))
theorem Fl_po (xs : List Po) : Fl cPo.enc xs = Fl encT63 xs := Fl_eq (fun _ => rfl) xs
theorem Fl_sh (xs : List Sh) : Fl (cP cI cI).enc xs = Fl encT97 xs := Fl_eq (fun _ => rfl) xs
theorem good_po {W : World} {p : Po} (h : cPo.good W p) : GP W (old W) p ∧ inI p.1 ∧ inI p.2.1 ∧ ∀ s ∈ p.2.2.2, inI s.1 ∧ inI s.2 := by
  obtain ⟨h1, h2, h3, h4⟩ := h
  exact ⟨Eq.mp (congrArg (Rd W (old W) p.2.2.1.1 2 p.2.2.2.length) (Fl_sh p.2.2.2)) h3, h1, h2, fun s hs => h4 s hs⟩
theorem open_pos {H : Type} {enc : TypeId × Value → H} {W : World} {base : Nat} {v : Value} {d : DataW H} {ps : List MemPlace} (h : DataW.Trod enc Try.prog W 0 (fun _ => true) true 50 v d ps) (o : Value.okWide Try.prog W .any base 50 v) :
    ∃ l : List Po, Rd W (old W) v 3 l.length (Fl encT63 l) ∧ Alls (GP W) (old W) l ∧ (∀ q ∈ l, ∀ s ∈ q.2.2.2, inI s.2) ∧ (∀ q ∈ l, inI q.1 ∧ inI q.2.1) ∧ ((∀ q ∈ d.weights Try.prog 50, q ≤ reachBytes) → ∀ q ∈ l, q.2.2.2.length ≤ 8796093022208) ∧ (l.map cPo.bulk).sum + 1 ≤ Rows.uptoBulk d := by
  obtain ⟨l, rd, good, sz, hbk⟩ := open_v (bytes := 40) Try.underlying50 (by rfl) (by rfl) (rep_po W) h o
  refine ⟨l, Eq.mp (congrArg (Rd W (old W) v 3 l.length) (Fl_po l)) rd, ⟨fun p hp => (good_po (good p hp)).1⟩, fun q hq s hs => ((good_po (good q hq)).2.2.2 s hs).2, fun q hq => ⟨(good_po (good q hq)).2.1, (good_po (good q hq)).2.2.1⟩, fun hw q hq => ?_, hbk⟩
  obtain ⟨_, _, h3, _⟩ := (sz hw).2 q hq
  have e : reachBytes = 140737488351232 := by decide
  rw [e] at h3
  have h4 : q.2.2.2.length * 16 ≤ 140737488351232 := h3
  omega
end Go.Proofs.Ytegbfnibjgpbpaa
