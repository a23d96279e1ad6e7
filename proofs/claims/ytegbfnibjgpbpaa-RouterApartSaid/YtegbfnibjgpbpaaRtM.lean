/- The router's scripts as arguments. -/
import Derived.Test.YtegbfnibjgpbpaaRtL
namespace Go.Proofs.Ytegbfnibjgpbpaa
open Go Go.Proofs
set_option maxRecDepth 100000
set_option maxHeartbeats 4000000
abbrev cBy : Cod := cW cU 1 1
abbrev cMs : Cod := cP cI (cP cI (cP cI (cP cBy cI)))
abbrev cMl : Cod := cW cMs 5 56
abbrev cRo : Cod := cP cI (cP cI cMl)
theorem rep_by (W : World) : Rep Try.prog W 79 cBy 1 := rep_w (bytes := 1) Try.underlying79 (by rfl) (by rfl) (rep_u Try.underlying5 rfl)
theorem rep_ms (W : World) : Rep Try.prog W 82 cMs 5 := rep_t (n := 1 + (1 + (1 + (1 + 1)))) Try.underlying82 (by rfl) (repF_cons rfl (rep_i Try.underlying78 rfl) (repF_cons rfl (rep_i Try.underlying3 rfl) (repF_cons rfl (rep_i Try.underlying3 rfl) (repF_cons rfl (rep_by W) (repF_one rfl (rep_i Try.underlying80 rfl))))))
theorem rep_ml (W : World) : Rep Try.prog W 70 cMl 1 := rep_w (bytes := 56) Try.underlying70 (by rfl) (by rfl) (rep_ms W)
theorem rep_ro (W : World) : Rep Try.prog W 74 cRo 3 := rep_t (n := 1 + (1 + 1)) Try.underlying74 (by rfl) (repF_cons rfl (rep_i Try.underlying3 rfl) (repF_cons rfl (rep_i Try.underlying3 rfl) (repF_one rfl (rep_ml W))))
def toM (m : cMs.α) : Ms := (m.1, m.2.1, m.2.2.1, m.2.2.2.1.1, m.2.2.2.2, m.2.2.2.1.2)
def toR (r : cRo.α) : ROp := (r.1, r.2.1, r.2.2.1, r.2.2.2.map toM)
theorem Fl_map {α β : Type} {f : α → List Value} {g : β → List Value} {h : α → β} (e : ∀ x, f x = g (h x)) (xs : List α) : Fl f xs = Fl g (xs.map h) := by
  unfold Fl
  rw [List.flatMap_map, funext e]
theorem Fl_ms (xs : List cMs.α) : Fl cMs.enc xs = Fl encT82 (xs.map toM) := Fl_map (f := cMs.enc) (g := encT82) (h := toM) (fun _ => rfl) xs
theorem Fl_ro (xs : List cRo.α) : Fl cRo.enc xs = Fl encT74 (xs.map toR) := Fl_map (f := cRo.enc) (g := encT74) (h := toR) (fun _ => rfl) xs
theorem good_ms {W : World} {m : cMs.α} (h : cMs.good W m) : GM W (old W) (toM m) := by
  obtain ⟨_, _, _, ⟨h1, _⟩, _⟩ := h
  have e : Fl cU.enc m.2.2.2.1.2 = B m.2.2.2.1.2 := Fl_u _
  exact Eq.mp (congrArg (Rd W (old W) m.2.2.2.1.1.1 1 m.2.2.2.1.2.length) e) h1
theorem good_ro {W : World} {r : cRo.α} (h : cRo.good W r) (hs : cRo.sized r) : ROpG W (toR r) := by
  have er : reachBytes = 140737488351232 := by decide
  obtain ⟨_, _, h1, h2⟩ := h
  obtain ⟨_, _, h3, h4⟩ := hs
  rw [er] at h3
  refine ⟨?_, ⟨fun m hm => ?_⟩, fun m hm => ?_, ?_⟩
  · show Rd W (old W) r.2.2.1.1 5 (r.2.2.2.map toM).length (Fl encT82 (r.2.2.2.map toM))
    rw [List.length_map, ← Fl_ms]
    exact h1
  · obtain ⟨x, hx, rfl⟩ := List.mem_map.1 hm
    exact good_ms (h2 x hx)
  · obtain ⟨x, hx, rfl⟩ := List.mem_map.1 hm
    obtain ⟨_, _, _, ⟨h5, _⟩, _⟩ := h4 x hx
    rw [er] at h5
    have h6 : x.2.2.2.1.2.length * 1 ≤ 140737488351232 := h5
    show x.2.2.2.1.2.length ≤ 140737488351232
    omega
  · show (r.2.2.2.map toM).length ≤ 2513169434843
    rw [List.length_map]
    have h6 : r.2.2.2.length * 56 ≤ 140737488351232 := h3
    omega
theorem open_ros {H : Type} {enc : TypeId × Value → H} {W : World} {base : Nat} {v : Value} {d : DataW H} {ps : List MemPlace} (h : DataW.Trod enc Try.prog W 0 (fun _ => true) true 65 v d ps) (o : Value.okWide Try.prog W .any base 65 v) (hw : ∀ q ∈ d.weights Try.prog 65, q ≤ reachBytes) :
    ∃ P : List ROp, Rd W (old W) v 3 P.length (Fl encT74 P) ∧ ∀ o ∈ P, ROpG W o := by
  obtain ⟨P, rd, good, sz, _⟩ := open_v Try.underlying65 (by rfl) (by rfl) (rep_ro W) h o
  refine ⟨P.map toR, ?_, fun y hy => ?_⟩
  · rw [List.length_map, ← Fl_ro]
    exact rd
  · obtain ⟨x, hx, rfl⟩ := List.mem_map.1 hy
    exact good_ro (good x hx) ((sz hw).2 x hx)
end Go.Proofs.Ytegbfnibjgpbpaa
