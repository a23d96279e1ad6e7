/- Postings, journeys and what holds them as arguments. -/
import Derived.Test.YteopadjihklkmaaAuC
import Derived.Test.YteopadjihklkmaaCow
import Derived.Test.YteopadjihklkmaaBk
namespace Go.Proofs.Yteopadjihklkmaa
open Go Go.Proofs
set_option maxRecDepth 100000
set_option maxHeartbeats 4000000
abbrev cSh : Cod := cW (cP cI cI) 2 16
abbrev cPo : Cod := cP cI (cP cI cSh)
abbrev cPl : Cod := cW cPo 3 40
theorem rep_sh (W : World) : Rep Try.prog W 124 cSh 1 := rep_w (bytes := 16) Try.underlying124 (by rfl) (by rfl) (rep_t (n := 1 + 1) Try.underlying132 (by rfl) (repF_cons rfl (rep_i Try.underlying3 rfl) (repF_one rfl (rep_i Try.underlying3 rfl))))
theorem rep_po (W : World) : Rep Try.prog W 126 cPo 3 := rep_t (n := 1 + (1 + 1)) Try.underlying126 (by rfl) (repF_cons rfl (rep_i Try.underlying3 rfl) (repF_cons rfl (rep_i Try.underlying3 rfl) (repF_one rfl (rep_sh W))))
theorem rep_pl (W : World) : Rep Try.prog W 22 cPl 1 := rep_w (bytes := 40) Try.underlying22 (by rfl) (by rfl) (rep_po W)
theorem Fl_po (xs : List Po) : Fl cPo.enc xs = Fl encT126 xs := Fl_eq (fun _ => rfl) xs
theorem Fl_sh (xs : List Sh) : Fl (cP cI cI).enc xs = Fl encT132 xs := Fl_eq (fun _ => rfl) xs
theorem good_po {W : World} {p : Po} (h : cPo.good W p) : GP W (old W) p ∧ inI p.1 ∧ inI p.2.1 ∧ ∀ s ∈ p.2.2.2, inI s.1 ∧ inI s.2 := by
  obtain ⟨h1, h2, h3, h4⟩ := h
  exact ⟨Eq.mp (congrArg (Rd W (old W) p.2.2.1.1 2 p.2.2.2.length) (Fl_sh p.2.2.2)) h3, h1, h2, fun s hs => h4 s hs⟩
theorem good_pl {W : World} {y : SV × List Po} (h : cPl.good W y) : Rd W (old W) y.1.1 3 y.2.length (Fl encT126 y.2) ∧ Alls (GP W) (old W) y.2 ∧ (∀ q ∈ y.2, ∀ s ∈ q.2.2.2, inI s.2) := by
  obtain ⟨h1, h2⟩ := h
  exact ⟨Eq.mp (congrArg (Rd W (old W) y.1.1 3 y.2.length) (Fl_po y.2)) h1, ⟨fun p hp => (good_po (h2 p hp)).1⟩, fun q hq s hs => ((good_po (h2 q hq)).2.2.2 s hs).2⟩
theorem sized_pl {y : SV × List Po} (h : cPl.sized y) : ∀ q ∈ y.2, q.2.2.2.length ≤ 8796093022208 := fun q hq => by
  obtain ⟨_, h2⟩ := h
  obtain ⟨_, _, h3, _⟩ := h2 q hq
  have e : reachBytes = 140737488351232 := by decide
  rw [e] at h3
  have h4 : q.2.2.2.length * 16 ≤ 140737488351232 := h3
  omega
theorem bulk_shs : ∀ l : List Po, (l.flatMap fun p => p.2.2.2).length ≤ (l.map cPo.bulk).sum
  | [] => by simp
  | p :: r => by
    have ih := bulk_shs r
    have e : cPo.bulk p = 1 + (1 + ((p.2.2.2.map (cP cI cI).bulk).sum + 1)) := rfl
    have h := len_le_sum (cP cI cI).bulk (fun _ => Nat.le_add_left 1 1) p.2.2.2
    rw [List.flatMap_cons, List.length_append]
    show _ ≤ cPo.bulk p + (r.map cPo.bulk).sum
    rw [e]
    refine Nat.add_le_add (Nat.le_trans h ?_) ih
    omega
theorem bulk_pl (y : SV × List Po) : (y.2.flatMap fun p => p.2.2.2).length ≤ cPl.bulk y := by
  have e : cPl.bulk y = (y.2.map cPo.bulk).sum + 1 := rfl
  have := bulk_shs y.2
  omega
theorem len_shs {ps : List Po} {p : Po} (h : p ∈ ps) : p.2.2.2.length ≤ (ps.flatMap fun p => p.2.2.2).length := by
  induction ps with
  | nil => cases h
  | cons q r ih =>
    rw [List.flatMap_cons, List.length_append]
    rcases List.mem_cons.1 h with rfl | h
    · omega
    · have := ih h; omega
abbrev cJn : Cod := cP cI (cP cI (cP cI (cP cI (cP cI (cP cI (cP cI (cP cI (cP cI cI))))))))
abbrev cJl : Cod := cW cJn 10 80
theorem rep_jn (W : World) : Rep Try.prog W 47 cJn 10 := rep_t (n := 1 + (1 + (1 + (1 + (1 + (1 + (1 + (1 + (1 + 1))))))))) Try.underlying47 (by rfl) (repF_cons rfl (rep_i Try.underlying3 rfl) (repF_cons rfl (rep_i Try.underlying3 rfl) (repF_cons rfl (rep_i Try.underlying3 rfl) (repF_cons rfl (rep_i Try.underlying3 rfl) (repF_cons rfl (rep_i Try.underlying3 rfl) (repF_cons rfl (rep_i Try.underlying45 rfl) (repF_cons rfl (rep_i Try.underlying3 rfl) (repF_cons rfl (rep_i Try.underlying3 rfl) (repF_cons rfl (rep_i Try.underlying3 rfl) (repF_one rfl (rep_i Try.underlying3 rfl)))))))))))
theorem rep_jl (W : World) : Rep Try.prog W 32 cJl 1 := rep_w (bytes := 80) Try.underlying32 (by rfl) (by rfl) (rep_jn W)
theorem Fl_jn (xs : List Jn) : Fl cJn.enc xs = Fl encT47 xs := Fl_eq (fun _ => rfl) xs
theorem good_jl {W : World} {y : SV × List Jn} (h : cJl.good W y) : Rd W (old W) y.1.1 10 y.2.length (Fl encT47 y.2) :=
  Eq.mp (congrArg (Rd W (old W) y.1.1 10 y.2.length) (Fl_jn y.2)) h.1
abbrev cSu : Cod := cP cI (cP cPl (cP cJl cJl))
theorem rep_su (W : World) : Rep Try.prog W 34 cSu 4 := rep_t (n := 1 + (1 + (1 + 1))) Try.underlying34 (by rfl) (repF_cons rfl (rep_i Try.underlying3 rfl) (repF_cons rfl (rep_pl W) (repF_cons rfl (rep_jl W) (repF_one rfl (rep_jl W)))))
theorem bulk_su {y : cSu.α} (h : cSu.bulk y ≤ 1048576) : (y.2.1.2.flatMap fun p => p.2.2.2).length ≤ 1048576 := by
  have e : cSu.bulk y = 1 + (cPl.bulk y.2.1 + (cJl.bulk y.2.2.1 + cJl.bulk y.2.2.2)) := rfl
  exact Nat.le_trans (bulk_pl y.2.1) (by omega)
end Go.Proofs.Yteopadjihklkmaa
