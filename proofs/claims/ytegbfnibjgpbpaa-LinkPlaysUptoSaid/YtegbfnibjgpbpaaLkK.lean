/- The pool's scripts as arguments. -/
import Derived.Test.YtegbfnibjgpbpaaLkJ
import Derived.Test.YtegbfnibjgpbpaaCod
namespace Go.Proofs.Ytegbfnibjgpbpaa
open Go Go.Proofs
set_option maxRecDepth 100000
set_option maxHeartbeats 4000000
abbrev cLs : Cod := cW cS 1 16
abbrev cLo : Cod := cP cI (cP cI (cP cS cLs))
theorem rep_ls (W : World) : Rep Try.prog W 22 cLs 1 := rep_w (bytes := 16) Try.underlying22 (by rfl) (by rfl) (rep_s Try.underlying9 rfl)
theorem rep_lo (W : World) : Rep Try.prog W 39 cLo 4 := rep_t (n := 1 + (1 + (1 + 1))) Try.underlying39 (by rfl) (repF_cons rfl (rep_i Try.underlying3 rfl) (repF_cons rfl (rep_i Try.underlying3 rfl) (repF_cons rfl (rep_s Try.underlying9 rfl) (repF_one rfl (rep_ls W)))))
theorem Fl_lo (xs : List LOp) : Fl cLo.enc xs = Fl encT39 xs := Fl_eq (fun _ => rfl) xs
theorem good_lo {W : World} {o : LOp} (h : cLo.good W o) : LOpG W o := by
  obtain ⟨_, h1, _, h2, _⟩ := h
  exact ⟨h2, h1⟩
theorem open_los {H : Type} {enc : TypeId × Value → H} {W : World} {base : Nat} {v : Value} {d : DataW H} {ps : List MemPlace} (h : DataW.Trod enc Try.prog W 0 (fun _ => true) true 37 v d ps) (o : Value.okWide Try.prog W .any base 37 v) (hb : Rows.uptoBulk d ≤ 1048576) :
    ∃ ops : List LOp, Rd W (old W) v 4 ops.length (Fl encT39 ops) ∧ (∀ o ∈ ops, LOpG W o) ∧ puts ops ≤ 1048576 := by
  obtain ⟨ops, rd, good, _, hbk⟩ := open_v Try.underlying37 (by rfl) (by rfl) (rep_lo W) h o
  refine ⟨ops, Eq.mp (congrArg (Rd W (old W) v 4 (List.length ops)) (Fl_lo ops)) rd, fun o ho => good_lo (good o ho), ?_⟩
  have key : ∀ l : List LOp, puts l ≤ (l.map cLo.bulk).sum := fun l => by
    induction l with
    | nil => exact Nat.le_refl _
    | cons o r ih =>
      have e : cLo.bulk o = 1 + (1 + ((o.2.2.1.length + 1) + ((o.2.2.2.2.map cS.bulk).sum + 1))) := rfl
      have h3 : o.2.2.2.2.length ≤ (o.2.2.2.2.map cS.bulk).sum := len_le_sum cS.bulk (fun _ => Nat.le_add_left 1 _) o.2.2.2.2
      have e2 : puts (o :: r) = o.2.2.2.2.length + puts r := rfl
      have e3 : ((o :: r).map cLo.bulk).sum = cLo.bulk o + (r.map cLo.bulk).sum := rfl
      rw [e2, e3, e]
      omega
  have h1 := key ops
  omega
end Go.Proofs.Ytegbfnibjgpbpaa
