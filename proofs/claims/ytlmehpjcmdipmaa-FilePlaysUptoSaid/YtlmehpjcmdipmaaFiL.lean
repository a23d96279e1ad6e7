/- The files' scripts as arguments. -/
import Derived.Test.YtlmehpjcmdipmaaFiC
import Derived.Test.YtlmehpjcmdipmaaCod
namespace Go.Proofs.Ytlmehpjcmdipmaa
open Go Go.Proofs
set_option maxRecDepth 100000
set_option maxHeartbeats 4000000
theorem len_le_sum {α : Type} (f : α → Nat) (h : ∀ a, 1 ≤ f a) : ∀ l : List α, l.length ≤ (l.map f).sum
  | [] => by simp
  | a :: r => by have := len_le_sum f h r; have := h a; simp only [List.length_cons, List.map_cons, List.sum_cons]; omega
theorem mem_le_sum {α : Type} (f : α → Nat) {a : α} : ∀ {l : List α}, a ∈ l → f a ≤ (l.map f).sum
  | b :: r, h => by
    simp only [List.map_cons, List.sum_cons]
    rcases List.mem_cons.1 h with rfl | h
    · omega
    · have := mem_le_sum f h; omega
abbrev cVV : Cod := cV (cV cU 1 1) 1 24
theorem flatB_bulk : ∀ ls : List (Value × List UInt8), (flatB ls).length ≤ (ls.map (cV cU 1 1).bulk).sum
  | [] => by simp [flatB]
  | p :: r => by
    have h := flatB_bulk r
    have h2 := len_le_sum cU.bulk (fun _ => Nat.le_refl _) p.2
    have e : (cV cU 1 1).bulk p = (p.2.map cU.bulk).sum + 1 := rfl
    have e2 : flatB (p :: r) = p.2 ++ flatB r := rfl
    have e3 : ((p :: r).map (cV cU 1 1).bulk).sum = (cV cU 1 1).bulk p + (r.map (cV cU 1 1).bulk).sum := rfl
    rw [e2, List.length_append, e3, e]
    have h3 : List.length p.2 ≤ (List.map cU.bulk p.2).sum := h2
    omega
theorem Fl_vb : ∀ xs : List (Value × List UInt8), Fl (cV cU 1 1).enc xs = Fl encV xs
  | [] => rfl
  | x :: r => congrArg (x.1 :: ·) (Fl_vb r)
theorem rep_vv (W : World) : Rep Try.prog W 26 cVV 1 := rep_v (bytes := 24) Try.underlying26 (by rfl) (by rfl) (rep_v (bytes := 1) Try.underlying37 (by rfl) (by rfl) (rep_u Try.underlying5 rfl))
theorem good_vv {W : World} {p : Value × List (Value × List UInt8)} (h : cVV.good W p) : Rd W (old W) p.1 1 p.2.length (Fl encV p.2) ∧ Alls (GB W) (old W) p.2 := by
  obtain ⟨h1, h2⟩ := h
  refine ⟨Eq.mp (congrArg (Rd W (old W) p.1 1 p.2.length) (Fl_vb p.2)) h1, ⟨fun y hy => ?_⟩⟩
  exact Eq.mp (congrArg (Rd W (old W) y.1 1 y.2.length) (Fl_u y.2)) (h2 y hy).1
theorem rep_fop (W : World) : Rep Try.prog W 68 (cP cI (cP cI cVV)) 3 := rep_t (n := 1 + (1 + 1)) Try.underlying68 (by rfl) (repF_cons rfl (rep_i Try.underlying3 rfl) (repF_cons rfl (rep_i Try.underlying3 rfl) (repF_one rfl (rep_vv W))))
theorem Fl_o : ∀ xs : List FOp, Fl (cP cI (cP cI cVV)).enc xs = Fl encO xs
  | [] => rfl
  | x :: r => congrArg (encO x ++ ·) (Fl_o r)
/-- A script as it comes in. -/
theorem open_fops {H : Type} {enc : TypeId × Value → H} {W : World} {base : Nat} {v : Value} {d : DataW H} {ps : List MemPlace} (h : DataW.Trod enc Try.prog W 0 (fun _ => true) true 63 v d ps) (o : Value.okWide Try.prog W .any base 63 v) (hb : Rows.uptoBulk d ≤ 1048576) :
    ∃ ops : List FOp, Rd W (old W) v 3 ops.length (Fl encO ops) ∧ ∀ o ∈ ops, FOk W o := by
  obtain ⟨ops, rd, good, _, hbk⟩ := open_v Try.underlying63 (by rfl) (by rfl) (rep_fop W) h o
  refine ⟨ops, Eq.mp (congrArg (Rd W (old W) v 3 (List.length ops)) (Fl_o ops)) rd, fun o ho => ?_⟩
  obtain ⟨_, g2, g3⟩ := good o ho
  obtain ⟨g4, g5⟩ := good_vv g3
  have h1 := mem_le_sum (cP cI (cP cI cVV)).bulk ho
  have e : (cP cI (cP cI cVV)).bulk o = 1 + (1 + ((o.2.2.2.map (cV cU 1 1).bulk).sum + 1)) := rfl
  have h2 := flatB_bulk o.2.2.2
  have h3 := len_le_sum (cV cU 1 1).bulk (fun _ => Nat.le_add_left 1 _) o.2.2.2
  rw [e] at h1
  have h4 : List.length o.2.2.2 ≤ (List.map (cV cU 1 1).bulk o.2.2.2).sum := h3
  refine ⟨g4, g5, ?_, ?_, g2.1, g2.2⟩
  · omega
  · show List.length o.2.2.2 ≤ _
    omega
end Go.Proofs.Ytlmehpjcmdipmaa
