/- Elements as arguments. -/
import Derived.Test.YtlheianbmpgefaaTvH
import Derived.Test.YtlheianbmpgefaaCok
namespace Go.Proofs.Ytlheianbmpgefaa
open Go Go.ChangeShapes Go.WideShapes
set_option maxRecDepth 100000
set_option maxHeartbeats 4000000
def bkFo : Fo → Nat
  | .nil => 0
  | .cons _ _ bs _ f r => 1 + (bs.length + 1) + (bkFo f + 1) + bkFo r
def bkE (e : Ee) : Nat := 1 + (e.2.2.1.length + 1) + (bkFo e.2.2.2.2 + 1)
theorem bkFo_untop : ∀ ys : List Ee, bkFo (untop ys) = (ys.map bkE).sum
  | [] => rfl
  | (t, bv, bs, ev, f) :: r => by rw [untop, bkFo, bkFo_untop r, List.map_cons, List.sum_cons, bkE]
theorem szT_untop : ∀ ys : List Ee, (∀ y ∈ ys, szT (.cons y.1 y.2.2.1 (strip y.2.2.2.2) .nil)) → szT (strip (untop ys))
  | [], _ => trivial
  | (t, bv, bs, ev, f) :: r, h => by
    have h1 := h _ (List.mem_cons_self ..)
    exact ⟨h1.1, h1.2.1, h1.2.2.1, szT_untop r fun y hy => h y (List.mem_cons_of_mem _ hy)⟩
abbrev cEl : Cod := ⟨Ee, encT66, fun W e => GE W (old W) e, fun e => szT (.cons e.1 e.2.2.1 (strip e.2.2.2.2) .nil), bkE⟩
theorem rep_bytes (W : World) : Rep Try.prog W 24 (cW cU 1 1) 1 := rep_w (bytes := 1) Try.underlying24 (by rfl) (by rfl) (rep_u Try.underlying5 rfl)
theorem rep_el (W : World) : ∀ k, RepK Try.prog W 66 cEl 3 k := fun k => by
  induction k using Nat.strongRecOn with
  | ind k ih =>
  refine ⟨by rfl, fun _ => rfl, fun {H enc} fuel cs x hx hbk => ?_⟩
  obtain ⟨xs, m, rfl, rfl, hcl, hxl, hf⟩ := DataW.trod_struct Try.underlying66 hx
  match xs, hxl with
  | [x0, x1, x2], _ =>
    have h0 := hf 0 _ rfl
    have h1 := hf 1 _ rfl
    have h2 := hf 2 _ rfl
    simp only [List.getElem?_cons_zero, List.getElem?_cons_succ] at h0 h1 h2
    obtain ⟨n, e0, _, _, b0⟩ := (rep_i (W := W) Try.underlying3 rfl).out _ _ _ h0
    obtain ⟨p, e1, g1, s1, b1⟩ := (rep_bytes W).out _ _ _ h1
    simp only [List.map_cons, List.map_nil, Rows.uptoBulk, Rows.uptoBulkAll] at hbk
    have b00 : 1 ≤ Rows.uptoBulk x0.1 := b0
    obtain ⟨q, e2, g2, s2, b2⟩ := (repK_w (bytes := 56) Try.underlying50 (by rfl) (by rfl) (ih (k - 1) (by omega))).out _ _ _ h2 (by omega)
    have hc3 : cs.length = 3 := hcl
    match cs, hc3 with
    | [c0, c1, c2], _ =>
      obtain rfl : c0 = .int .i64 n := (List.cons.inj e0).1
      obtain rfl : c1 = p.1.1 := (List.cons.inj e1).1
      obtain rfl : c2 = q.1.1 := (List.cons.inj e2).1
      obtain ⟨pv, bs⟩ := p
      obtain ⟨qv, ys⟩ := q
      have er : reachBytes = 140737488351232 := by decide
      have eb : Fl cU.enc bs = B bs := Fl_u _
      refine ⟨(n, pv, bs, qv, untop ys), rfl, ⟨?_, ?_, ?_⟩, fun hq => ?_, ?_⟩
      · exact Eq.mp (congrArg (Rd W (old W) pv.1 1 bs.length) eb) g1.1
      · show Rd W (old W) qv.1 3 (top (untop ys)).length (Fl encT66 (top (untop ys)))
        rw [top_untop]
        exact g2.1
      · refine GFo.of ?_
        show Alls (GE W) (old W) (top (untop ys))
        rw [top_untop]
        exact ⟨g2.2⟩
      · have q1 := s1 fun z hz => hq z (by simp only [DataW.weights, Try.underlying66, List.map_cons, List.map_nil, DataW.weightsEach, List.mem_append]; exact .inr (.inl hz))
        have q2 := s2 fun z hz => hq z (by simp only [DataW.weights, Try.underlying66, List.map_cons, List.map_nil, DataW.weightsEach, List.mem_append]; exact .inr (.inr (.inl hz)))
        obtain ⟨q3, _⟩ := q1
        obtain ⟨q4, q5⟩ := q2
        rw [er] at q3 q4
        dsimp only at q3 q4
        refine ⟨by show bs.length ≤ _; omega, ?_, szT_untop ys q5, trivial⟩
        show lenT (strip (untop ys)) ≤ _
        rw [← strL_top, lenT_strL, top_untop]
        omega
      · show 1 + (bs.length + 1) + (bkFo (untop ys) + 1) ≤ _
        rw [bkFo_untop]
        have c1 : (bs.map cU.bulk).sum + 1 ≤ Rows.uptoBulk x1.1 := b1
        have c2 : (ys.map bkE).sum + 1 ≤ Rows.uptoBulk x2.1 := b2
        have c3 : bs.length ≤ (bs.map cU.bulk).sum := len_le_sum cU.bulk (fun _ => Nat.le_refl _) bs
        simp only [List.map_cons, List.map_nil, Rows.uptoBulk, Rows.uptoBulkAll]
        omega
theorem open_els {H : Type} {enc : TypeId × Value → H} {W : World} {base : Nat} {v : Value} {d : DataW H} {ps : List MemPlace} (h : DataW.Trod enc Try.prog W 0 (fun _ => true) true 50 v d ps) (o : Value.okWide Try.prog W .any base 50 v) :
    ∃ xs : List Ee, Rd W (old W) v 3 xs.length (Fl encT66 xs) ∧ Alls (GE W) (old W) xs ∧ ((∀ q ∈ d.weights Try.prog 50, q ≤ reachBytes) → szT (strL xs) ∧ xs.length ≤ 2513169434843) ∧ bkFo (untop xs) + 1 ≤ Rows.uptoBulk d := by
  obtain ⟨fuel, hf⟩ := h
  obtain ⟨p, h1, h2, h3, h4⟩ := (repK_w (bytes := 56) Try.underlying50 (by rfl) (by rfl) (rep_el W (Rows.uptoBulk d))).out _ _ _ hf (Nat.le_succ _)
  obtain ⟨a, l, c, rfl⟩ := okWide_slice_form Try.underlying50 o
  obtain ⟨v', ys⟩ := p
  simp only [Value.cells] at h1
  obtain h1 := (List.cons.inj h1).1
  have er : reachBytes = 140737488351232 := by decide
  refine ⟨ys, ?_, ⟨h2.2⟩, fun hq => ?_, ?_⟩
  · rw [h1]
    exact h2.1
  · obtain ⟨q4, q5⟩ := h3 hq
    rw [er] at q4
    dsimp only at q4
    have := szT_untop ys q5
    rw [← strL_top, top_untop] at this
    exact ⟨this, by omega⟩
  · rw [bkFo_untop]
    exact h4
end Go.Proofs.Ytlheianbmpgefaa
