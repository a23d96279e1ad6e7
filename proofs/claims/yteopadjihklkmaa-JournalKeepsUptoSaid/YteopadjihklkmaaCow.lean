/- Slices within arguments, as values of one cell. -/
import Derived.Test.YteopadjihklkmaaCod
import Derived.Test.YteopadjihklkmaaMp
namespace Go.Proofs.Yteopadjihklkmaa
open Go Go.ChangeShapes Go.WideShapes
def cW (C : Cod) (size bytes : Nat) : Cod := ⟨SV × List C.α, fun p => [p.1.1], fun W p => Rd W (old W) p.1.1 size p.2.length (Fl C.enc p.2) ∧ ∀ y ∈ p.2, C.good W y, fun p => p.2.length * bytes ≤ reachBytes ∧ ∀ y ∈ p.2, C.sized y,
  fun p => (p.2.map C.bulk).sum + 1⟩
theorem rep_w {P : Program} {W : World} {t e : TypeId} {C : Cod} {size bytes : Nat} (h : P.underlying t = some (.slice e)) (hc : P.cellsOf t = 1) (hb : P.bytesOf e = bytes) (R : Rep P W e C size) : Rep P W t (cW C size bytes) 1 :=
  ⟨hc, fun _ => rfl, fun fuel cs x hx => by
    obtain ⟨a, h1, h2, h3, h4⟩ := (rep_v h hc hb R).out fuel cs x hx
    exact ⟨(⟨a.1, Rd.one h2.1⟩, a.2), h1, h2, h3, h4⟩⟩
theorem len_le_sum {α : Type} (f : α → Nat) (h : ∀ a, 1 ≤ f a) : ∀ l : List α, l.length ≤ (l.map f).sum
  | [] => by simp
  | a :: r => by have := len_le_sum f h r; have := h a; simp only [List.length_cons, List.map_cons, List.sum_cons]; omega
theorem mem_le_sum {α : Type} (f : α → Nat) {a : α} : ∀ {l : List α}, a ∈ l → f a ≤ (l.map f).sum
  | b :: r, h => by
    simp only [List.map_cons, List.sum_cons]
    rcases List.mem_cons.1 h with rfl | h
    · omega
    · have := mem_le_sum f h; omega
theorem Fl_eq {α : Type} {f g : α → List Value} (h : ∀ x, f x = g x) (xs : List α) : Fl f xs = Fl g xs := by
  unfold Fl
  rw [funext h]
end Go.Proofs.Yteopadjihklkmaa
