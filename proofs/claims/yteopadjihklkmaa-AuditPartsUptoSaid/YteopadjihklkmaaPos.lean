/- Postings, and parts of rows. -/
import Derived.Test.YteopadjihklkmaaLg1
namespace Go.Proofs.Yteopadjihklkmaa
open Go Go.Proofs
set_option maxRecDepth 100000
set_option maxHeartbeats 4000000
set_option linter.unusedSimpArgs false
abbrev Po := Int × Int × SV × List Sh
def encT126 (p : Po) : List Value := [.int .i64 p.1, .int .i64 p.2.1, p.2.2.1.1]
instance : OneC encT126 := ⟨fun a u hu => by
  simp only [encT126, List.mem_cons, List.not_mem_nil, or_false] at hu
  rcases hu with rfl | rfl | rfl
  · rfl
  · rfl
  · exact a.2.2.1.2⟩
def GP (w0 : World) (A : Asn) (p : Po) : Prop := Rd w0 A p.2.2.1.1 2 p.2.2.2.length (Fl encT132 p.2.2.2)
instance {w0 : World} : Lift (GP w0) := ⟨fun h => Rd.left h, fun h => Rd.right h⟩
def ownsP (ls : List Po) : Asn := stars (ls.map fun p => own 132 2 p.2.2.1.1 p.2.2.2.length (Fl encT132 p.2.2.2))
theorem ownsP_nil : ownsP [] = emp := rfl
theorem ownsP_snoc (ls : List Po) (p : Po) : ownsP (ls ++ [p]) = ownsP ls * own 132 2 p.2.2.1.1 p.2.2.2.length (Fl encT132 p.2.2.2) := by
  unfold ownsP; rw [List.map_append]; exact stars_snoc _ _
theorem ownsP_cons (p : Po) (r : List Po) : ownsP (p :: r) = ownsP r * own 132 2 p.2.2.1.1 p.2.2.2.length (Fl encT132 p.2.2.2) := sep_comm _ _
theorem ownsP_drop {ls : List Po} {i : Nat} (h : i < ls.length) : ownsP (ls.drop i) = ownsP (ls.drop (i + 1)) * own 132 2 (ls.getD i default).2.2.1.1 (ls.getD i default).2.2.2.length (Fl encT132 (ls.getD i default).2.2.2) := by
  rw [← ownsP_cons]
  congr 1
  rw [List.getD_eq_getElem?_getD, List.getElem?_eq_getElem h]
  exact List.drop_eq_getElem_cons h
theorem Sat.ownsP0 {w0 w : World} : ∀ {ls : List Po} {A : Asn}, Sat w0 w (A * ownsP ls) → Alls (GP w0) (ownsP ls) ls
  | [], _, _ => Alls.nil
  | p :: r, A, h => by
    have h1 : Sat w0 w (A * ownsP r * own 132 2 p.2.2.1.1 p.2.2.2.length (Fl encT132 p.2.2.2)) := h.conv (by rw [ownsP_cons, sep_assoc])
    have h2 := Sat.ownsP0 h1.weak
    have h3 := h1.ownRd0
    rw [ownsP_cons]
    exact Alls.cons (Rd.right h3) h2.left
/-- What a posting says. -/
def ct (p : Po) : Int × Int × List Sh := (p.1, p.2.1, p.2.2.2)
theorem Fl_drop {α : Type} {enc : α → List Value} {s : Nat} (h : ∀ x, (enc x).length = s) : ∀ (xs : List α) (i : Nat), (Fl enc xs).drop (i * s) = Fl enc (xs.drop i)
  | xs, 0 => by simp
  | [], i + 1 => by simp [Fl]
  | x :: r, i + 1 => by
    rw [show Fl enc (x :: r) = enc x ++ Fl enc r from rfl, show (i + 1) * s = (enc x).length + i * s by rw [h x, Nat.succ_mul, Nat.add_comm], List.drop_append, List.drop_eq_nil_of_le (by omega), List.nil_append]
    rw [show (enc x).length + i * s - (enc x).length = i * s by omega, Fl_drop h r i]
    rfl
theorem Fl_take {α : Type} {enc : α → List Value} {s : Nat} (h : ∀ x, (enc x).length = s) : ∀ (xs : List α) (i : Nat), (Fl enc xs).take (i * s) = Fl enc (xs.take i)
  | xs, 0 => by simp [Fl]
  | [], i + 1 => by simp [Fl]
  | x :: r, i + 1 => by
    rw [show Fl enc (x :: r) = enc x ++ Fl enc r from rfl, show (i + 1) * s = (enc x).length + i * s by rw [h x, Nat.succ_mul, Nat.add_comm], List.take_append, List.take_of_length_le (by omega)]
    rw [show (enc x).length + i * s - (enc x).length = i * s by omega, Fl_take h r i]
    rfl
theorem Rd.cutFl {α : Type} {enc : α → List Value} {s m i j : Nat} {w0 : World} {A : Asn} {v : Value} {xs : List α} (h : ∀ x, (enc x).length = s) (rd : Rd w0 A v s m (Fl enc xs)) (h1 : i ≤ j) (h2 : j ≤ m) :
    Rd w0 A (Go.Proofs.Yteopadjihklkmaa.cutV v i j s) s (j - i) (Fl enc ((xs.drop i).take (j - i))) := by
  have := Rd.cutV rd h1 h2
  rwa [Fl_drop h, Fl_take h] at this
theorem take_one {α : Type} [Inhabited α] {l : List α} {i : Nat} (h : i < l.length) : (l.drop i).take 1 = [l.getD i default] := by
  rw [drop_next h]; rfl
end Go.Proofs.Yteopadjihklkmaa
