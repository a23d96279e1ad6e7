/- Rows of things that hold other memory; parts of memory by the row. -/
import Derived.Test.YteopadjihklkmaaDd
namespace Go.Proofs.Yteopadjihklkmaa
open Go Go.Proofs
/-- A slice's header; what it holds stands beside it. -/
def encV {β : Type} (p : Value × β) : List Value := [p.1]
theorem Fl_V {β : Type} [Inhabited β] : ∀ (l : List (Value × β)) (i : Nat), i < l.length → (Fl encV l)[i]? = some (l.getD i default).1
  | [], i, h => by simp at h
  | p :: r, 0, _ => rfl
  | p :: r, i + 1, h => Fl_V r i (by simpa using h)
theorem Fl_V_length {β : Type} (l : List (Value × β)) : (Fl encV l).length = l.length := by
  have := Fl_length (enc := encV (β := β)) (s := 1) (fun _ => rfl) l
  omega
theorem Fl_V_snoc {β : Type} (l : List (Value × β)) (v : Value) (b : β) : Fl encV l ++ [v] = Fl encV (l ++ [(v, b)]) := by simp [Fl, encV]
theorem getD_mem {α : Type} [Inhabited α] {l : List α} {i : Nat} (h : i < l.length) : l.getD i default ∈ l := by
  rw [List.getD_eq_getElem?_getD, List.getElem?_eq_getElem h]; exact List.getElem_mem h
/-- What holds in memory holds in more of it. -/
class Lift {α : Type} (G : Asn → α → Prop) : Prop where
  left : ∀ {A B : Asn} {a : α}, G A a → G (A * B) a
  right : ∀ {A B : Asn} {a : α}, G B a → G (A * B) a
structure Alls {α : Type} (G : Asn → α → Prop) (A : Asn) (ls : List α) : Prop where
  at_ : ∀ p ∈ ls, G A p
section
variable {α : Type} {G : Asn → α → Prop} {A C : Asn} {ls ms : List α}
theorem Alls.left [Lift G] (h : Alls G A ls) : Alls G (A * C) ls := ⟨fun p hp => Lift.left (h.at_ p hp)⟩
theorem Alls.right [Lift G] (h : Alls G C ls) : Alls G (A * C) ls := ⟨fun p hp => Lift.right (h.at_ p hp)⟩
theorem Alls.conv (h : Alls G A ls) (e : A = C) : Alls G C ls := e ▸ h
theorem Alls.nil : Alls G A [] := ⟨fun p hp => by cases hp⟩
theorem Alls.cons {a : α} (h : G A a) (k : Alls G A ls) : Alls G A (a :: ls) := ⟨fun p hp => by
  rcases List.mem_cons.1 hp with rfl | hp
  · exact h
  · exact k.at_ p hp⟩
theorem Alls.append (h : Alls G A ls) (k : Alls G A ms) : Alls G A (ls ++ ms) := ⟨fun p hp => by
  rcases List.mem_append.1 hp with hp | hp
  · exact h.at_ p hp
  · exact k.at_ p hp⟩
theorem Alls.take {i : Nat} (h : Alls G A ls) : Alls G A (ls.take i) := ⟨fun p hp => h.at_ p (List.mem_of_mem_take hp)⟩
theorem Alls.drop {i : Nat} (h : Alls G A ls) : Alls G A (ls.drop i) := ⟨fun p hp => h.at_ p (List.mem_of_mem_drop hp)⟩
theorem Alls.get [Inhabited α] {i : Nat} (h : Alls G A ls) (hi : i < ls.length) : G A (ls.getD i default) := h.at_ _ (getD_mem hi)
end
def GB (w0 : World) (A : Asn) (p : Value × List UInt8) : Prop := Rd w0 A p.1 1 p.2.length (B p.2)
instance {w0 : World} : Lift (GB w0) := ⟨fun h => Rd.left h, fun h => Rd.right h⟩
/-! ### Parts joined -/
def stars : List Asn → Asn
  | [] => emp
  | a :: r => a * stars r
theorem stars_append : ∀ a b : List Asn, stars (a ++ b) = stars a * stars b
  | [], b => (emp_sep _).symm
  | x :: r, b => by rw [List.cons_append, stars, stars, stars_append r b, sep_assoc]
theorem stars_snoc (l : List Asn) (a : Asn) : stars (l ++ [a]) = stars l * a := by rw [stars_append, stars, stars, sep_emp]
def ownsB (e : TypeId) (ls : List (Value × List UInt8)) : Asn := stars (ls.map fun p => own e 1 p.1 p.2.length (B p.2))
theorem ownsB_nil (e : TypeId) : ownsB e [] = emp := rfl
theorem ownsB_snoc (e : TypeId) (ls : List (Value × List UInt8)) (v : Value) (bs : List UInt8) : ownsB e (ls ++ [(v, bs)]) = ownsB e ls * own e 1 v bs.length (B bs) := by
  unfold ownsB; rw [List.map_append]; exact stars_snoc _ _
theorem ownsB_cons (e : TypeId) (p : Value × List UInt8) (r : List (Value × List UInt8)) : ownsB e (p :: r) = ownsB e r * own e 1 p.1 p.2.length (B p.2) := sep_comm _ _
theorem ownsB_drop (e : TypeId) {ls : List (Value × List UInt8)} {i : Nat} (h : i < ls.length) : ownsB e (ls.drop i) = ownsB e (ls.drop (i + 1)) * own e 1 (ls.getD i default).1 (ls.getD i default).2.length (B (ls.getD i default).2) := by
  rw [← ownsB_cons]
  congr 1
  rw [List.getD_eq_getElem?_getD, List.getElem?_eq_getElem h]
  exact List.drop_eq_getElem_cons h
theorem Sat.ownsB0 {w0 w : World} {e : TypeId} : ∀ {ls : List (Value × List UInt8)} {A : Asn}, Sat w0 w (A * ownsB e ls) → Alls (GB w0) (ownsB e ls) ls
  | [], _, _ => Alls.nil
  | p :: r, A, h => by
    have h1 : Sat w0 w (A * ownsB e r * own e 1 p.1 p.2.length (B p.2)) := h.conv (by rw [ownsB_cons, sep_assoc])
    have h2 := Sat.ownsB0 h1.weak
    have h3 := h1.ownRd0
    rw [ownsB_cons]
    exact Alls.cons (Rd.right h3) h2.left
end Go.Proofs.Yteopadjihklkmaa
