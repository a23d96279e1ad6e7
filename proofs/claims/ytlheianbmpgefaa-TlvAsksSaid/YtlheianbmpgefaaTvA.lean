/- Elements: a tree, what it says, how it lies in memory. -/
import Derived.Test.YtlheianbmpgefaaSto
import Derived.Test.YtlheianbmpgefaaLib
import Derived.Test.YtlheianbmpgefaaBi
namespace Go.Proofs.Ytlheianbmpgefaa
open Go Go.Proofs
set_option maxRecDepth 100000
set_option maxHeartbeats 4000000
set_option linter.unusedSimpArgs false
/-- A list of elements, with where it lies. -/
inductive Fo where
  | nil : Fo
  | cons : Int → SV → List UInt8 → SV → Fo → Fo → Fo
/-- What a list of elements says. -/
inductive Te where
  | nil : Te
  | cons : Int → List UInt8 → Te → Te → Te
deriving DecidableEq
abbrev Ee := Int × SV × List UInt8 × SV × Fo
instance : Inhabited Fo := ⟨.nil⟩
def top : Fo → List Ee
  | .nil => []
  | .cons t bv bs ev f r => (t, bv, bs, ev, f) :: top r
def untop : List Ee → Fo
  | [] => .nil
  | (t, bv, bs, ev, f) :: r => .cons t bv bs ev f (untop r)
theorem top_untop : ∀ xs : List Ee, top (untop xs) = xs
  | [] => rfl
  | (t, bv, bs, ev, f) :: r => by rw [untop, top, top_untop r]
def strip : Fo → Te
  | .nil => .nil
  | .cons t _ bs _ f r => .cons t bs (strip f) (strip r)
def strL : List Ee → Te
  | [] => .nil
  | (t, _, bs, _, f) :: r => .cons t bs (strip f) (strL r)
theorem strL_top : ∀ f : Fo, strL (top f) = strip f
  | .nil => rfl
  | .cons t bv bs ev f r => by rw [top, strL, strip, strL_top r]
def appT : Te → Te → Te
  | .nil, y => y
  | .cons t bs f r, y => .cons t bs f (appT r y)
theorem strL_append : ∀ a b : List Ee, strL (a ++ b) = appT (strL a) (strL b)
  | [], _ => rfl
  | (t, bv, bs, ev, f) :: r, b => by rw [List.cons_append, strL, strL, appT, strL_append r b]
theorem appT_nil : ∀ a : Te, appT a .nil = a
  | .nil => rfl
  | .cons t bs f r => by rw [appT, appT_nil r]
theorem appT_assoc : ∀ a b c : Te, appT (appT a b) c = appT a (appT b c)
  | .nil, _, _ => rfl
  | .cons t bs f r, b, c => by rw [appT, appT, appT, appT_assoc r b c]
def lenT : Te → Nat
  | .nil => 0
  | .cons _ _ _ r => lenT r + 1
theorem lenT_strL : ∀ xs : List Ee, lenT (strL xs) = xs.length
  | [] => rfl
  | (_, _, _, _, _) :: r => by rw [strL, lenT, lenT_strL r]; rfl
/-- How deep. -/
def dpT : Te → Nat
  | .nil => 0
  | .cons _ _ f r => max (dpT f + 1) (dpT r)
theorem dpT_at {xs : List Ee} {i : Nat} (h : i < xs.length) {t : Int} {bv ev : SV} {bs : List UInt8} {f : Fo} (e : xs.getD i default = (t, bv, bs, ev, f)) : dpT (strL (top f)) < dpT (strL xs) := by
  rw [strL_top]
  induction xs generalizing i with
  | nil => simp at h
  | cons x r ih =>
    obtain ⟨t2, bv2, bs2, ev2, f2⟩ := x
    rw [strL, dpT]
    cases i with
    | zero =>
      simp only [List.getD_cons_zero, Prod.mk.injEq] at e
      obtain ⟨_, _, _, _, rfl⟩ := e
      omega
    | succ i =>
      have := ih (i := i) (by simpa using h) (by simpa using e)
      omega
theorem strL_drop {xs : List Ee} {i : Nat} (h : i < xs.length) {t : Int} {bv ev : SV} {bs : List UInt8} {f : Fo} (e : xs.getD i default = (t, bv, bs, ev, f)) : strL (xs.drop i) = .cons t bs (strip f) (strL (xs.drop (i + 1))) := by
  rw [drop_next h, e, strL]
theorem strL_take {xs : List Ee} {i : Nat} (h : i < xs.length) {t : Int} {bv ev : SV} {bs : List UInt8} {f : Fo} (e : xs.getD i default = (t, bv, bs, ev, f)) : strL (xs.take (i + 1)) = appT (strL (xs.take i)) (.cons t bs (strip f) .nil) := by
  rw [take_next h, e, strL_append]; rfl
def encT66 : Ee → List Value := fun (t, bv, _, ev, _) => [.int .i64 t, bv.1, ev.1]
instance : OneC encT66 := ⟨fun ⟨t, bv, bs, ev, f⟩ u hu => by
  simp only [encT66, List.mem_cons, List.not_mem_nil, or_false] at hu
  rcases hu with rfl | rfl | rfl
  · rfl
  · exact bv.2
  · exact ev.2⟩
theorem Fl_E_len (l : List Ee) : (Fl encT66 l).length = l.length * 3 := by
  induction l with
  | nil => rfl
  | cons x r ih =>
    rw [show Fl encT66 (x :: r) = encT66 x ++ Fl encT66 r from rfl, List.length_append, ih, List.length_cons, show (encT66 x).length = 3 from rfl]
    omega
/-- What can be read of it. -/
def GFo (w0 : World) (A : Asn) : Fo → Prop
  | .nil => True
  | .cons _ bv bs ev f r => (Rd w0 A bv.1 1 bs.length (B bs) ∧ Rd w0 A ev.1 3 (top f).length (Fl encT66 (top f)) ∧ GFo w0 A f) ∧ GFo w0 A r
def GE (w0 : World) (A : Asn) (e : Ee) : Prop := Rd w0 A e.2.1.1 1 e.2.2.1.length (B e.2.2.1) ∧ Rd w0 A e.2.2.2.1.1 3 (top e.2.2.2.2).length (Fl encT66 (top e.2.2.2.2)) ∧ GFo w0 A e.2.2.2.2
theorem GFo.left {w0 : World} {A C : Asn} : ∀ {f : Fo}, GFo w0 A f → GFo w0 (A * C) f
  | .nil, _ => trivial
  | .cons _ _ _ _ _ _, h => ⟨⟨Rd.left h.1.1, Rd.left h.1.2.1, GFo.left h.1.2.2⟩, GFo.left h.2⟩
theorem GFo.right {w0 : World} {A C : Asn} : ∀ {f : Fo}, GFo w0 C f → GFo w0 (A * C) f
  | .nil, _ => trivial
  | .cons _ _ _ _ _ _, h => ⟨⟨Rd.right h.1.1, Rd.right h.1.2.1, GFo.right h.1.2.2⟩, GFo.right h.2⟩
instance {w0 : World} : Lift (GE w0) := ⟨fun h => ⟨Rd.left h.1, Rd.left h.2.1, GFo.left h.2.2⟩, fun h => ⟨Rd.right h.1, Rd.right h.2.1, GFo.right h.2.2⟩⟩
theorem GFo.alls {w0 : World} {A : Asn} : ∀ {f : Fo}, GFo w0 A f → Alls (GE w0) A (top f)
  | .nil, _ => Alls.nil
  | .cons _ _ _ _ _ _, h => Alls.cons h.1 (GFo.alls h.2)
theorem GFo.of {w0 : World} {A : Asn} : ∀ {f : Fo}, Alls (GE w0) A (top f) → GFo w0 A f
  | .nil, _ => trivial
  | .cons _ _ _ _ _ _, h => ⟨h.at_ _ (List.mem_cons_self ..), GFo.of ⟨fun p hp => h.at_ p (List.mem_cons_of_mem _ hp)⟩⟩
/-- What it owns. -/
def ownFo : Fo → Asn
  | .nil => emp
  | .cons _ bv bs ev f r => ownFo r * (own 5 1 bv.1 bs.length (B bs) * own 66 3 ev.1 (top f).length (Fl encT66 (top f)) * ownFo f)
abbrev bodyE (e : Ee) : Asn := own 5 1 e.2.1.1 e.2.2.1.length (B e.2.2.1) * own 66 3 e.2.2.2.1.1 (top e.2.2.2.2).length (Fl encT66 (top e.2.2.2.2)) * ownFo e.2.2.2.2
def ownsE (ls : List Ee) : Asn := stars (ls.map bodyE)
theorem ownsE_nil : ownsE [] = emp := rfl
theorem ownsE_cons (m : Ee) (r : List Ee) : ownsE (m :: r) = ownsE r * bodyE m := sep_comm _ _
theorem ownFo_top : ∀ f : Fo, ownFo f = ownsE (top f)
  | .nil => rfl
  | .cons t bv bs ev f r => by rw [ownFo, top, ownsE_cons, ownFo_top r]
theorem ownsE_snoc (ls : List Ee) (t : Int) (bv : SV) (bs : List UInt8) (ev : SV) (f : Fo) : ownsE (ls ++ [(t, bv, bs, ev, f)]) = ownsE ls * own 5 1 bv.1 bs.length (B bs) * own 66 3 ev.1 (top f).length (Fl encT66 (top f)) * ownsE (top f) := by
  unfold ownsE; rw [List.map_append]
  refine (stars_snoc _ _).trans ?_
  show _ * (_ * _ * ownFo f) = _
  rw [ownFo_top]
  unfold ownsE
  ac_rfl
theorem ownsE_drop {ls : List Ee} {i : Nat} (h : i < ls.length) {t : Int} {bv ev : SV} {bs : List UInt8} {f : Fo} (e : ls.getD i default = (t, bv, bs, ev, f)) : ownsE (ls.drop i) = ownsE (ls.drop (i + 1)) * own 5 1 bv.1 bs.length (B bs) * own 66 3 ev.1 (top f).length (Fl encT66 (top f)) * ownsE (top f) := by
  rw [drop_next h, ownsE_cons, e]
  show _ * (_ * _ * ownFo f) = _
  rw [ownFo_top]
  ac_rfl
theorem Sat.ownFo0 {w0 w : World} : ∀ {f : Fo} {A : Asn}, Sat w0 w (A * ownFo f) → GFo w0 (ownFo f) f
  | .nil, _, _ => trivial
  | .cons t bv bs ev f r, A, h => by
    have h1 : Sat w0 w (A * ownFo r * own 5 1 bv.1 bs.length (B bs) * own 66 3 ev.1 (top f).length (Fl encT66 (top f)) * ownFo f) := h.conv (by rw [ownFo]; ac_rfl)
    have g1 := Sat.ownFo0 h1
    have g2 := h1.weak.ownRd0
    have g3 := h1.weak.weak.ownRd0
    have g4 := Sat.ownFo0 h1.weak.weak.weak
    rw [ownFo]
    exact ⟨⟨Rd.right (Rd.left (Rd.left g3)), Rd.right (Rd.left (Rd.right g2)), GFo.right (GFo.right g1)⟩, GFo.left g4⟩
theorem Sat.ownsE0 {w0 w : World} {ls : List Ee} {A : Asn} (h : Sat w0 w (A * ownsE ls)) : Alls (GE w0) (ownsE ls) ls := by
  have e : ownsE ls = ownFo (untop ls) := by rw [ownFo_top, top_untop]
  rw [e] at h
  have := GFo.alls (Sat.ownFo0 h)
  rw [top_untop] at this
  rw [e]
  exact this
end Go.Proofs.Ytlheianbmpgefaa
