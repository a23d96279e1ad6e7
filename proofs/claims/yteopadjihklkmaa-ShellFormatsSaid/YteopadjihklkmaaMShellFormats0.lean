/- Part 0 of the proof of ShellFormats. -/
import Derived.WalkKit
import Derived.Laws.CopyOwn
import Derived.Laws.Cover1
section
namespace Go.Proofs.Yteopadjihklkmaa
open Go
/-! ### Parts of memory -/
abbrev PH := Nat → Option Obj
structure Asn where
  holds : PH → Prop
theorem Asn.ext' {A B : Asn} (h : ∀ p, A.holds p ↔ B.holds p) : A = B := by
  cases A; cases B
  congr
  funext p
  exact propext (h p)
def sep (A B : Asn) : Asn := ⟨fun h => ∃ h1 h2 : PH, (∀ b, h1 b = none ∨ h2 b = none) ∧ (∀ b, h b = (h1 b).or (h2 b)) ∧ A.holds h1 ∧ B.holds h2⟩
instance : Mul Asn := ⟨sep⟩
def emp : Asn := ⟨fun h => ∀ b, h b = none⟩
theorem sep_comm (A B : Asn) : A * B = B * A := by
  have key : ∀ A B : Asn, ∀ p, (A * B).holds p → (B * A).holds p := by
    rintro A B p ⟨h1, h2, d, u, a, b⟩
    refine ⟨h2, h1, fun x => (d x).symm, fun x => ?_, b, a⟩
    rw [u x]
    rcases d x with e | e <;> simp [e]
  exact Asn.ext' fun p => ⟨key A B p, key B A p⟩
theorem sep_assoc (A B C : Asn) : A * B * C = A * (B * C) := by
  refine Asn.ext' fun p => ⟨?_, ?_⟩
  · rintro ⟨h12, h3, d, u, ⟨h1, h2, d', u', a, b⟩, c⟩
    refine ⟨h1, fun x => (h2 x).or (h3 x), fun x => ?_, fun x => ?_, a, h2, h3, fun x => ?_, fun x => rfl, b, c⟩
    · rcases d' x with e | e
      · exact .inl e
      · rcases d x with e2 | e2
        · rw [u' x, e] at e2
          simp at e2
          exact .inl e2
        · exact .inr (by simp [e, e2])
    · rw [u x, u' x, Option.or_assoc]
    · rcases d x with e2 | e2
      · rw [u' x] at e2
        simp only [Option.or_eq_none_iff] at e2
        exact .inl e2.2
      · exact .inr e2
  · rintro ⟨h1, h23, d, u, a, h2, h3, d', u', b, c⟩
    refine ⟨fun x => (h1 x).or (h2 x), h3, fun x => ?_, fun x => ?_, ⟨h1, h2, fun x => ?_, fun x => rfl, a, b⟩, c⟩
    · rcases d' x with e | e
      · rcases d x with e2 | e2
        · exact .inl (by simp [e, e2])
        · rw [u' x, e] at e2
          simp at e2
          exact .inr e2
      · exact .inr e
    · rw [u x, u' x, Option.or_assoc]
    · rcases d x with e2 | e2
      · exact .inl e2
      · rw [u' x] at e2
        simp only [Option.or_eq_none_iff] at e2
        exact .inr e2.1
instance : Std.Associative (α := Asn) (· * ·) := ⟨sep_assoc⟩
instance : Std.Commutative (α := Asn) (· * ·) := ⟨sep_comm⟩
theorem sep_emp (A : Asn) : A * emp = A := by
  refine Asn.ext' fun p => ⟨?_, fun h => ⟨p, fun _ => none, fun _ => .inr rfl, fun _ => by simp, h, fun _ => rfl⟩⟩
  rintro ⟨h1, h2, d, u, a, e⟩
  have : p = h1 := funext fun x => by rw [u x, e x]; simp
  rw [this]
  exact a
theorem emp_sep (A : Asn) : emp * A = A := by rw [sep_comm, sep_emp]
/-- One block. -/
def pts (b : Nat) (o : Obj) : Asn := ⟨fun h => ∀ x, h x = if x = b then some o else none⟩
/-- All that was there at first. -/
def old (w0 : World) : Asn := ⟨fun h => ∀ x, h x = w0.heap[x]?⟩
/-- Some memory that nobody asks for any more. -/
def junk : Asn := ⟨fun _ => True⟩
/-- A and more. -/
def Grew (A B : Asn) : Prop := ∃ J, B = A * J
theorem Grew.refl (A : Asn) : Grew A A := ⟨emp, (sep_emp A).symm⟩
theorem Grew.mul {A B : Asn} (h : Grew A B) (C : Asn) : Grew A (B * C) := by
  obtain ⟨J, rfl⟩ := h
  exact ⟨J * C, sep_assoc _ _ _⟩
theorem Grew.trans {A B C : Asn} (h : Grew A B) (k : Grew B C) : Grew A C := by
  obtain ⟨J, rfl⟩ := h
  obtain ⟨J', rfl⟩ := k
  exact ⟨J * J', sep_assoc _ _ _⟩
/-! ### A world that meets an assertion; w0 is the world at first -/
structure Sat (w0 w : World) (A : Asn) : Prop where
  os : w.os = w0.os
  tape : w.tape = w0.tape
  output : w.output = w0.output
  size : w0.heap.size ≤ w.heap.size
  heap : ∃ h : PH, (∀ b o, h b = some o → w.heap[b]? = some o) ∧ A.holds h
theorem Sat.conv {w0 w : World} {A B : Asn} (h : Sat w0 w A) (e : A = B) : Sat w0 w B := e ▸ h
theorem Sat.start (w : World) : Sat w w (old w) := ⟨rfl, rfl, rfl, Nat.le_refl _, fun x => w.heap[x]?, fun _ _ h => h, fun _ => rfl⟩
theorem Sat.weak {w0 w : World} {A B : Asn} (h : Sat w0 w (A * B)) : Sat w0 w A := by
  obtain ⟨a, b, c, d, p, hp, h1, h2, dj, u, x, y⟩ := h
  refine ⟨a, b, c, d, h1, fun k o ho => hp k o ?_, x⟩
  rw [u k, ho]
  rfl
theorem Sat.weakl {w0 w : World} {A B : Asn} (h : Sat w0 w (A * B)) : Sat w0 w B := (h.conv (sep_comm _ _)).weak
/-- One part turned into another that holds wherever it does. -/
def Ent (A B : Asn) : Prop := ∀ p, A.holds p → B.holds p
theorem Ent.sep {A A' B B' : Asn} (h : Ent A A') (k : Ent B B') : Ent (A * B) (A' * B') := by
  rintro p ⟨h1, h2, d, u, a, b⟩
  exact ⟨h1, h2, d, u, h _ a, k _ b⟩
theorem Ent.refl (A : Asn) : Ent A A := fun _ h => h
theorem Sat.ent {w0 w : World} {A B : Asn} (h : Sat w0 w A) (e : Ent A B) : Sat w0 w B := by
  obtain ⟨a, b, c, d, p, hp, x⟩ := h
  exact ⟨a, b, c, d, p, hp, e _ x⟩
theorem Sat.entr {w0 w : World} {A B B' : Asn} (h : Sat w0 w (A * B)) (e : Ent B B') : Sat w0 w (A * B') := h.ent (Ent.sep (Ent.refl _) e)
/-- What a part tells by itself, whatever the world. -/
theorem Sat.fact {w0 w : World} {A B : Asn} {p : Prop} (h : Sat w0 w (A * B)) (e : ∀ q, B.holds q → p) : p := by
  obtain ⟨a, b, c, d, q, hp, h1, h2, dj, u, x, y⟩ := h
  exact e _ y
theorem Sat.get {w0 w : World} {A : Asn} {b : Nat} {o : Obj} (h : Sat w0 w (A * pts b o)) : w.heap[b]? = some o := by
  obtain ⟨_, _, _, _, q, hp, h1, h2, dj, u, x, y⟩ := h
  refine hp b o ?_
  have y' := y b
  rw [if_pos rfl] at y'
  have := (dj b).resolve_right (by rw [y']; simp)
  rw [u b, this, y']
  rfl
theorem Sat.lt {w0 w : World} {A : Asn} {b : Nat} {o : Obj} (h : Sat w0 w (A * pts b o)) : b < w.heap.size := (Array.getElem?_eq_some_iff.1 h.get).1
theorem Sat.getBase {w0 w : World} {A : Asn} (h : Sat w0 w (A * old w0)) {b : Nat} (hb : b < w0.heap.size) : w.heap[b]? = w0.heap[b]? := by
  obtain ⟨_, _, _, _, q, hp, h1, h2, dj, u, x, y⟩ := h
  have hs : w0.heap[b]? = some w0.heap[b] := by simp [hb]
  rw [hs]
  refine hp b _ ?_
  have y' := y b
  rw [hs] at y'
  have := (dj b).resolve_right (by rw [y']; simp)
  rw [u b, this, y']
  rfl
/-- A change of one block (or of none). -/
theorem Sat.upd {w0 w w' : World} {A : Asn} {b : Nat} {o o' : Obj} (h : Sat w0 w (A * pts b o)) (ho : w'.os = w.os) (ht : w'.tape = w.tape) (hu : w'.output = w.output) (hs : w.heap.size ≤ w'.heap.size)
    (hne : ∀ k, k ≠ b → k < w.heap.size → w'.heap[k]? = w.heap[k]?) (hb : w'.heap[b]? = some o') : Sat w0 w' (A * pts b o') := by
  obtain ⟨e1, e2, e3, e4, q, hp, h1, h2, dj, u, x, y⟩ := h
  refine ⟨ho.trans e1, ht.trans e2, hu.trans e3, Nat.le_trans e4 hs, fun k => if k = b then some o' else q k, ?_, h1, fun k => if k = b then some o' else none, ?_, ?_, x, fun k => rfl⟩
  · intro k p hk
    by_cases e : k = b
    · subst e
      simp at hk
      rw [hb, hk]
    · simp [e] at hk
      have hq := hp k p hk
      rw [hne k e (Array.getElem?_eq_some_iff.1 hq).1]
      exact hq
  · intro k
    by_cases e : k = b
    · subst e
      have y' := y k
      rw [if_pos rfl] at y'
      exact .inl ((dj k).resolve_right (by rw [y']; simp))
    · simp [e]
  · intro k
    by_cases e : k = b
    · subst e
      have y' := y k
      rw [if_pos rfl] at y'
      have := (dj k).resolve_right (by rw [y']; simp)
      simp [this]
    · have y' := y k
      rw [if_neg e] at y'
      simp [e, u k, y']
/-- New blocks alone. -/
theorem Sat.grow {w0 w w' : World} {A : Asn} (h : Sat w0 w A) (ho : w'.os = w.os) (ht : w'.tape = w.tape) (hu : w'.output = w.output) (hs : w.heap.size ≤ w'.heap.size)
    (hne : ∀ k, k < w.heap.size → w'.heap[k]? = w.heap[k]?) : Sat w0 w' A := by
  obtain ⟨e1, e2, e3, e4, q, hp, x⟩ := h
  refine ⟨ho.trans e1, ht.trans e2, hu.trans e3, Nat.le_trans e4 hs, q, fun k p hk => ?_, x⟩
  have hq := hp k p hk
  rw [hne k (Array.getElem?_eq_some_iff.1 hq).1]
  exact hq
theorem Sat.fresh {w0 w w' : World} {A : Asn} {b : Nat} {o : Obj} (h : Sat w0 w A) (ho : w'.os = w.os) (ht : w'.tape = w.tape) (hu : w'.output = w.output) (hs : w.heap.size ≤ w'.heap.size)
    (hne : ∀ k, k < w.heap.size → w'.heap[k]? = w.heap[k]?) (hge : w.heap.size ≤ b) (hb : w'.heap[b]? = some o) : Sat w0 w' (A * pts b o) := by
  obtain ⟨e1, e2, e3, e4, q, hp, x⟩ := h
  have hqb : q b = none := by
    cases e : q b with
    | none => rfl
    | some p => have := (Array.getElem?_eq_some_iff.1 (hp b p e)).1; omega
  refine ⟨ho.trans e1, ht.trans e2, hu.trans e3, Nat.le_trans e4 hs, fun k => if k = b then some o else q k, ?_, q, fun k => if k = b then some o else none, ?_, ?_, x, fun k => rfl⟩
  · intro k p hk
    by_cases e : k = b
    · subst e
      simp at hk
      rw [hb, hk]
    · simp [e] at hk
      have hq := hp k p hk
      rw [hne k (Array.getElem?_eq_some_iff.1 hq).1]
      exact hq
  · intro k
    by_cases e : k = b
    · subst e
      exact .inl hqb
    · simp [e]
  · intro k
    by_cases e : k = b
    · subst e
      simp [hqb]
    · simp [e]
theorem Sat.alloc {w0 w : World} {A : Asn} (h : Sat w0 w A) (o : Obj) : Sat w0 (w.alloc o) (A * pts w.heap.size o) :=
  h.fresh rfl rfl rfl (by simp) (fun _ hk => heap_alloc_old w o hk) (Nat.le_refl _) (heap_alloc_new w o)
theorem Sat.drew {w0 w : World} {A : Asn} (h : Sat w0 w A) : Sat w0 w.drew A := h.grow rfl rfl rfl (Nat.le_refl _) fun _ _ => rfl
theorem Sat.drawnN {w0 w : World} {A : Asn} (h : Sat w0 w A) (n : Nat) : Sat w0 { w with drawn := n } A := h.grow rfl rfl rfl (Nat.le_refl _) fun _ _ => rfl
theorem Sat.setCell {w0 w : World} {A : Asn} {b i : Nat} {cs : Array Value} {t : TypeId} {fr : Nat × Nat} (h : Sat w0 w (A * pts b (.cells cs t fr))) (v : Value) :
    Sat w0 (w.setCell ⟨b, i, none⟩ v) (A * pts b (.cells (cs.setIfInBounds i v) t fr)) :=
  h.upd rfl rfl rfl (by simp) (fun _ hk _ => by simp only [World.setCell, Array.getElem?_modify]; rw [if_neg (fun e => hk e.symm)]) (by
    simp only [World.setCell, Array.getElem?_modify, if_true, h.get, Option.map_some]
    simp)
theorem Sat.below {w0 w : World} {A : Asn} (h : Sat w0 w (A * old w0)) : RowKit.Below w0.heap.size w0 w :=
  ⟨h.os, h.tape, h.output, h.size, fun _ hk => h.getBase hk⟩
/-! ### Cells that can be read -/
/-- Wherever A is met the cell holds v. -/
structure Cell (w0 : World) (A : Asn) (a : Addr) (v : Value) : Prop where
  out : ∀ w, Sat w0 w A → w.cell? a = some v
theorem Cell.pts {w0 : World} {A : Asn} {b i : Nat} {cs : Array Value} {t : TypeId} {fr : Nat × Nat} {v : Value} (h : cs[i]? = some v) : Cell w0 (A * pts b (.cells cs t fr)) ⟨b, i, none⟩ v := by
  refine ⟨fun w s => ?_⟩
  simp [World.cell?, s.get, h]
theorem Cell.left {w0 : World} {A B : Asn} {a : Addr} {v : Value} (h : Cell w0 A a v) : Cell w0 (A * B) a v := ⟨fun w s => h.out w s.weak⟩
theorem Cell.right {w0 : World} {A B : Asn} {a : Addr} {v : Value} (h : Cell w0 B a v) : Cell w0 (A * B) a v := ⟨fun w s => h.out w s.weakl⟩
theorem Cell.base {w0 : World} {A : Asn} {a : Addr} {v : Value} (h : w0.cell? a = some v) : Cell w0 (A * old w0) a v := by
  refine ⟨fun w s => ?_⟩
  have hb : a.block < w0.heap.size := World.block_lt_of_cell? w0 a h
  rw [World.cell?_of_block (s.getBase hb)]
  exact h
theorem Cell.base0 {w0 : World} {a : Addr} {v : Value} (h : w0.cell? a = some v) : Cell w0 (old w0) a v := by
  have := Cell.base (A := emp) h
  rwa [emp_sep] at this
theorem Cell.conv {w0 : World} {A B : Asn} {a : Addr} {v : Value} (h : Cell w0 A a v) (e : A = B) : Cell w0 B a v := e ▸ h
/-- A slice that can be read: n elements of 'size' cells each, whose cells are xs. -/
structure Rd (w0 : World) (A : Asn) (v : Value) (size n : Nat) (xs : List Value) : Prop where
  len : xs.length = n * size
  max0 : n ≤ maxLen
  is : ∃ ad cap, v = .slice ad n cap ∧ n ≤ cap ∧ (0 < n → ∃ a, ad = some a ∧ ∀ j u, xs[j]? = some u → Cell w0 A (a.add j) u)
theorem Rd.left {w0 : World} {A B : Asn} {v : Value} {size n : Nat} {xs : List Value} (h : Rd w0 A v size n xs) : Rd w0 (A * B) v size n xs := by
  obtain ⟨a, b, ad, cap, c, d, e⟩ := h
  exact ⟨a, b, ad, cap, c, d, fun hn => let ⟨x, hx, hc⟩ := e hn; ⟨x, hx, fun j u hj => (hc j u hj).left⟩⟩
theorem Rd.right {w0 : World} {A B : Asn} {v : Value} {size n : Nat} {xs : List Value} (h : Rd w0 B v size n xs) : Rd w0 (A * B) v size n xs := by
  obtain ⟨a, b, ad, cap, c, d, e⟩ := h
  exact ⟨a, b, ad, cap, c, d, fun hn => let ⟨x, hx, hc⟩ := e hn; ⟨x, hx, fun j u hj => (hc j u hj).right⟩⟩
theorem Rd.conv {w0 : World} {A B : Asn} {v : Value} {size n : Nat} {xs : List Value} (h : Rd w0 A v size n xs) (e : A = B) : Rd w0 B v size n xs := e ▸ h
/-! ### A slice of the call's own -/
def own (e : TypeId) (size : Nat) (v : Value) (n : Nat) (xs : List Value) : Asn := ⟨fun h =>
  xs.length = n * size ∧ ((v = .slice none 0 0 ∧ n = 0 ∧ ∀ b, h b = none) ∨
    ∃ g cap cur, v = .slice (some ⟨g, 0, none⟩) n cap ∧ n ≤ cap ∧ cap ≤ maxLen ∧ cur.size = cap * size ∧ cur.toList.take (n * size) = xs ∧ (pts g (.cells cur e (0, 0))).holds h)⟩
theorem own_nil (e : TypeId) (size : Nat) : Ent emp (own e size (.slice none 0 0) 0 []) := fun _ h => ⟨by simp, .inl ⟨rfl, rfl, h⟩⟩
theorem Ent.ownNil (A : Asn) (e : TypeId) (size : Nat) : Ent A (A * own e size (.slice none 0 0) 0 []) := by
  have h := Ent.sep (Ent.refl A) (own_nil e size)
  rwa [sep_emp] at h
theorem Ent.drop (A B : Asn) : Ent (A * B) (A * junk) := Ent.sep (Ent.refl A) (fun _ _ => trivial)
theorem Sat.ownNil {w0 w : World} {A : Asn} (e : TypeId) (size : Nat) (h : Sat w0 w A) : Sat w0 w (A * own e size (.slice none 0 0) 0 []) :=
  (h.conv (sep_emp A).symm).entr (own_nil e size)
theorem Sat.ownLen {w0 w : World} {A : Asn} {e : TypeId} {size n : Nat} {v : Value} {xs : List Value} (h : Sat w0 w (A * own e size v n xs)) : xs.length = n * size ∧ n ≤ maxLen := by
  refine h.fact fun q hq => ?_
  obtain ⟨a, b⟩ := hq
  refine ⟨a, ?_⟩
  rcases b with ⟨_, rfl, _⟩ | ⟨g, cap, cur, _, h1, h2, _⟩
  · simp [maxLen]
  · omega
/-- The two forms of what is owned. -/
theorem Sat.ownForm {w0 w : World} {A : Asn} {e : TypeId} {size n : Nat} {v : Value} {xs : List Value} (h : Sat w0 w (A * own e size v n xs)) :
    (v = .slice none 0 0 ∧ n = 0 ∧ xs = [] ∧ Sat w0 w A) ∨ ∃ g cap cur, v = .slice (some ⟨g, 0, none⟩) n cap ∧ n ≤ cap ∧ cap ≤ maxLen ∧ cur.size = cap * size ∧ cur.toList.take (n * size) = xs ∧ Sat w0 w (A * pts g (.cells cur e (0, 0))) := by
  obtain ⟨e1, e2, e3, e4, q, hp, h1, h2, dj, u, x, hl, y⟩ := h
  rcases y with ⟨rfl, rfl, hn⟩ | ⟨g, cap, cur, hv, a, b, c, d, y⟩
  · refine .inl ⟨rfl, rfl, List.eq_nil_of_length_eq_zero (by simpa using hl), e1, e2, e3, e4, h1, fun k o hk => hp k o ?_, x⟩
    rw [u k, hk]
    rfl
  · exact .inr ⟨g, cap, cur, hv, a, b, c, d, e1, e2, e3, e4, q, hp, h1, h2, dj, u, x, y⟩
theorem own_of_pts {e : TypeId} {size n cap g : Nat} {cur : Array Value} {xs : List Value} (hl : xs.length = n * size) (h1 : n ≤ cap) (h2 : cap ≤ maxLen) (h3 : cur.size = cap * size) (h4 : cur.toList.take (n * size) = xs) :
    Ent (pts g (.cells cur e (0, 0))) (own e size (.slice (some ⟨g, 0, none⟩) n cap) n xs) := fun _ h => ⟨hl, .inr ⟨g, cap, cur, rfl, h1, h2, h3, h4, h⟩⟩
/-- As the library's word has it. -/
theorem Sat.ownsRow {w0 w : World} {A : Asn} {e : TypeId} {size n : Nat} {v : Value} {xs : List Value} (h : Sat w0 w (A * own e size v n xs)) : w.ownsRow 0 e size v n xs := by
  refine ⟨h.ownLen.1, ?_⟩
  rcases h.ownForm with ⟨a, b, c, d⟩ | ⟨g, cap, cur, hv, a, b, c, d, s⟩
  · exact .inl ⟨a, b⟩
  · exact .inr ⟨g, cap, cur, hv, Nat.zero_le _, s.get, a, b, c, d⟩
theorem Rd.own {w0 : World} {A : Asn} {e : TypeId} {size n : Nat} {v : Value} {xs : List Value} (hl : xs.length = n * size) (hn : n ≤ maxLen) (hv : ∃ ad cap, v = .slice ad n cap ∧ n ≤ cap ∧ (0 < n → ∃ g, ad = some ⟨g, 0, none⟩)) :
    Rd w0 (A * own e size v n xs) v size n xs := by
  obtain ⟨ad, cap, rfl, hc, hg⟩ := hv
  refine ⟨hl, hn, ad, cap, rfl, hc, fun h0 => ?_⟩
  obtain ⟨g, rfl⟩ := hg h0
  refine ⟨_, rfl, fun j u hj => ⟨fun w s => ?_⟩⟩
  exact s.ownsRow.cells (g := g) rfl j u hj
theorem Sat.ownRd {w0 w : World} {A : Asn} {e : TypeId} {size n : Nat} {v : Value} {xs : List Value} (h : Sat w0 w (A * own e size v n xs)) : Rd w0 (A * own e size v n xs) v size n xs := by
  refine Rd.own h.ownLen.1 h.ownLen.2 ?_
  rcases h.ownForm with ⟨rfl, rfl, c, d⟩ | ⟨g, cap, cur, rfl, a, b, c, d, s⟩
  · exact ⟨none, 0, rfl, Nat.le_refl _, fun h => absurd h (Nat.lt_irrefl _)⟩
  · exact ⟨_, cap, rfl, a, fun _ => ⟨g, rfl⟩⟩
/-- What is left of A behind a growth. -/
theorem Sat.kept {w0 w w' : World} {A : Asn} {e : TypeId} {size n : Nat} {v : Value} {xs : List Value} (h : Sat w0 w (A * own e size v n xs)) (hg : w.grownBy w' v.ownBlock) :
    w'.os = w0.os ∧ w'.tape = w0.tape ∧ w'.output = w0.output ∧ w0.heap.size ≤ w'.heap.size ∧ ∃ q : PH, (∀ k o, q k = some o → w'.heap[k]? = some o ∧ k < w.heap.size) ∧ A.holds q := by
  obtain ⟨s1, s2, s3, s4, q, hp, h1, h2, dj, u, x, y⟩ := h
  refine ⟨hg.os.trans s1, hg.tape.trans s2, hg.output.trans s3, Nat.le_trans s4 hg.size, h1, fun k o hk => ?_, x⟩
  have hq := hp k o (by rw [u k, hk]; rfl)
  have hlt := (Array.getElem?_eq_some_iff.1 hq).1
  refine ⟨?_, hlt⟩
  rw [hg.block k hlt ?_]
  · exact hq
  · intro e1
    rcases y with ⟨_, ⟨rfl, _⟩ | ⟨g, cap, cur, rfl, _, _, _, _, y⟩⟩
    · simp [Value.ownBlock] at e1
    · simp only [Value.ownBlock, Option.some.injEq] at e1
      subst e1
      have y' := y k
      rw [if_pos rfl] at y'
      have := (dj k).resolve_right (by rw [y']; simp)
      rw [this] at hk
      cases hk
theorem Sat.ofGrown {w0 w w' : World} {A : Asn} {e : TypeId} {size n n' : Nat} {v v' : Value} {xs xs' : List Value} (h : Sat w0 w (A * own e size v n xs)) (hg : w.grownBy w' v.ownBlock)
    (ho : w'.ownsRow 0 e size v' n' xs') (hat : v' = .slice none 0 0 ∨ (∃ k, v'.ownBlock = some k ∧ (some k = v.ownBlock ∨ w.heap.size ≤ k))) : Sat w0 w' (A * own e size v' n' xs') := by
  rcases ho with ⟨hl, ho⟩
  rcases ho with ⟨rfl, rfl⟩ | ⟨g, cap, cur, rfl, _, hh, a, b, c, d⟩
  · have hx : xs' = [] := List.eq_nil_of_length_eq_zero (by simpa using hl)
    subst hx
    obtain ⟨s1, s2, s3, s4, q, hq, x⟩ := h.kept hg
    exact Sat.ownNil e size ⟨s1, s2, s3, s4, q, fun k o hk => (hq k o hk).1, x⟩
  · rcases hat with hat | ⟨k, hk, hat⟩
    · simp at hat
    · simp only [Value.ownBlock, Option.some.injEq] at hk
      subst hk
      have fin : Sat w0 w' (A * pts g (.cells cur e (0, 0))) → Sat w0 w' (A * own e size (.slice (some ⟨g, 0, none⟩) n' cap) n' xs') := fun s => s.entr (own_of_pts hl a b c d)
      rcases hat with hat | hat
      · rcases h.ownForm with ⟨rfl, rfl, _, s⟩ | ⟨g0, cap0, cur0, rfl, _, _, _, _, s⟩
        · simp [Value.ownBlock] at hat
        · simp only [Value.ownBlock, Option.some.injEq] at hat
          subst hat
          exact fin (s.upd hg.os hg.tape hg.output hg.size (fun k h1 h2 => hg.block k h2 (by simp only [Value.ownBlock, ne_eq, Option.some.injEq]; exact h1)) hh)
      · refine fin ?_
        obtain ⟨s1, s2, s3, s4, q, hq, x⟩ := h.kept hg
        have sA : Sat w0 w' A := ⟨s1, s2, s3, s4, q, fun k o hk => (hq k o hk).1, x⟩
        have hqb : q g = none := by
          cases eq : q g with
          | none => rfl
          | some p => have := (hq g p eq).2; omega
        refine ⟨s1, s2, s3, s4, fun k => if k = g then some (.cells cur e (0, 0)) else q k, ?_, q, fun k => if k = g then some (.cells cur e (0, 0)) else none, ?_, ?_, x, fun k => rfl⟩
        · intro k p hk
          by_cases e : k = g
          · subst e
            simp at hk
            rw [hh, hk]
          · simp [e] at hk
            exact (hq k p hk).1
        · intro k
          by_cases e : k = g
          · subst e
            exact .inl hqb
          · simp [e]
        · intro k
          by_cases e : k = g
          · subst e
            simp [hqb]
          · simp [e]
end Go.Proofs.Yteopadjihklkmaa
end
