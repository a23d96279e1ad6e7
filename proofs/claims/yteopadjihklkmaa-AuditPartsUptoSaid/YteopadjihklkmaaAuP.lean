/- Sums by operator: plain law; rows of numbers. -/
import Derived.Test.YteopadjihklkmaaAuD
namespace Go.Proofs.Yteopadjihklkmaa
open Go Go.Proofs
set_option maxRecDepth 100000
set_option maxHeartbeats 4000000
set_option linter.unusedSimpArgs false
def shs (ps : List Po) : List Sh := ps.flatMap fun p => p.2.2.2
def amts (op : Int) (l : List Sh) : List Int := (l.filter fun s => decide (s.1 = op)).map Prod.snd
def okT (n : Int) (s : Sh) : Bool := decide (1 ≤ s.1) && decide (s.1 ≤ n)
def rowsOf (n : Nat) (l : List Sh) : List (List Int) := (List.range n).map fun (k : Nat) => amts ((k : Int) + 1) l
def sumsO : List (List Int) → Option (List Int)
  | [] => some []
  | r :: t => match sumO 0 r with
    | none => none
    | some n => (sumsO t).map (n :: ·)
/-- What Totals answers. -/
def totF (n : Int) (l : List Sh) : Int × List Int :=
  if n < 1 ∨ 4 < n then (2, []) else if l.all (okT n) = true then
    match sumsO (rowsOf n.toNat l) with
    | some o => (0, o)
    | none => (29, [])
  else (2, [])
theorem shs_next {ps : List Po} {i : Nat} (h : i < ps.length) : shs (ps.take (i + 1)) = shs (ps.take i) ++ (ps.getD i default).2.2.2 := by
  rw [shs, take_next h, List.flatMap_append]; simp [shs]
theorem shs_len_le {ps : List Po} {i : Nat} : (shs (ps.take i)).length ≤ (shs ps).length := by
  have h := congrArg (fun l => (shs l).length) (List.take_append_drop i ps)
  simp only [shs, List.flatMap_append, List.length_append] at h
  simp only [shs]
  omega
theorem shs_at_le {ps : List Po} {i : Nat} (h : i < ps.length) : (shs (ps.take i)).length + (ps.getD i default).2.2.2.length ≤ (shs ps).length := by
  have := shs_len_le (ps := ps) (i := i + 1)
  rw [shs_next h, List.length_append] at this
  exact this
theorem mem_shs {ps : List Po} {s : Sh} (h : s ∈ shs ps) : ∃ p ∈ ps, s ∈ p.2.2.2 := List.mem_flatMap.1 h
theorem amts_snoc (op : Int) (l : List Sh) (s : Sh) : amts op (l ++ [s]) = if s.1 = op then amts op l ++ [s.2] else amts op l := by
  simp only [amts, List.filter_append, List.map_append]
  by_cases h : s.1 = op <;> simp [h]
theorem amts_append (op : Int) (l m : List Sh) : amts op (l ++ m) = amts op l ++ amts op m := by
  simp only [amts, List.filter_append, List.map_append]
theorem amts_len (op : Int) (l : List Sh) : (amts op l).length ≤ l.length := by
  simp only [amts, List.length_map]; exact List.length_filter_le _ _
theorem amts_in {op : Int} {l : List Sh} (h : ∀ s ∈ l, inI s.2) : ∀ z ∈ amts op l, inI z := fun z hz => by
  obtain ⟨s, hs, rfl⟩ := List.mem_map.1 hz
  exact h s (List.mem_filter.1 hs).1
theorem rowsOf_len (n : Nat) (l : List Sh) : (rowsOf n l).length = n := by simp [rowsOf]
theorem rowsOf_get {n k : Nat} (h : k < n) (l : List Sh) : (rowsOf n l).getD k [] = amts ((k : Int) + 1) l := by
  rw [List.getD_eq_getElem?_getD, rowsOf, List.getElem?_map, List.getElem?_range h]; rfl
theorem rowsOf_nil (n : Nat) : rowsOf n [] = List.replicate n [] := by
  rw [rowsOf]
  refine List.ext_getElem (by simp) (fun i h1 h2 => ?_)
  simp [amts]
theorem rowsOf_snoc {n k : Nat} {l : List Sh} {s : Sh} (hs : s.1 = (k : Int) + 1) : rowsOf n (l ++ [s]) = (rowsOf n l).set k (amts ((k : Int) + 1) l ++ [s.2]) := by
  refine List.ext_getElem (by simp [rowsOf]) (fun i h1 h2 => ?_)
  rw [List.getElem_set]
  simp only [rowsOf, List.getElem_map, List.getElem_range, amts_snoc]
  by_cases e : k = i
  · subst e; rw [if_pos rfl, if_pos hs]
  · rw [if_neg e, if_neg (by omega)]
theorem sumsO_next {R : List (List Int)} {i : Nat} (h : i < R.length) : sumsO (R.drop i) = match sumO 0 (R.getD i []) with
    | none => none
    | some n => (sumsO (R.drop (i + 1))).map (n :: ·) := by
  rw [show R.drop i = R.getD i [] :: R.drop (i + 1) from drop_next h]; rfl
theorem okT_next {n : Int} {l : List Sh} {j : Nat} (h : j < l.length) : (l.take (j + 1)).all (okT n) = ((l.take j).all (okT n) && okT n (l.getD j default)) := by
  rw [take_next h, List.all_append]; simp
theorem okT_fail {n : Int} {ps : List Po} {i j : Nat} (hi : i < ps.length) (hj : j < (ps.getD i default).2.2.2.length) (hf : okT n ((ps.getD i default).2.2.2.getD j default) = false) : (shs ps).all (okT n) = false := by
  cases hb : (shs ps).all (okT n) with
  | false => rfl
  | true =>
    rw [List.all_eq_true.1 hb _ (List.mem_flatMap.2 ⟨_, getD_mem hi, getD_mem hj⟩)] at hf
    cases hf
/-! Rows that hold numbers. -/
abbrev Ri := SV × List Int
def encRi : Ri → List Value := fun (v, _) => [v.1]
instance : OneC encRi := ⟨fun a u hu => by
  simp only [encRi, List.mem_singleton] at hu
  subst hu
  exact a.1.2⟩
def rone (q : Ri) : Asn := own 3 1 q.1.1 q.2.length (I q.2)
def ownsRi (Q : List Ri) : Asn := stars (Q.map rone)
def rrest (Q : List Ri) (i : Nat) : Asn := stars ((Q.take i).map rone) * stars ((Q.drop (i + 1)).map rone)
theorem ownsRi_at {Q : List Ri} {i : Nat} (h : i < Q.length) : ownsRi Q = rrest Q i * rone (Q.getD i default) := by
  have e : Q = Q.take i ++ Q.getD i default :: Q.drop (i + 1) := by rw [← drop_next h, List.take_append_drop]
  have e2 : ownsRi Q = stars ((Q.take i ++ Q.getD i default :: Q.drop (i + 1)).map rone) := congrArg ownsRi e
  rw [e2, List.map_append, List.map_cons, stars_append, stars, rrest]
  ac_rfl
theorem ownsRi_set {Q : List Ri} {i : Nat} (h : i < Q.length) (q : Ri) : ownsRi (Q.set i q) = rrest Q i * rone q := by
  rw [List.set_eq_take_append_cons_drop, if_pos h, ownsRi, List.map_append, List.map_cons, stars_append, stars, rrest]
  ac_rfl
def GRi (w0 : World) (A : Asn) (r : Ri) : Prop := Rd w0 A r.1.1 1 r.2.length (I r.2)
instance {w0 : World} : Lift (GRi w0) := ⟨fun h => Rd.left h, fun h => Rd.right h⟩
theorem ownsRi_cons (p : Ri) (r : List Ri) : ownsRi (p :: r) = ownsRi r * own 3 1 p.1.1 p.2.length (I p.2) := sep_comm _ _
theorem Sat.ownsRi0 {w0 w : World} : ∀ {ls : List Ri} {A : Asn}, Sat w0 w (A * ownsRi ls) → Alls (GRi w0) (ownsRi ls) ls
  | [], _, _ => Alls.nil
  | p :: r, A, h => by
    have h1 : Sat w0 w (A * ownsRi r * own 3 1 p.1.1 p.2.length (I p.2)) := h.conv (by rw [ownsRi_cons, sep_assoc])
    have h2 := Sat.ownsRi0 h1.weak
    have h3 := h1.ownRd0
    rw [ownsRi_cons]
    exact Alls.cons (Rd.right h3) h2.left
abbrev r0 : Ri := (⟨.slice none 0 0, rfl⟩, [])
theorem ownsRi_new (k : Nat) : ownsRi (List.replicate k r0) = emp := by
  induction k with
  | zero => rfl
  | succ k ih =>
    have e : ownsRi (List.replicate (k + 1) r0) = rone r0 * ownsRi (List.replicate k r0) := rfl
    have e2 : own 3 1 (Value.slice none 0 0) 0 (I ([] : List Int)) = emp := own_nil_eq 3 1
    rw [e, ih, sep_emp]
    exact e2
theorem Fl_Ri_new (k : Nat) : Fl encRi (List.replicate k r0) = List.replicate k (.slice none 0 0) := by
  induction k with
  | zero => rfl
  | succ k ih =>
    rw [List.replicate_succ, List.replicate_succ, show Fl encRi (r0 :: List.replicate k r0) = encRi r0 ++ Fl encRi (List.replicate k r0) from rfl, ih]
    rfl
theorem rows_get {R : List Ri} {L : List (List Int)} {k : Nat} (h : R.map Prod.snd = L) (hk : k < R.length) : (R.getD k default).2 = L.getD k [] := by
  subst h
  rw [List.getD_eq_getElem?_getD, List.getD_eq_getElem?_getD, List.getElem?_map, List.getElem?_eq_getElem hk]; rfl
theorem rows_set {R : List Ri} {L : List (List Int)} {k : Nat} (h : R.map Prod.snd = L) (q : Ri) : (R.set k q).map Prod.snd = L.set k q.2 := by
  subst h
  rw [List.map_set]
end Go.Proofs.Yteopadjihklkmaa
