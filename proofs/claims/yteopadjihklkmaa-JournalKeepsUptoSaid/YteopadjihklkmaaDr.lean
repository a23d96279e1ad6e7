/- A statement whose operations Go may run in more than one order: readers at any time, writers one behind the other, the last ones at the end. Words of our own for the proofs of this seat. -/
import Derived.Test.YteopadjihklkmaaWr
namespace Go.Proofs.Yteopadjihklkmaa
open Go
set_option linter.unusedSimpArgs false
set_option linter.unusedVariables false
/-- The operations that must come ahead of this one. -/
def aft (o : Oper) : List Nat := (o.after.toList.filter fun e => Region.binds .any e).map (·.on)
/-- Which operations must come ahead, as bits. -/
def mask (acc : List Nat) (o : Oper) : Nat := (aft o).foldl (fun s j => s ||| (1 <<< j) ||| acc.getD j 0) 0
def befs : List Oper → List Nat → List Nat
  | [], acc => acc
  | o :: r, acc => befs r (acc ++ [mask acc o])
/-- Must operation c come ahead of operation i? -/
def reach (ms : List Nat) (c i : Nat) : Bool := (ms.getD i 0).testBit c
def ordered : Nat → List Oper → Bool
  | _, [] => true
  | i, o :: r => (aft o).all (fun j => Nat.blt j i) && ordered (i + 1) r
def pairs (ms : List Nat) : List Nat → Bool
  | [] => true
  | t :: r => r.all (fun u => !Nat.beq t u && reach ms t u) && pairs ms r
def has (l : List Nat) (i : Nat) : Bool := l.any (Nat.beq i)
def eqD (a : Option Nat) (d : Nat) : Bool := match a with | some x => Nat.beq x d | none => false
/-- The region's shape, to be looked at by the kernel. -/
def chk (ops : List Oper) (tail : List Nat) (keys : List Nat) (n : Nat) : Bool :=
  let ms := befs ops []
  ordered 0 ops && (List.range ops.length).all (fun i => has tail i || match (ops[i]?).bind (·.dst) with
    | none => true
    | some d => Nat.blt d n && !has keys d && (List.range ops.length).all fun j => Nat.beq i j || has tail j || !eqD ((ops[j]?).bind (·.dst)) d) &&
  tail.all (fun t => Nat.blt t ops.length && (List.range ops.length).all fun i => has tail i || reach ms i t) && pairs ms tail
def vof : List (Nat × Value) → Nat → Option Value
  | [], _ => none
  | (i, v) :: r, t => bif Nat.beq i t then some v else vof r t
/-- What an operation may lean on: the slots of those that must come ahead of it. -/
def depE (ops : Array Oper) (known : List (Nat × Value)) (o : Oper) : Env :=
  (aft o).filterMap fun j => match (ops[j]?).bind (·.dst), vof known j with
    | some d, some v => some (d, v)
    | _, _ => none
def allE (ops : Array Oper) (known : List (Nat × Value)) : Env :=
  known.filterMap fun p => match (ops[p.1]?).bind (·.dst), vof known p.1 with
    | some d, some v => some (d, v)
    | _, _ => none
section
variable (P : Program) (n : Nat) (w0 : World) (ops : Array Oper) (tail : List Nat) (E : Env) (A : Asn)
/-- The operation yields v, whatever else there is, and changes nothing. -/
structure QOp (o : Oper) (E : Env) (B : Asn) (v : Value) : Prop where
  out : ∀ a w X K Q, Ev n a E → Sat w0 w (B * X) → (∀ w', Sat w0 w' (B * X) → K (a.put o.dst v) w') → o.wp P a w K Q
structure COp (o : Oper) (E : Env) (B : Asn) (R : Value → Asn → Asn → Prop) : Prop where
  out : ∀ a w K Q, Ev n a E → Sat w0 w B → (∀ v P' L' w', R v P' L' → Sat w0 w' (A * P' * L') → K (a.put o.dst v) w') → o.wp P a w K Q
def gv : Value → Bool → Bool
  | .bool b, w => b == w
  | _, _ => false
/-- Is the operation's guard met? -/
def met (ops : Array Oper) (known : List (Nat × Value)) (o : Oper) : Option Bool :=
  match o.guard with
  | none => some true
  | some (j, want) => if (aft o).any (Nat.beq j) then
      match (ops[j]?).bind (·.dst), vof known j with
      | some _, some v => some (gv v want)
      | _, _ => none
    else none
inductive St (K : Act → World → Prop) : List (Nat × Value) → Asn → Asn → Prop
  | quiet {known : List (Nat × Value)} {Pk L : Asn} (i : Nat) (o : Oper) (v : Value) (hi : ops[i]? = some o) (hn : vof known i = none) (hm : met ops known o = some true) (ht : has tail i = false)
      (h : QOp P n w0 o (depE ops known o ++ E) (A * Pk) v) (k : St K ((i, v) :: known) Pk L) : St K known Pk L
  | skip {known : List (Nat × Value)} {Pk L : Asn} (i : Nat) (o : Oper) (hi : ops[i]? = some o) (hn : vof known i = none) (hm : met ops known o = some false) (ht : has tail i = false)
      (k : St K ((i, undef) :: known) Pk L) : St K known Pk L
  | chains {known : List (Nat × Value)} {Pk L : Asn} (cs : List Nat) (o : Nat → Oper) (R : Nat → Value → Asn → Asn → Prop) (hne : cs ≠ [])
      (hi : ∀ c ∈ cs, ops[c]? = some (o c) ∧ vof known c = none ∧ met ops known (o c) = some true ∧ has tail c = false)
      (hrest : (List.range ops.size).all (fun i => (vof known i).isSome || has cs i || cs.any fun c => reach (befs ops.toList []) c i) = true)
      (h : ∀ c ∈ cs, COp P n w0 A (o c) (depE ops known (o c) ++ E) (A * Pk * L) (R c)) (k : ∀ c, c ∈ cs → ∀ v P' L', R c v P' L' → St K ((c, v) :: known) P' L') (hP : ∀ c ∈ cs, ∀ v P' L', R c v P' L' → ∃ N, P' = Pk * N) : St K known Pk L
  | tail {known : List (Nat × Value)} {Pk L : Asn}
      (hall : (List.range ops.size).all (fun i => (vof known i).isSome || has tail i) = true)
      (h : RunL P n w0 ops (tail.filterMap fun i => ops[i]?) K (allE ops known ++ E) (A * Pk * L)) : St K known Pk L
end

/-! ### That this covers every order -/
theorem vof_cons_ne {i t : Nat} {v : Value} {r : List (Nat × Value)} (h : i ≠ t) : vof ((i, v) :: r) t = vof r t := by
  have : Nat.beq i t = false := by
    cases hq : Nat.beq i t with
    | false => rfl
    | true => exact absurd (Nat.eq_of_beq_eq_true hq) h
  simp [vof, this]
theorem vof_cons_eq {i : Nat} {v : Value} {r : List (Nat × Value)} : vof ((i, v) :: r) i = some v := by simp [vof]
theorem vof_mono {i j : Nat} {v u : Value} {r : List (Nat × Value)} (hn : vof r i = none) (h : vof r j = some u) : vof ((i, v) :: r) j = some u := by
  by_cases e : i = j
  · subst e
    rw [hn] at h
    cases h
  · rw [vof_cons_ne e, h]
theorem any_beq {l : List Nat} {i : Nat} : l.any (Nat.beq i) = true ↔ i ∈ l := by
  rw [List.any_eq_true]
  constructor
  · rintro ⟨x, hx, h⟩
    rw [Nat.eq_of_beq_eq_true h]
    exact hx
  · intro h
    exact ⟨i, h, by simp⟩
def lis (listed : Array Bool) (i : Nat) : Prop := listed[i]? = some true
inductive Ok (ops : Array Oper) : Nat → Array Bool → List Nat → Prop
  | zero (listed : Array Bool) : Ok ops 0 listed []
  | stop (f : Nat) (listed : Array Bool) (h : ∀ (i : Nat) (o : Oper), listed[i]? = some false → ops[i]? = some o → ∃ j ∈ aft o, ¬ lis listed j) : Ok ops f listed []
  | step (f i : Nat) (o : Oper) (listed : Array Bool) (l : List Nat) (hi : listed[i]? = some false) (ho : ops[i]? = some o) (hr : ∀ j ∈ aft o, lis listed j) (k : Ok ops f (listed.setIfInBounds i true) l) : Ok ops (f + 1) listed (i :: l)
theorem lin_ok (ops : Array Oper) : ∀ (f t : Nat) (listed : Array Bool) (acc : List Nat), listed.size = ops.size → ∃ l, Region.linearise.go .any ops f t listed acc = acc.reverse ++ l ∧ Ok ops f listed l
  | 0, t, listed, acc, _ => ⟨[], by simp [Region.linearise.go], .zero _⟩
  | f + 1, t, listed, acc, hs => by
    have hrd : ∀ i, i ∈ ((List.range ops.size).filter fun i => !listed.getD i true && ((ops[i]?).map (·.after.all fun e => !Region.binds .any e || listed.getD e.on false)).getD false) ↔ listed[i]? = some false ∧ ∃ o, ops[i]? = some o ∧ ∀ j ∈ aft o, lis listed j := by
      intro i
      have hb : ∀ o : Oper, (o.after.all fun e => !Region.binds .any e || listed.getD e.on false) = true ↔ ∀ j ∈ aft o, lis listed j := by
        intro o
        simp only [Array.all_eq_true', aft, List.mem_map, List.mem_filter, Array.mem_toList_iff, lis]
        constructor
        · rintro h j ⟨e, ⟨he, hb⟩, rfl⟩
          have := h e he
          rw [hb] at this
          simp only [Bool.not_true, Bool.false_or, Array.getD_eq_getD_getElem?] at this
          cases hq : listed[e.on]? with
          | none => rw [hq] at this; cases this
          | some b => rw [hq] at this; simp at this; rw [this]
        · intro h e he
          by_cases hb : Region.binds .any e = true
          · have := h e.on ⟨e, ⟨he, hb⟩, rfl⟩
            simp [Array.getD_eq_getD_getElem?, this]
          · simp [hb]
      simp only [List.mem_filter, List.mem_range, Bool.and_eq_true, Bool.not_eq_true']
      constructor
      · rintro ⟨h1, h2, h3⟩
        have hlt : i < listed.size := by omega
        refine ⟨?_, ops[i], by simp [h1], ?_⟩
        · rw [Array.getD_eq_getD_getElem?] at h2
          simp only [Array.getElem?_eq_getElem hlt] at h2 ⊢
          simpa using h2
        · rw [← hb]
          simpa [h1] using h3
      · rintro ⟨h1, o, h2, h3⟩
        have hlt := (Array.getElem?_eq_some_iff.1 h2).1
        refine ⟨hlt, by simp [Array.getD_eq_getD_getElem?, h1], ?_⟩
        rw [h2]
        simpa using (hb o).2 h3
    unfold Region.linearise.go
    simp only
    generalize hrs : ((List.range ops.size).filter fun i => !listed.getD i true && ((ops[i]?).map (·.after.all fun e => !Region.binds .any e || listed.getD e.on false)).getD false) = rs at hrd ⊢
    cases hq : rs[t % rs.length]? with
    | none =>
      refine ⟨[], by simp, .stop _ _ fun i o h1 h2 => ?_⟩
      have hemp : rs = [] := by
        cases rs with
        | nil => rfl
        | cons x r =>
          exfalso
          have : t % (x :: r).length < (x :: r).length := Nat.mod_lt _ (by simp)
          rw [List.getElem?_eq_getElem this] at hq
          cases hq
      have := hrd i
      rw [hemp] at this
      simp only [List.not_mem_nil, false_iff, not_and, not_exists] at this
      have h3 := this h1 o h2
      simpa using h3
    | some i =>
      obtain ⟨l, hl, hok⟩ := lin_ok ops f (t / rs.length) (listed.setIfInBounds i true) (i :: acc) (by simpa using hs)
      obtain ⟨h1, o, h2, h3⟩ := (hrd i).1 (List.mem_of_getElem? hq)
      exact ⟨i :: l, by simp only [hl]; simp, .step f i o listed l h1 h2 h3 hok⟩
theorem has_iff {l : List Nat} {i : Nat} : has l i = true ↔ i ∈ l := any_beq
theorem testBit_or_one {s j c : Nat} : (s ||| (1 <<< j)).testBit c = true → s.testBit c = true ∨ j = c := by
  rw [Nat.testBit_or, Bool.or_eq_true]
  rintro (h | h)
  · exact .inl h
  · right
    rw [Nat.shiftLeft_eq, Nat.one_mul, Nat.testBit_two_pow] at h
    simpa using h
theorem mask_bit {acc : List Nat} {o : Oper} {c : Nat} (h : (mask acc o).testBit c = true) : ∃ j ∈ aft o, j = c ∨ (acc.getD j 0).testBit c = true := by
  have key : ∀ (l : List Nat) (s : Nat), (l.foldl (fun s j => s ||| (1 <<< j) ||| acc.getD j 0) s).testBit c = true → s.testBit c = true ∨ ∃ j ∈ l, j = c ∨ (acc.getD j 0).testBit c = true := by
    intro l
    induction l with
    | nil => intro s h; exact .inl h
    | cons j r ih =>
      intro s h
      simp only [List.foldl_cons] at h
      rcases ih _ h with h | ⟨q, hq, h⟩
      · rw [Nat.testBit_or, Bool.or_eq_true] at h
        rcases h with h | h
        · rcases testBit_or_one h with h | h
          · exact .inl h
          · exact .inr ⟨j, by simp, .inl h⟩
        · exact .inr ⟨j, by simp, .inr h⟩
      · exact .inr ⟨q, by simp [hq], h⟩
  rcases key _ 0 h with h | h
  · simp at h
  · exact h
theorem befs_bit (all : List Oper) : ∀ (l : List Oper) (acc : List Nat), all = all.take acc.length ++ l → acc.length ≤ all.length →
    (∀ (i m : Nat), acc[i]? = some m → ∃ o, all[i]? = some o ∧ ∀ c, m.testBit c = true → ∃ j ∈ aft o, j = c ∨ (acc.getD j 0).testBit c = true) →
    ∀ (i m : Nat), (befs l acc)[i]? = some m → ∃ o, all[i]? = some o ∧ ∀ c, m.testBit c = true → ∃ j ∈ aft o, j = c ∨ ((befs l acc).getD j 0).testBit c = true
  | [], acc, _, _, h => h
  | o :: r, acc, hall, hlen, h => by
    unfold befs
    have hget : all[acc.length]? = some o := by
      rw [hall]
      rw [List.getElem?_append_right (by rw [List.length_take]; omega)]
      simp [Nat.min_eq_left hlen]
    have hlt := (List.getElem?_eq_some_iff.1 hget).1
    refine befs_bit all r (acc ++ [mask acc o]) ?_ (by simp; omega) ?_
    · rw [List.length_append, List.length_singleton, List.take_add_one, hget]
      simpa using hall
    · have hup : ∀ j c, (acc.getD j 0).testBit c = true → ((acc ++ [mask acc o]).getD j 0).testBit c = true := by
        intro j c hc
        rw [List.getD_eq_getElem?_getD] at *
        cases hq : acc[j]? with
        | none => rw [hq] at hc; simp at hc
        | some m =>
          have hj := (List.getElem?_eq_some_iff.1 hq).1
          rw [hq] at hc
          rw [List.getElem?_append_left hj, hq]
          exact hc
      intro i m hi
      by_cases e : i < acc.length
      · rw [List.getElem?_append_left e] at hi
        obtain ⟨p, hp, hb⟩ := h i m hi
        refine ⟨p, hp, fun c hc => ?_⟩
        obtain ⟨j, hj, hd⟩ := hb c hc
        exact ⟨j, hj, hd.imp id (hup j c)⟩
      · have e2 : i = acc.length := by
          have := (List.getElem?_eq_some_iff.1 hi).1
          simp at this
          omega
        subst e2
        rw [List.getElem?_append_right (Nat.le_refl _)] at hi
        simp at hi
        subst hi
        refine ⟨o, hget, fun c hc => ?_⟩
        obtain ⟨j, hj, hd⟩ := mask_bit hc
        exact ⟨j, hj, hd.imp id (hup j c)⟩
theorem ordered_lt : ∀ (l : List Oper) (i : Nat), ordered i l = true → ∀ (k : Nat) (o : Oper), l[k]? = some o → ∀ j ∈ aft o, j < i + k
  | [], _, _, k, o, h => by simp at h
  | o :: r, i, h, k, p, hk => by
    simp only [ordered, Bool.and_eq_true, List.all_eq_true] at h
    intro j hj
    cases k with
    | zero =>
      simp at hk
      subst hk
      have := Nat.le_of_ble_eq_true (h.1 j hj)
      omega
    | succ k =>
      have := ordered_lt r (i + 1) h.2 k p (by simpa using hk) j hj
      omega
/-- What must come ahead is listed. -/
theorem reach_listed {ops : Array Oper} (hord : ordered 0 ops.toList = true) {listed : Array Bool} (hcl : ∀ (i : Nat) (o : Oper), lis listed i → ops[i]? = some o → ∀ j ∈ aft o, lis listed j) :
    ∀ (i : Nat) (o : Oper), ops[i]? = some o → (∀ j ∈ aft o, lis listed j) → ∀ c, reach (befs ops.toList []) c i = true → lis listed c := by
  intro i
  induction i using Nat.strongRecOn with
  | _ i ih =>
    intro o ho hl c hc
    unfold reach at hc
    rw [List.getD_eq_getElem?_getD] at hc
    cases hq : (befs ops.toList [])[i]? with
    | none => rw [hq] at hc; simp at hc
    | some m =>
      rw [hq] at hc
      obtain ⟨p, hp, hb⟩ := befs_bit ops.toList ops.toList [] (by simp) (by simp) (by simp) i m hq
      have hp2 : ops[i]? = some p := by simpa using hp
      rw [ho] at hp2
      obtain rfl := Option.some.inj hp2
      obtain ⟨j, hj, hd⟩ := hb c hc
      rcases hd with rfl | hd
      · exact hl j hj
      · have hlt := ordered_lt ops.toList 0 hord i o (by simpa using ho) j hj
        have hjl := hl j hj
        have hjs : ∃ q, ops[j]? = some q := ⟨_, Array.getElem?_eq_getElem (Nat.lt_trans (by omega : j < i) (Array.getElem?_eq_some_iff.1 ho).1)⟩
        obtain ⟨q, hq2⟩ := hjs
        exact ih j (by omega) q hq2 (hcl j q hjl hq2) c hd
theorem count_set : ∀ (l : List Bool) (i : Nat), l[i]? = some false → (l.set i true).count false + 1 = l.count false
  | [], i, h => by simp at h
  | b :: r, 0, h => by
    simp at h
    subst h
    simp
  | b :: r, i + 1, h => by
    have := count_set r i (by simpa using h)
    cases b <;> simp [List.count_cons] <;> omega
theorem wpOps_list {P : Program} {ops : Array Oper} {Q : Exit → Act → World → Prop} : ∀ (l : List Nat) (lo : List Oper), l.map (fun i => ops[i]?) = lo.map some → ∀ a w, wpOps P ops Q l a w = wpList P ops Q lo a w
  | [], [], _, a, w => by simp [wpOps, wpList]
  | [], o :: r, h, a, w => by simp at h
  | i :: l, [], h, a, w => by simp at h
  | i :: l, o :: lo, h, a, w => by
    simp only [List.map_cons, List.cons.injEq] at h
    have ih : wpOps P ops Q l = wpList P ops Q lo := by
      funext a w
      exact wpOps_list l lo h.2 a w
    simp only [wpOps, wpList, h.1, ih]
theorem Ev.app {n : Nat} {a : Act} {E1 E : Env} (h1 : ∀ p ∈ E1, a.tmps.getD p.1 undef = p.2) (h : Ev n a E) : Ev n a (E1 ++ E) := by
  refine ⟨h.defers, h.size, ?_⟩
  induction E1 with
  | nil => exact h.look
  | cons p r ih =>
    obtain ⟨i, u⟩ := p
    intro t v hl
    simp only [List.cons_append, lk] at hl
    cases hq : Nat.beq i t with
    | true =>
      rw [hq] at hl
      simp at hl
      subst hl
      rw [← Nat.eq_of_beq_eq_true hq]
      exact h1 (i, u) (by simp)
    | false =>
      rw [hq] at hl
      exact ih (fun p hp => h1 p (by simp [hp])) t v hl
theorem lk_key : ∀ {E : Env} {t : Nat} {v : Value}, lk E t = some v → t ∈ E.map (·.1)
  | [], t, v, h => by simp [lk] at h
  | (i, u) :: r, t, v, h => by
    simp only [lk] at h
    cases hq : Nat.beq i t with
    | true => simp [← Nat.eq_of_beq_eq_true hq]
    | false =>
      rw [hq] at h
      have := lk_key (E := r) h
      simp only [List.map_cons, List.mem_cons]
      exact .inr this

section sound
variable {P : Program} {n : Nat} {w0 : World} {ops : Array Oper} {tail : List Nat} {E : Env} {A : Asn} {K : Act → World → Prop}
structure Shape (ops : Array Oper) (tail : List Nat) (E : Env) (n : Nat) : Prop where
  ord : ordered 0 ops.toList = true
  dst : ∀ (i : Nat) (o : Oper) (d : Nat), ops[i]? = some o → i ∉ tail → o.dst = some d → d < n ∧ d ∉ E.map (·.1) ∧ ∀ (j : Nat) (p : Oper), ops[j]? = some p → j ∉ tail → p.dst = some d → i = j
  last : ∀ t ∈ tail, t < ops.size ∧ ∀ i, i < ops.size → i ∉ tail → reach (befs ops.toList []) i t = true
  seq : pairs (befs ops.toList []) tail = true
theorem Shape.of_chk {l : List Oper} (h : chk l tail (E.map (·.1)) n = true) : Shape l.toArray tail E n := by
  simp only [chk, Bool.and_eq_true] at h
  obtain ⟨⟨⟨h1, h2⟩, h3⟩, h4⟩ := h
  refine ⟨by simpa using h1, ?_, ?_, by simpa using h4⟩
  · intro i o d ho ht hd
    have hi : i < l.length := by simpa using (Array.getElem?_eq_some_iff.1 ho).1
    have h := List.all_eq_true.1 h2 i (by simpa using hi)
    rw [Bool.or_eq_true] at h
    rcases h with h | h
    · exact absurd (has_iff.1 h) ht
    · have ho2 : l[i]? = some o := by simpa using ho
      rw [ho2, Option.bind_some, hd] at h
      simp only [Bool.and_eq_true, Bool.not_eq_true'] at h
      obtain ⟨⟨a1, a2⟩, a3⟩ := h
      refine ⟨Nat.le_of_ble_eq_true a1, fun hm => ?_, fun j p hp hj hpd => ?_⟩
      · rw [has_iff.2 hm] at a2
        cases a2
      · have hj2 : j < l.length := by simpa using (Array.getElem?_eq_some_iff.1 hp).1
        have h := List.all_eq_true.1 a3 j (by simpa using hj2)
        have hp2 : l[j]? = some p := by simpa using hp
        rw [hp2, Option.bind_some, hpd] at h
        simp only [Bool.or_eq_true, Bool.not_eq_true'] at h
        rcases h with (h | h) | h
        · exact Nat.eq_of_beq_eq_true h
        · exact absurd (has_iff.1 h) hj
        · simp [eqD] at h
  · intro t ht
    have h := List.all_eq_true.1 h3 t ht
    rw [Bool.and_eq_true] at h
    refine ⟨by have := Nat.le_of_ble_eq_true h.1; simp; omega, fun i hi hn => ?_⟩
    have h5 := List.all_eq_true.1 h.2 i (by simpa using hi)
    rw [Bool.or_eq_true] at h5
    rcases h5 with h5 | h5
    · exact absurd (has_iff.1 h5) hn
    · simpa using h5
/-- What is known of an operation that has not run yet. -/
def Pend (P : Program) (n : Nat) (w0 : World) (ops : Array Oper) (E : Env) (A : Asn) (known : List (Nat × Value)) (Pk : Asn) (o : Oper) (v : Value) : Prop :=
  ∃ kn Pk0 N, (∀ j u, vof kn j = some u → vof known j = some u) ∧ Pk = Pk0 * N ∧ ((met ops kn o = some true ∧ QOp P n w0 o (depE ops kn o ++ E) (A * Pk0) v) ∨ (met ops kn o = some false ∧ v = undef))
structure Inv (P : Program) (n : Nat) (w0 : World) (ops : Array Oper) (tail : List Nat) (E : Env) (A : Asn) (known : List (Nat × Value)) (Pk L : Asn) (listed : Array Bool) (a : Act) (w : World) : Prop where
  size : listed.size = ops.size
  ev : Ev n a E
  sat : Sat w0 w (A * Pk * L)
  kn : ∀ i v, vof known i = some v → i ∉ tail ∧ ∃ o, ops[i]? = some o ∧ (lis listed i → ∀ d, o.dst = some d → a.tmps.getD d undef = v) ∧ (¬ lis listed i → Pend P n w0 ops E A known Pk o v)
  li : ∀ i, lis listed i → ∃ v, vof known i = some v
  cl : ∀ (i : Nat) (o : Oper), lis listed i → ops[i]? = some o → ∀ j ∈ aft o, lis listed j
theorem Inv.dep {known : List (Nat × Value)} {Pk L : Asn} {listed : Array Bool} {a : Act} {w : World} (h : Inv P n w0 ops tail E A known Pk L listed a w) {o : Oper} (hr : ∀ j ∈ aft o, lis listed j) {kn : List (Nat × Value)}
    (hk : ∀ j u, vof kn j = some u → vof known j = some u) : Ev n a (depE ops kn o ++ E) := by
  refine Ev.app (fun p hp => ?_) h.ev
  obtain ⟨j, hj, e⟩ := List.mem_filterMap.1 hp
  cases h1 : (ops[j]?).bind (·.dst) with
  | none => simp [h1] at e
  | some d =>
    cases h2 : vof kn j with
    | none => simp [h1, h2] at e
    | some v =>
      simp [h1, h2] at e
      subst e
      obtain ⟨_, q, hq, hs, _⟩ := h.kn j v (hk j v h2)
      rw [hq, Option.bind_some] at h1
      exact hs (hr j hj) d h1
def bv : Value → Option Bool
  | .bool b => some b
  | _ => none
theorem gv_eq (v : Value) (want : Bool) : (bv v == some want) = gv v want := by
  cases v <;> first | rfl | (rename_i b; cases b <;> cases want <;> rfl)
theorem Inv.wants {known : List (Nat × Value)} {Pk L : Asn} {listed : Array Bool} {a : Act} {w : World} (h : Inv P n w0 ops tail E A known Pk L listed a w) {o : Oper} (hr : ∀ j ∈ aft o, lis listed j) {kn : List (Nat × Value)}
    (hk : ∀ j u, vof kn j = some u → vof known j = some u) {b : Bool} (hm : met ops kn o = some b) : Region.wanted o (yielded ops a.tmps) = b := by
  unfold Go.Proofs.Yteopadjihklkmaa.met at hm
  unfold Region.wanted
  cases hg : o.guard with
  | none =>
    rw [hg] at hm
    simpa using hm
  | some g =>
    obtain ⟨j, want⟩ := g
    rw [hg] at hm
    simp only at hm ⊢
    split at hm
    · rename_i hj
      have hj := any_beq.1 hj
      cases h1 : (ops[j]?).bind (·.dst) with
      | none => simp [h1] at hm
      | some d =>
        cases h2 : vof kn j with
        | none => simp [h1, h2] at hm
        | some v =>
          obtain ⟨_, q, hq, hs, _⟩ := h.kn j v (hk j v h2)
          have h1' := h1
          rw [hq, Option.bind_some] at h1'
          have hslot := hs (hr j hj) d h1'
          have hsome : a.tmps[d]? = some v ∨ (a.tmps[d]? = none ∧ v = undef) := by
            rw [Array.getD_eq_getD_getElem?] at hslot
            cases hz : a.tmps[d]? with
            | none => rw [hz] at hslot; exact .inr ⟨rfl, hslot.symm⟩
            | some u => rw [hz] at hslot; exact .inl (by rw [← hslot]; rfl)
          have hy : yielded ops a.tmps j = bv v := by
            unfold yielded
            rw [h1]
            rcases hsome with hz | ⟨hz, rfl⟩
            · simp only [Option.bind_some, hz]
              cases v <;> rfl
            · simp only [Option.bind_some, hz]
              rfl
          rw [hy, gv_eq]
          rw [h1, h2] at hm
          simpa using hm
    · cases hm
/-- Behind one operation. -/
theorem Inv.next (sh : Shape ops tail E n) {known known' : List (Nat × Value)} {Pk L Pk' L' : Asn} {listed : Array Bool} {a : Act} {w w' : World} (h : Inv P n w0 ops tail E A known Pk L listed a w) {i : Nat} {o : Oper} {v : Value}
    (hi : listed[i]? = some false) (ho : ops[i]? = some o) (hr : ∀ j ∈ aft o, lis listed j) (ht : i ∉ tail) (hv : vof known' i = some v) (hsub : ∀ j u, vof known j = some u → vof known' j = some u) (hback : ∀ j u, vof known' j = some u → j = i ∨ vof known j = some u)
    (hP : ∃ N, Pk' = Pk * N) (hs : Sat w0 w' (A * Pk' * L')) : Inv P n w0 ops tail E A known' Pk' L' (listed.setIfInBounds i true) (a.put o.dst v) w' := by
  have hlt := (Array.getElem?_eq_some_iff.1 hi).1
  have hlis : ∀ j, lis (listed.setIfInBounds i true) j ↔ j = i ∨ lis listed j := by
    intro j
    unfold lis
    by_cases e : i = j
    · subst e
      simp [hlt]
    · rw [Array.getElem?_setIfInBounds_ne e]
      constructor
      · exact .inr
      · rintro (rfl | h)
        · exact absurd rfl e
        · exact h
  have hput : ∀ (j : Nat) (q : Oper) (d : Nat), ops[j]? = some q → j ∉ tail → j ≠ i → q.dst = some d → (a.put o.dst v).tmps.getD d undef = a.tmps.getD d undef := by
    intro j q d hq hj hne hd
    cases hod : o.dst with
    | none => rfl
    | some e =>
      have hde : e ≠ d := by
        rintro rfl
        exact hne ((sh.dst i o e ho ht hod).2.2 j q hq hj hd).symm
      simp only [Act.put, Array.getD_eq_getD_getElem?]
      rw [Array.getElem?_setIfInBounds_ne hde]
  refine ⟨by simpa using h.size, ?_, hs, ?_, ?_, ?_⟩
  · cases hod : o.dst with
    | none => exact h.ev
    | some d =>
      obtain ⟨hdn, hdE, _⟩ := sh.dst i o d ho ht hod
      refine ⟨h.ev.defers, by simp [Act.put, h.ev.size], fun t u hl => ?_⟩
      have hne : d ≠ t := by
        rintro rfl
        exact hdE (lk_key hl)
      have := h.ev.look t u hl
      simp only [Act.put, Array.getD_eq_getD_getElem?] at *
      rw [Array.getElem?_setIfInBounds_ne hne]
      exact this
  · intro j u hj
    by_cases e : j = i
    · subst e
      rw [hv] at hj
      obtain rfl := Option.some.inj hj
      refine ⟨ht, o, ho, fun _ d hd => ?_, fun hn => absurd ((hlis j).2 (.inl rfl)) hn⟩
      have hdn := (sh.dst j o d ho ht hd).1
      simp [hd, Act.put, Array.getD_eq_getD_getElem?, h.ev.size, hdn]
    · have hk := (hback j u hj).resolve_left e
      obtain ⟨h1, q, hq, h2, h3⟩ := h.kn j u hk
      refine ⟨h1, q, hq, fun hl d hd => ?_, fun hn => ?_⟩
      · rw [hput j q d hq h1 e hd]
        exact h2 (((hlis j).1 hl).resolve_left e) d hd
      · obtain ⟨kn, Pk0, N, a1, a2, a3⟩ := h3 (fun hl => hn ((hlis j).2 (.inr hl)))
        obtain ⟨N', rfl⟩ := hP
        exact ⟨kn, Pk0, N * N', fun j u hj => hsub j u (a1 j u hj), by rw [a2, sep_assoc], a3⟩
  · intro j hj
    rcases (hlis j).1 hj with rfl | hj
    · exact ⟨v, hv⟩
    · obtain ⟨u, hu⟩ := h.li j hj
      exact ⟨u, hsub j u hu⟩
  · intro j q hj hq x hx
    rw [hlis]
    rcases (hlis j).1 hj with rfl | hj
    · rw [ho] at hq
      obtain rfl := Option.some.inj hq
      exact .inr (hr x hx)
    · exact .inr (h.cl j q hj hq x hx)

/-- What stands next: a writer, or the last operations. -/
inductive Node (P : Program) (n : Nat) (w0 : World) (ops : Array Oper) (tail : List Nat) (E : Env) (A : Asn) (K : Act → World → Prop) (known : List (Nat × Value)) (Pk L : Asn) : Prop
  | chains (cs : List Nat) (o : Nat → Oper) (R : Nat → Value → Asn → Asn → Prop) (hne : cs ≠ [])
      (hi : ∀ c ∈ cs, ops[c]? = some (o c) ∧ vof known c = none ∧ met ops known (o c) = some true ∧ has tail c = false)
      (hrest : (List.range ops.size).all (fun i => (vof known i).isSome || has cs i || cs.any fun c => reach (befs ops.toList []) c i) = true)
      (h : ∀ c ∈ cs, COp P n w0 A (o c) (depE ops known (o c) ++ E) (A * Pk * L) (R c)) (k : ∀ c, c ∈ cs → ∀ v P' L', R c v P' L' → St P n w0 ops tail E A K ((c, v) :: known) P' L') (hP : ∀ c ∈ cs, ∀ v P' L', R c v P' L' → ∃ N, P' = Pk * N)
  | tail (hall : (List.range ops.size).all (fun i => (vof known i).isSome || has tail i) = true) (h : RunL P n w0 ops (tail.filterMap fun i => ops[i]?) K (allE ops known ++ E) (A * Pk * L))
theorem Inv.learn {known : List (Nat × Value)} {Pk L : Asn} {listed : Array Bool} {a : Act} {w : World} (h : Inv P n w0 ops tail E A known Pk L listed a w) {i : Nat} {o : Oper} {v : Value} (hi : ops[i]? = some o) (hn : vof known i = none) (ht : has tail i = false)
    (hp : (met ops known o = some true ∧ QOp P n w0 o (depE ops known o ++ E) (A * Pk) v) ∨ (met ops known o = some false ∧ v = undef)) : Inv P n w0 ops tail E A ((i, v) :: known) Pk L listed a w := by
  have hnl : ¬ lis listed i := fun hl => by
    obtain ⟨u, hu⟩ := h.li i hl
    rw [hn] at hu
    cases hu
  have htt : i ∉ tail := fun hm => by
    rw [has_iff.2 hm] at ht
    cases ht
  refine ⟨h.size, h.ev, h.sat, ?_, fun j hj => ?_, h.cl⟩
  · intro j u hj
    by_cases e : i = j
    · subst e
      rw [vof_cons_eq] at hj
      obtain rfl := Option.some.inj hj
      exact ⟨htt, o, hi, fun hl => absurd hl hnl, fun _ => ⟨known, Pk, emp, fun j u hj => vof_mono hn hj, (sep_emp _).symm, hp⟩⟩
    · rw [vof_cons_ne e] at hj
      obtain ⟨h1, q, hq, h2, h3⟩ := h.kn j u hj
      refine ⟨h1, q, hq, h2, fun hl => ?_⟩
      obtain ⟨kn, Pk0, N, a1, a2, a3⟩ := h3 hl
      exact ⟨kn, Pk0, N, fun j u hj => vof_mono hn (a1 j u hj), a2, a3⟩
  · obtain ⟨u, hu⟩ := h.li j hj
    exact ⟨u, vof_mono hn hu⟩
theorem St.node {known : List (Nat × Value)} {Pk L : Asn} (st : St P n w0 ops tail E A K known Pk L) : ∀ {listed : Array Bool} {a : Act} {w : World}, Inv P n w0 ops tail E A known Pk L listed a w →
    ∃ known' , Inv P n w0 ops tail E A known' Pk L listed a w ∧ Node P n w0 ops tail E A K known' Pk L := by
  induction st with
  | quiet i o v hi hn hm ht h k ih => intro listed a w inv; exact ih (inv.learn hi hn ht (.inl ⟨hm, h⟩))
  | skip i o hi hn hm ht k ih => intro listed a w inv; exact ih (inv.learn hi hn ht (.inr ⟨hm, rfl⟩))
  | chains cs o R hne hi hrest h k hP ih => intro listed a w inv; exact ⟨_, inv, .chains cs o R hne hi hrest h k hP⟩
  | tail hall h => intro listed a w inv; exact ⟨_, inv, .tail hall h⟩
theorem Node.st {known : List (Nat × Value)} {Pk L : Asn} (nd : Node P n w0 ops tail E A K known Pk L) : St P n w0 ops tail E A K known Pk L := by
  cases nd with
  | chains cs o R hne hi hrest h k hP => exact .chains cs o R hne hi hrest h k hP
  | tail hall h => exact .tail hall h
theorem all_listed (hord : ordered 0 ops.toList = true) {listed : Array Bool} (hs : listed.size = ops.size) (h : ∀ (i : Nat) (o : Oper), listed[i]? = some false → ops[i]? = some o → ∃ j ∈ aft o, ¬ lis listed j) : ∀ i, i < ops.size → lis listed i := by
  intro i
  induction i using Nat.strongRecOn with
  | _ i ih =>
    intro hi
    have hi2 : i < listed.size := by omega
    cases hb : listed[i] with
    | true => exact (by rw [lis, Array.getElem?_eq_getElem hi2, hb])
    | false =>
      have ho : ops[i]? = some ops[i] := by simp [hi]
      obtain ⟨j, hj, hn⟩ := h i _ (by rw [Array.getElem?_eq_getElem hi2, hb]) ho
      have hlt := ordered_lt ops.toList 0 hord i _ (by simp [hi]) j hj
      exact absurd (ih j (by omega) (by omega)) hn
theorem count_all {listed : Array Bool} (h : listed.toList.count false ≤ 0) : ∀ i, i < listed.size → lis listed i := by
  intro i hi
  have h0 : listed.toList.count false = 0 := by omega
  rw [List.count_eq_zero] at h0
  unfold lis
  rw [Array.getElem?_eq_getElem hi]
  cases hb : listed[i] with
  | true => rfl
  | false => exact absurd (by rw [← hb]; exact Array.getElem_mem_toList hi) h0
/-- The last ones come one behind the other. -/
theorem tail_order (sh : Shape ops tail E n) : ∀ (f : Nat) (listed : Array Bool) (l : List Nat), Ok ops f listed l → ∀ ts, (∃ pre, tail = pre ++ ts) → listed.size = ops.size → listed.toList.count false ≤ f →
    (∀ (i : Nat) (o : Oper), lis listed i → ops[i]? = some o → ∀ j ∈ aft o, lis listed j) → (∀ i, i < ops.size → (lis listed i ↔ i ∉ ts)) → l = ts := by
  intro f listed l hok
  have fin : ∀ (listed : Array Bool) ts, (∃ pre, tail = pre ++ ts) → (∀ i, i < ops.size → lis listed i) → (∀ i, i < ops.size → (lis listed i ↔ i ∉ ts)) → ([] : List Nat) = ts := by
    rintro listed ts ⟨pre, hpre⟩ h1 h2
    cases ts with
    | nil => rfl
    | cons t r =>
      have htl : t ∈ tail := by rw [hpre]; simp
      have := (sh.last t htl).1
      exact absurd (by simp) ((h2 t this).1 (h1 t this))
  induction hok with
  | zero listed => intro ts hts hs hc _ hl; exact fin listed ts hts (fun i hi => count_all hc i (by omega)) hl
  | stop f listed h => intro ts hts hs hc _ hl; exact fin listed ts hts (all_listed sh.ord hs h) hl
  | step f i o listed l hi ho hr k ih =>
    intro ts hts hs hc hcl hl
    obtain ⟨pre, hpre⟩ := hts
    have hisz := (Array.getElem?_eq_some_iff.1 ho).1
    have hni : ¬ lis listed i := by unfold lis; rw [hi]; simp
    have hmem : i ∈ ts := by
      by_cases hm : i ∈ ts
      · exact hm
      · exact absurd ((hl i hisz).2 hm) hni
    cases ts with
    | nil => simp at hmem
    | cons t r =>
      have hpairs : ∀ pre : List Nat, pairs (befs ops.toList []) (pre ++ t :: r) = true → pairs (befs ops.toList []) (t :: r) = true := by
        intro pre
        induction pre with
        | nil => exact id
        | cons x q ihq =>
          intro h
          simp only [List.cons_append, pairs, Bool.and_eq_true] at h
          exact ihq h.2
      have hp := hpairs pre (hpre ▸ sh.seq)
      simp only [pairs, Bool.and_eq_true] at hp
      have hall := List.all_eq_true.1 hp.1
      have hit : i = t := by
        by_cases e : i = t
        · exact e
        · have hir : i ∈ r := by simpa [e] using hmem
          have h2 := hall i hir
          rw [Bool.and_eq_true] at h2
          have htl := reach_listed sh.ord hcl i o ho hr t h2.2
          have htsz : t < ops.size := (sh.last t (by rw [hpre]; simp)).1
          exact absurd (by simp) ((hl t htsz).1 htl)
      subst hit
      have hnr : i ∉ r := by
        intro hir
        have h2 := hall i hir
        rw [Bool.and_eq_true] at h2
        simp at h2
      have hlt : i < listed.size := by omega
      have hlis : ∀ j, lis (listed.setIfInBounds i true) j ↔ j = i ∨ lis listed j := by
        intro j
        unfold lis
        by_cases e : i = j
        · subst e
          simp [hlt]
        · rw [Array.getElem?_setIfInBounds_ne e]
          constructor
          · exact .inr
          · rintro (rfl | h)
            · exact absurd rfl e
            · exact h
      rw [ih r ⟨pre ++ [i], by simp [hpre]⟩ (by simpa using hs) (by have := count_set listed.toList i (by simpa using hi); simp; omega) ?_ ?_]
      · intro j q hj hq x hx
        rw [hlis]
        rcases (hlis j).1 hj with rfl | hj
        · rw [ho] at hq
          obtain rfl := Option.some.inj hq
          exact .inr (hr x hx)
        · exact .inr (hcl j q hj hq x hx)
      · intro j hj
        rw [hlis, hl j hj]
        simp only [List.mem_cons, not_or]
        constructor
        · rintro (rfl | h)
          · exact hnr
          · exact h.2
        · intro h
          by_cases e : j = i
          · exact .inl e
          · exact .inr ⟨e, h⟩
theorem draw_sound (sh : Shape ops tail E n) : ∀ (f : Nat) (listed : Array Bool) (l : List Nat), Ok ops f listed l → listed.toList.count false ≤ f → ∀ known Pk L a w, Inv P n w0 ops tail E A known Pk L listed a w → St P n w0 ops tail E A K known Pk L → wpOps P ops (Qk K) l a w := by
  intro f listed l hok
  have fin : ∀ (f : Nat) (listed : Array Bool) (l : List Nat), Ok ops f listed l → listed.toList.count false ≤ f → ∀ known Pk L a w, Inv P n w0 ops tail E A known Pk L listed a w → 
      (∀ i, i < ops.size → (lis listed i ↔ i ∉ tail)) → RunL P n w0 ops (tail.filterMap fun i => ops[i]?) K (allE ops known ++ E) (A * Pk * L) → wpOps P ops (Qk K) l a w := by
    intro f listed l hok hc known Pk L a w inv hli hrun
    have hl : l = tail := tail_order sh f listed l hok tail ⟨[], rfl⟩ inv.size hc inv.cl hli
    subst hl
    have hlo : l.map (fun i => ops[i]?) = (l.filterMap fun i => ops[i]?).map some := by
      have : ∀ r : List Nat, (∀ t ∈ r, t < ops.size) → r.map (fun i => ops[i]?) = (r.filterMap fun i => ops[i]?).map some := by
        intro r
        induction r with
        | nil => intro _; rfl
        | cons t r ih =>
          intro h
          have ht : ops[t]? = some (ops[t]'(h t (by simp))) := Array.getElem?_eq_getElem (h t (by simp))
          simp only [List.map_cons, List.filterMap_cons, ht]
          rw [ih fun u hu => h u (by simp [hu])]
      exact this l fun t ht => (sh.last t ht).1
    rw [wpOps_list l _ hlo]
    refine hrun.out a w (Ev.app (fun p hp => ?_) inv.ev) inv.sat
    obtain ⟨⟨i, u⟩, hi, e⟩ := List.mem_filterMap.1 hp
    simp only at e
    cases h1 : (ops[i]?).bind (·.dst) with
    | none => simp [h1] at e
    | some d =>
      cases h2 : vof known i with
      | none => simp [h1, h2] at e
      | some v =>
        simp [h1, h2] at e
        subst e
        obtain ⟨hnt, q, hq, hs, _⟩ := inv.kn i v h2
        rw [hq, Option.bind_some] at h1
        exact hs ((hli i (Array.getElem?_eq_some_iff.1 hq).1).2 hnt) d h1
  have ends : ∀ (listed : Array Bool), (∀ i, i < ops.size → lis listed i) → ∀ (f : Nat), Ok ops f listed [] → listed.toList.count false ≤ f → ∀ known Pk L a w, Inv P n w0 ops tail E A known Pk L listed a w → St P n w0 ops tail E A K known Pk L → wpOps P ops (Qk K) [] a w := by
    intro listed hall f hok hc known Pk L a w inv st
    obtain ⟨known', inv', nd⟩ := st.node inv
    have hkn : ∀ i, i < ops.size → ∃ v, vof known' i = some v := fun i hi => inv'.li i (hall i hi)
    cases nd with
    | chains cs o R hne hi hrest h k hP =>
      cases cs with
      | nil => exact absurd rfl hne
      | cons c cs =>
        obtain ⟨hi, hn, _⟩ := hi c (by simp)
        obtain ⟨v, hv⟩ := hkn c (Array.getElem?_eq_some_iff.1 hi).1
        rw [hn] at hv
        cases hv
    | tail hall2 h =>
      refine fin f listed [] hok hc known' Pk L a w inv' (fun i hi => ⟨fun _ hm => ?_, fun _ => hall i hi⟩) h
      obtain ⟨v, hv⟩ := hkn i hi
      exact (inv'.kn i v hv).1 hm
  induction hok with
  | zero listed => intro hc known Pk L a w inv st; exact ends listed (fun i hi => count_all hc i (by have := inv.size; omega)) 0 (.zero _) hc known Pk L a w inv st
  | stop f listed h => intro hc known Pk L a w inv st; exact ends listed (all_listed sh.ord inv.size h) f (.stop f listed h) hc known Pk L a w inv st
  | step f i o listed l hi ho hr kk ih =>
    intro hc known Pk L a w inv st
    have hc' : (listed.setIfInBounds i true).toList.count false ≤ f := by
      have := count_set listed.toList i (by simpa using hi)
      simp
      omega
    obtain ⟨known', inv', nd⟩ := st.node inv
    have hni : ¬ lis listed i := by unfold lis; rw [hi]; simp
    have hisz := (Array.getElem?_eq_some_iff.1 ho).1
    cases hk : vof known' i with
    | some v =>
      obtain ⟨hnt, q, hq, _, hp⟩ := inv'.kn i v hk
      rw [ho] at hq
      obtain rfl := Option.some.inj hq
      obtain ⟨kn, Pk0, N, hsub, rfl, hp2⟩ := hp hni
      have hev := inv'.dep hr hsub
      rcases hp2 with ⟨hm, hq⟩ | ⟨hm, rfl⟩
      · have hw := inv'.wants hr hsub hm
        simp only [wpOps, ho, hw, if_true]
        left
        have hsat : Sat w0 w (A * Pk0 * (N * L)) := inv'.sat.conv (by ac_rfl)
        refine hq.out a w (N * L) _ _ hev hsat fun w' hs => ?_
        exact ih hc' known' (Pk0 * N) L _ w' (inv'.next sh hi ho hr hnt hk (fun _ _ h => h) (fun _ _ h => .inr h) ⟨emp, (sep_emp _).symm⟩ (hs.conv (by ac_rfl))) nd.st
      · have hw := inv'.wants hr hsub hm
        simp only [wpOps, ho, hw, Bool.false_eq_true, if_false]
        exact ih hc' known' (Pk0 * N) L _ w (inv'.next sh hi ho hr hnt hk (fun _ _ h => h) (fun _ _ h => .inr h) ⟨emp, (sep_emp _).symm⟩ inv'.sat) nd.st
    | none =>
      cases nd with
      | chains cs p R hne hci hrest h k hP =>
        have hx := List.all_eq_true.1 hrest i (by simpa using hisz)
        simp only [Bool.or_eq_true, hk, Option.isSome_none, Bool.false_eq_true, false_or] at hx
        rcases hx with hx | hx
        · have hic := has_iff.1 hx
          obtain ⟨h1, hn, hm, ht⟩ := hci i hic
          rw [ho] at h1
          have ho' := Option.some.inj h1
          have hnt : i ∉ tail := fun hm => by rw [has_iff.2 hm] at ht; cases ht
          rw [← ho'] at hm
          have hw := inv'.wants hr (fun _ _ h => h) hm
          simp only [wpOps, ho, hw, if_true]
          left
          have hh := h i hic
          rw [← ho'] at hh
          refine hh.out a w _ _ (inv'.dep hr fun _ _ h => h) inv'.sat fun v P' L' w' hR hs => ?_
          exact ih hc' ((i, v) :: known') P' L' _ w' (inv'.next sh hi ho hr hnt vof_cons_eq (fun j u hj => vof_mono hn hj) (fun j u hj => by
            by_cases e : i = j
            · exact .inl e.symm
            · rw [vof_cons_ne e] at hj; exact .inr hj) (hP i hic v P' L' hR) hs) (k i hic v P' L' hR)
        · obtain ⟨c, hcc, hx⟩ := List.any_eq_true.1 hx
          obtain ⟨v, hv⟩ := inv'.li c (reach_listed sh.ord inv'.cl i o ho hr c hx)
          rw [(hci c hcc).2.1] at hv
          cases hv
      | tail hall h =>
        have hx := List.all_eq_true.1 hall i (by simpa using hisz)
        simp only [Bool.or_eq_true, hk, Option.isSome_none, Bool.false_eq_true, false_or] at hx
        have hit := has_iff.1 hx
        refine fin (f + 1) listed (i :: l) (.step f i o listed l hi ho hr kk) hc known' Pk L a w inv' (fun j hj => ⟨fun hlj hm => ?_, fun hm => ?_⟩) h
        · obtain ⟨v, hv⟩ := inv'.li j hlj
          exact (inv'.kn j v hv).1 hm
        · exact reach_listed sh.ord inv'.cl i o ho hr j ((sh.last i hit).2 j hj hm)
theorem Run.draw {fid : Fid} {R : Ending → World → Prop} {k : List Item} {id : Nat} {l : List Oper} (tail : List Nat) (hmix : P.follows .mixedOrders = true) (hchk : chk l tail (E.map (·.1)) n = true)
    (h : St P n w0 l.toArray tail E A (Runs P fid R k) [] emp emp) (hd : (fid.ro.isNone || noDefer l.toArray) = true := by rfl) : Run P fid n R w0 (.code (.region id l.toArray true) :: k) E A := by
  refine ⟨fun a w he hs => Runs.regionD hd fun t => ?_⟩
  have hw : wpOps P l.toArray (Qk (Runs P fid R k)) (Region.schedule (P.follows .mixedOrders) l.toArray t) a { w with drawn := w.drawn + 1 } := by
    rw [hmix]
    unfold Region.schedule
    simp only [Bool.true_or, if_true]
    obtain ⟨ol, hl, hok⟩ := lin_ok l.toArray l.toArray.size t (Array.replicate l.toArray.size false) [] (by simp)
    unfold Region.linearise
    rw [hl]
    simp only [List.reverse_nil, List.nil_append]
    have hnl : ∀ i, ¬ lis (Array.replicate l.toArray.size false) i := by
      intro i hi
      unfold lis at hi
      have := Array.getElem?_eq_some_iff.1 hi
      simp at this
    refine draw_sound (Shape.of_chk hchk) _ _ _ hok (by simp) [] emp emp a _ ⟨by simp, he, ?_, ?_, ?_, ?_⟩ h
    · have := hs.drawnN (w.drawn + 1)
      exact this.conv (by rw [sep_emp, sep_emp])
    · intro i v hv; simp [vof] at hv
    · intro i hi; exact absurd hi (hnl i)
    · intro i o hi; exact absurd hi (hnl i)
  exact hw
/-! ### Its steps -/
theorem QOp.ok {op : Op} {ty : TypeId} {v : Value} {d : Option Tmp} {ps : String} {af : Array Edge} {g : Option (Nat × Bool)} {B : Asn} {E' : Env} (h : ∀ X, OpOk P n w0 op ty E' (B * X) v) :
    QOp P n w0 { dst := d, op, type := ty, pos := ps, after := af, guard := g } E' B v :=
  ⟨fun a w X K Q he hs hk => by
    obtain ⟨w', hr, hs'⟩ := (h X).out a w d ps af g he hs
    unfold Oper.wp
    rw [hr]
    exact hk w' hs'⟩
theorem QOp.call {f : FuncId} {args : List Operand} {ats : Array TypeId} {vs : List Value} {v : Value} {d : Option Tmp} {ty : TypeId} {ps : String} {af : Array Edge} {g : Option (Nat × Bool)} {B : Asn} {E' : Env} (hc : Callee P f) (hv : evs E' args = some vs)
    (sp : ∀ X, Spec P w0 f vs (B * X) (fun v' A' => v' = v ∧ A' = B * X)) : QOp P n w0 { dst := d, op := .call { callee := .value (.func f), args := args.toArray, argTypes := ats }, type := ty, pos := ps, after := af, guard := g } E' B v :=
  ⟨fun a w X K Q he hs hk => by
    unfold Oper.wp
    obtain ⟨fn, h1, h2, h3⟩ := hc.is
    have e1 : (execOp a.eval { dst := d, op := .call { callee := .value (.func f), args := args.toArray, argTypes := ats }, type := ty, pos := ps, after := af, guard := g }).run P w = .ok (.enter f vs.toArray) w := by
      have e2 : args.toArray.map a.eval = vs.toArray := by
        apply Array.toList_inj.1
        simpa using he.evals hv
      have e3 : a.eval (.func f) = .func (.func f) #[] #[] := rfl
      simp only [execOp, resolve, e3, Deferred.ofValue, invoke, callFunc, Sem.run_bind, Sem.run_pure, run_program, Result.andThen_ok, h1, h2, h3, Bool.false_eq_true, if_false, e2, Array.empty_append, Array.append_empty]
    rw [e1]
    refine ((sp X).out w hs).mono fun e w' hp => ?_
    obtain ⟨v', A', ⟨rfl, rfl⟩, rfl, hs'⟩ := hp
    exact hk w' hs'⟩
theorem St.chain {known : List (Nat × Value)} {Pk L : Asn} (c : Nat) (o : Oper) (R : Value → Asn → Asn → Prop) (hi : ops[c]? = some o) (hn : vof known c = none) (hm : met ops known o = some true) (ht : has tail c = false)
    (hrest : (List.range ops.size).all (fun i => (vof known i).isSome || has [c] i || [c].any fun c => reach (befs ops.toList []) c i) = true)
    (h : COp P n w0 A o (depE ops known o ++ E) (A * Pk * L) R) (k : ∀ v P' L', R v P' L' → St P n w0 ops tail E A K ((c, v) :: known) P' L') (hP : ∀ v P' L', R v P' L' → ∃ N, P' = Pk * N) : St P n w0 ops tail E A K known Pk L := by
  refine .chains [c] (fun _ => o) (fun _ => R) (by simp) ?_ hrest ?_ ?_ ?_
  · intro q hq
    simp at hq
    subst hq
    exact ⟨hi, hn, hm, ht⟩
  · intro q hq
    exact h
  · intro q hq v P' L' hR
    simp at hq
    subst hq
    exact k v P' L' hR
  · intro q hq
    exact hP
theorem St.chain2 {known : List (Nat × Value)} {Pk L : Asn} (c : Nat) (o : Oper) (R : Value → Asn → Asn → Prop) (c2 : Nat) (o2 : Oper) (R2 : Value → Asn → Asn → Prop) (hcc : c ≠ c2) (hi : ops[c]? = some o) (hi2 : ops[c2]? = some o2) (hn : vof known c = none) (hn2 : vof known c2 = none)
    (hm : met ops known o = some true) (hm2 : met ops known o2 = some true) (ht : has tail c = false) (ht2 : has tail c2 = false)
    (hrest : (List.range ops.size).all (fun i => (vof known i).isSome || has [c, c2] i || [c, c2].any fun c => reach (befs ops.toList []) c i) = true)
    (h : COp P n w0 A o (depE ops known o ++ E) (A * Pk * L) R) (h2 : COp P n w0 A o2 (depE ops known o2 ++ E) (A * Pk * L) R2)
    (hP : ∀ v P' L', R v P' L' → ∃ N, P' = Pk * N) (hP2 : ∀ v P' L', R2 v P' L' → ∃ N, P' = Pk * N)
    (k : ∀ v P' L', R v P' L' → St P n w0 ops tail E A K ((c, v) :: known) P' L') (k2 : ∀ v P' L', R2 v P' L' → St P n w0 ops tail E A K ((c2, v) :: known) P' L') : St P n w0 ops tail E A K known Pk L := by
  have hc2 : c2 ≠ c := fun e => hcc e.symm
  refine .chains [c, c2] (fun q => if q = c then o else o2) (fun q => if q = c then R else R2) (by simp) ?_ hrest ?_ ?_ ?_
  · intro q hq
    simp at hq
    rcases hq with rfl | rfl
    · simp only [if_true]; exact ⟨hi, hn, hm, ht⟩
    · simp only [if_neg hc2]; exact ⟨hi2, hn2, hm2, ht2⟩
  · intro q hq
    simp at hq
    rcases hq with rfl | rfl
    · simp only [if_true]; exact h
    · simp only [if_neg hc2]; exact h2
  · intro q hq v P' L' hR
    simp at hq
    rcases hq with rfl | rfl
    · simp only [if_true] at hR; exact k v P' L' hR
    · simp only [if_neg hc2] at hR; exact k2 v P' L' hR
  · intro q hq
    simp at hq
    rcases hq with rfl | rfl
    · simp only [if_true]; exact hP
    · simp only [if_neg hc2]; exact hP2
theorem wp_put {o : Oper} {a : Act} {w : World} {next next' : Act → World → Prop} {Q' : Exit → Act → World → Prop} {K0 : Act → World → Prop} (h : o.wp P a w next (Qk K0)) (hn : ∀ v w', next (a.put o.dst v) w' → next' (a.put o.dst v) w') (hd : ∀ a' w', a'.defers ≠ [] → next a' w' → next' a' w') : o.wp P a w next' Q' := by
  unfold Oper.wp at *
  have hp : ∀ (d : Deferred), (({ a with defers := d :: a.defers } : Act).put o.dst undef).defers ≠ [] := by
    intro d
    cases o.dst <;> simp [Act.put]
  generalize (execOp a.eval o).run P w = r at *
  cases r with
  | ok x w' =>
    cases x <;> simp only [Oper.upon] at h ⊢ <;> first
      | exact hn _ _ h
      | exact hd _ _ (hp _) h
      | exact h.mono fun v w2 hv => hn _ _ hv
      | exact h.mono fun e w2 he => by
          cases e with
          | returned v => exact hn _ _ he
          | panicked ch => exact he.elim
          | outgrown => obtain ⟨_, _, hq⟩ := he; exact hq.elim
      | exact h.elim
  | halt x w' => cases x <;> simp only [Oper.upon] at h ⊢ <;> exact h.elim
/-- A writer, by the rules for one operation. -/
theorem COp.of {d : Nat} {op : Op} {ty : TypeId} {ps : String} {af : Array Edge} {g : Option (Nat × Bool)} {E' : Env} {B : Asn} {R : Value → Asn → Asn → Prop} (hd : Nat.blt d n = true)
    (h : ∀ K : Act → World → Prop, (∀ v P' L', R v P' L' → RunL P n w0 ops [] K ((d, v) :: E') (A * P' * L')) → RunL P n w0 ops [{ dst := some d, op, type := ty, pos := ps, after := af, guard := none }] K E' B) :
    COp P n w0 A { dst := some d, op, type := ty, pos := ps, after := af, guard := g } E' B R := by
  refine ⟨fun a w K Q he hs hk => ?_⟩
  have h1 := (h (fun a' w' => ∃ v P' L', R v P' L' ∧ Ev n a' ((d, v) :: E') ∧ Sat w0 w' (A * P' * L')) fun v P' L' hR => .done fun a' w' he' hs' => ⟨v, P', L', hR, he', hs'⟩).out a w he hs
  unfold wpList at h1
  rw [if_pos (by simp [Region.wanted])] at h1
  rcases h1 with h1 | ⟨_, _, _, hq⟩
  · refine wp_put (o := { dst := some d, op, type := ty, pos := ps, after := af, guard := none }) h1 (fun v w' hn => ?_) (fun a' w' hd' hn => ?_)
    · simp only [wpList, Qk] at hn
      obtain ⟨v', P', L', hR, he', hs'⟩ := hn
      have e1 := he'.look d v' (by simp [lk])
      have hlt : d < a.tmps.size := by rw [he.size]; exact Nat.le_of_ble_eq_true hd
      simp [Act.put, Array.getD_eq_getD_getElem?, hlt] at e1
      subst e1
      exact hk _ P' L' w' hR hs'
    · simp only [wpList, Qk] at hn
      obtain ⟨v', P', L', hR, he', hs'⟩ := hn
      exact absurd he'.defers hd'
  · exact hq.elim
end sound
end Go.Proofs.Yteopadjihklkmaa
