/- More rules for writing memory. Words of our own. -/
import Derived.Test.YteopadjihklkmaaDr
namespace Go.Proofs.Yteopadjihklkmaa
open Go Go.Proofs
theorem Rd.cells1 {w0 : World} {A : Asn} {v : Value} {size n : Nat} {xs : List Value} (h : Rd w0 A v size n xs) : v.cells = #[v] := by
  obtain ⟨ad, cap, rfl, _⟩ := h.form
  rfl
theorem Rd.one {w0 : World} {A : Asn} {v : Value} {size n : Nat} {xs : List Value} (h : Rd w0 A v size n xs) : v.oneCell' = true := by
  obtain ⟨ad, cap, rfl, _⟩ := h.form
  rfl
section
variable {P : Program} {n : Nat} {w0 : World} {ops : Array Oper} {l : List Oper} {K : Act → World → Prop} {E : Env} {A : Asn} {ty : TypeId} {ps : String} {af : Array Edge}
theorem flat_one {vs : List Value} (h : ∀ v ∈ vs, v.cells = #[v]) : (vs.flatMap fun v => v.cells.toList) = vs := by
  induction vs with
  | nil => rfl
  | cons v r ih =>
    rw [List.flatMap_cons, h v (by simp), ih (fun u hu => h u (by simp [hu]))]
    rfl
theorem OpOk.asT {op : Op} {p : Prop} [Decidable p] (h : OpOk P n w0 op ty E A (.bool (decide p))) (hp : p) : OpOk P n w0 op ty E A (.bool true) := by rw [decide_eq_true hp] at h; exact h
theorem OpOk.asF {op : Op} {p : Prop} [Decidable p] (h : OpOk P n w0 op ty E A (.bool (decide p))) (hp : ¬ p) : OpOk P n w0 op ty E A (.bool false) := by rw [decide_eq_false hp] at h; exact h
theorem OpOk.as {op : Op} {b c : Bool} (h : OpOk P n w0 op ty E A (.bool b)) (hp : b = c) : OpOk P n w0 op ty E A (.bool c) := hp ▸ h
/-- A literal of values of one cell. -/
theorem RunL.lits {d : Nat} {t e : TypeId} {z : Value} {m : Nat} {parts : List (Nat × Operand)} {vs : List Value} (hu : P.underlying t = some (.slice e)) {bytes : Nat} (hi : TyI P e z 1 bytes) (hv : evParts E parts = some vs)
    (hp : places 0 parts = true) (hm : parts.length = m) (h1 : ∀ v ∈ vs, v.cells = #[v]) (hlim : m ≤ 1048576) (hd : Nat.blt d n = true)
    (r : ∀ v, Rd w0 (A * own e 1 v m vs) v 1 m vs → RunL P n w0 ops l K ((d, v) :: E) (A * own e 1 v m vs)) :
    RunL P n w0 ops ({ dst := some d, op := .buildSlice t m parts.toArray, type := ty, pos := ps, after := af, guard := none } :: l) K E A := by
  refine RunL.lit hu hi hv hp hm (fun v hv => by rw [h1 v hv]; rfl) (by omega) (by simp only [maxLen]; omega) hd ?_
  rw [flat_one h1]
  exact r
theorem RunL.lit1 {d : Nat} {t e : TypeId} {z : Value} {x : Operand} {v : Value} (hu : P.underlying t = some (.slice e)) {bytes : Nat} (hi : TyI P e z 1 bytes) (hv : ev E x = some v) (h1 : v.cells = #[v]) (hd : Nat.blt d n = true)
    (r : ∀ u, Rd w0 (A * own e 1 u 1 [v]) u 1 1 [v] → RunL P n w0 ops l K ((d, u) :: E) (A * own e 1 u 1 [v])) :
    RunL P n w0 ops ({ dst := some d, op := .buildSlice t 1 #[(0, x)], type := ty, pos := ps, after := af, guard := none } :: l) K E A :=
  RunL.lits (parts := [(0, x)]) hu hi (by simp [evParts, hv]) (by rfl) rfl (by simpa using h1) (by decide) hd r
theorem RunL.lit0 {d : Nat} {t e : TypeId} {z : Value} {size : Nat} (hu : P.underlying t = some (.slice e)) {bytes : Nat} (hi : TyI P e z size bytes) (hd : Nat.blt d n = true)
    (r : ∀ u, Rd w0 (A * own e size u 0 []) u size 0 [] → RunL P n w0 ops l K ((d, u) :: E) (A * own e size u 0 [])) :
    RunL P n w0 ops ({ dst := some d, op := .buildSlice t 0 #[], type := ty, pos := ps, after := af, guard := none } :: l) K E A :=
  RunL.lit (parts := []) (vs := []) hu hi (by simp [evParts]) (by rfl) rfl (by simp) (by omega) (by decide) hd r
theorem RunL.lit0B {d : Nat} {t e : TypeId} {z : Value} (hu : P.underlying t = some (.slice e)) {bytes : Nat} (hi : TyI P e z 1 bytes) (hd : Nat.blt d n = true)
    (r : ∀ u, Rd w0 (A * own e 1 u 0 (B [])) u 1 0 (B []) → RunL P n w0 ops l K ((d, u) :: E) (A * own e 1 u 0 (B []))) :
    RunL P n w0 ops ({ dst := some d, op := .buildSlice t 0 #[], type := ty, pos := ps, after := af, guard := none } :: l) K E A := RunL.lit0 hu hi hd r
/-- append of bytes to what is owned. -/
theorem RunL.appendB {d : Nat} {t e : TypeId} {x y : Operand} {v u : Value} {m c : Nat} {xs ys : List UInt8} {A1 : Asn} {ats : Array TypeId} (hu : P.underlying t = some (.slice e))
    (hi : TyI P e (.int .u8 0) 1 1) (hats : ats = #[t, t]) (hx : ev E x = some v) (hy : ev E y = some u) (hA : A = A1 * own e 1 v m (B xs)) (rd : Rd w0 A u 1 c (B ys)) (hlim : m + c ≤ 140737488355328) (hd : Nat.blt d n = true)
    (r : ∀ v', Rd w0 (A1 * own e 1 v' (m + c) (B (xs ++ ys))) v' 1 (m + c) (B (xs ++ ys)) → RunL P n w0 ops l K ((d, v') :: E) (A1 * own e 1 v' (m + c) (B (xs ++ ys)))) :
    RunL P n w0 ops ({ dst := some d, op := .call { callee := .builtin .append, args := #[x, y], argTypes := ats }, type := ty, pos := ps, after := af, guard := none } :: l) K E A := by
  refine RunL.append hu hi hats hx hy hA rd (B_one _) rfl (by decide) (by omega) (by simp only [maxLen]; omega) hd ?_
  rw [← B_append]
  exact r
/-- A byte of what is owned is set. -/
theorem B_set (xs : List UInt8) (i : Nat) (b : UInt8) : (B xs).set i (.int .u8 (b.toNat : Int)) = B (xs.set i b) := by simp [B, List.map_set]
theorem RunL.storeB {t e : TypeId} {x y : Operand} {v : Value} {q m : Nat} {k : Int} {xs : List UInt8} {A1 : Asn} {zz : Value} {bb : Nat} (b : UInt8) (hz : TyI P t zz 1 bb) (hx : ev E x = some (.pointer (some ((adr v).add q)))) (hy : ev E y = some (.int .u8 k)) (hk : k = (b.toNat : Int))
    (hA : A = A1 * own e 1 v m (B xs)) (hi : q < m) (r : RunL P n w0 ops l K E (A1 * own e 1 v m (B (xs.set q b)))) :
    RunL P n w0 ops ({ dst := none, op := .store t x y, type := ty, pos := ps, after := af, guard := none } :: l) K E A := by
  subst hk
  refine RunL.storeOwn hz hx hy rfl hA (by omega) ?_
  rw [B_set]
  exact r
end
section
variable {P : Program} {fid : Fid} {n : Nat} {R : Ending → World → Prop} {w0 : World} {k : List Item} {E : Env} {A : Asn}
/-- What follows is proved once, for all the ways that lead there. -/
theorem Run.join {X : Type} (E' : X → Env) (A' : X → Asn) (I : X → Prop) {c : Item} (mid : ∀ x, I x → Run P fid n R w0 k (E' x) (A' x)) (h : (∀ x, I x → Run P fid n R w0 k (E' x) (A' x)) → Run P fid n R w0 (c :: k) E A) : Run P fid n R w0 (c :: k) E A := h mid
theorem Spec.weak {f : FuncId} {args : List Value} {R R' : Value → Asn → Prop} (h : Spec P w0 f args A R) (hr : ∀ v A1, R v A1 → ∃ A2, Ent A1 A2 ∧ R' v A2) : Spec P w0 f args A R' :=
  ⟨fun w hs => (h.out w hs).mono fun _ _ ⟨v, _, hR, he, hs⟩ => let ⟨A2, h1, h2⟩ := hr _ _ hR; ⟨v, A2, h2, he, hs.ent h1⟩⟩
end
section
variable {P : Program} {n : Nat} {w0 : World} {ops : Array Oper} {tail : List Nat} {E : Env} {A : Asn} {K : Act → World → Prop}
theorem Sat.ownRd0 {w : World} {e : TypeId} {size m : Nat} {v : Value} {xs : List Value} (h : Sat w0 w (A * own e size v m xs)) : Rd w0 (own e size v m xs) v size m xs := by
  have hl := h.ownLen
  have := Rd.own (w0 := w0) (A := emp) (e := e) hl.1 hl.2 (v := v) (by
    rcases h.ownForm with ⟨h1, h2, _⟩ | ⟨g, cap, cur, h1, h2, _⟩
    · subst h1 h2; exact ⟨none, 0, rfl, Nat.le_refl _, fun h => absurd h (Nat.lt_irrefl _)⟩
    · exact ⟨_, cap, h1, h2, fun _ => ⟨g, rfl⟩⟩)
  exact this.conv (emp_sep _)
/-- One writer, what it leaves being told by its value. -/
theorem St.write {known : List (Nat × Value)} {Pk L : Asn} (c : Nat) (F G : Value → Asn) (q : Value → Prop) {d : Nat} {op : Op} {ty : TypeId} {ps : String} {af : Array Edge} {g : Option (Nat × Bool)}
    (hi : ops[c]? = some { dst := some d, op, type := ty, pos := ps, after := af, guard := g }) (hn : vof known c = none) (hm : met ops known { dst := some d, op, type := ty, pos := ps, after := af, guard := g } = some true) (ht : has tail c = false)
    (hrest : (List.range ops.size).all (fun i => (vof known i).isSome || has [c] i || [c].any fun c => reach (befs ops.toList []) c i) = true) (hd : Nat.blt d n = true)
    (h : ∀ K : Act → World → Prop, (∀ v, q v → RunL P n w0 #[] [] K ((d, v) :: (depE ops known { dst := some d, op, type := ty, pos := ps, after := af, guard := g } ++ E)) (A * (Pk * F v) * G v)) →
      RunL P n w0 #[] [{ dst := some d, op, type := ty, pos := ps, after := af, guard := none }] K (depE ops known { dst := some d, op, type := ty, pos := ps, after := af, guard := g } ++ E) (A * Pk * L))
    (k : ∀ v, q v → St P n w0 ops tail E A K ((c, v) :: known) (Pk * F v) (G v)) : St P n w0 ops tail E A K known Pk L :=
  St.chain c _ (fun v P' L' => P' = Pk * F v ∧ L' = G v ∧ q v) hi hn hm ht hrest (COp.of (ops := #[]) hd fun K hK => h K fun v hv => hK v _ _ ⟨rfl, rfl, hv⟩) (fun v _ _ ⟨h1, h2, h3⟩ => by subst h1 h2; exact k v h3) (fun v _ _ hR => ⟨F v, hR.1⟩)
/-- Two writers, neither waiting for the other. -/
theorem St.write2 {known : List (Nat × Value)} {Pk L : Asn} (c : Nat) (F G : Value → Asn) (q : Value → Prop) (c2 : Nat) (F2 G2 : Value → Asn) (q2 : Value → Prop) {d : Nat} {op : Op} {ty : TypeId} {ps : String} {af : Array Edge} {g : Option (Nat × Bool)}
    {d2 : Nat} {op2 : Op} {ty2 : TypeId} {ps2 : String} {af2 : Array Edge} {g2 : Option (Nat × Bool)} (hcc : c ≠ c2)
    (hi : ops[c]? = some { dst := some d, op, type := ty, pos := ps, after := af, guard := g }) (hi2 : ops[c2]? = some { dst := some d2, op := op2, type := ty2, pos := ps2, after := af2, guard := g2 }) (hn : vof known c = none) (hn2 : vof known c2 = none)
    (hm : met ops known { dst := some d, op, type := ty, pos := ps, after := af, guard := g } = some true) (hm2 : met ops known { dst := some d2, op := op2, type := ty2, pos := ps2, after := af2, guard := g2 } = some true) (ht : has tail c = false) (ht2 : has tail c2 = false)
    (hrest : (List.range ops.size).all (fun i => (vof known i).isSome || has [c, c2] i || [c, c2].any fun c => reach (befs ops.toList []) c i) = true) (hd : Nat.blt d n = true) (hd2 : Nat.blt d2 n = true)
    (h : ∀ K : Act → World → Prop, (∀ v, q v → RunL P n w0 #[] [] K ((d, v) :: (depE ops known { dst := some d, op, type := ty, pos := ps, after := af, guard := g } ++ E)) (A * (Pk * F v) * G v)) →
      RunL P n w0 #[] [{ dst := some d, op, type := ty, pos := ps, after := af, guard := none }] K (depE ops known { dst := some d, op, type := ty, pos := ps, after := af, guard := g } ++ E) (A * Pk * L))
    (h2 : ∀ K : Act → World → Prop, (∀ v, q2 v → RunL P n w0 #[] [] K ((d2, v) :: (depE ops known { dst := some d2, op := op2, type := ty2, pos := ps2, after := af2, guard := g2 } ++ E)) (A * (Pk * F2 v) * G2 v)) →
      RunL P n w0 #[] [{ dst := some d2, op := op2, type := ty2, pos := ps2, after := af2, guard := none }] K (depE ops known { dst := some d2, op := op2, type := ty2, pos := ps2, after := af2, guard := g2 } ++ E) (A * Pk * L))
    (k : ∀ v, q v → St P n w0 ops tail E A K ((c, v) :: known) (Pk * F v) (G v)) (k2 : ∀ v, q2 v → St P n w0 ops tail E A K ((c2, v) :: known) (Pk * F2 v) (G2 v)) : St P n w0 ops tail E A K known Pk L :=
  St.chain2 c _ (fun v P' L' => P' = Pk * F v ∧ L' = G v ∧ q v) c2 _ (fun v P' L' => P' = Pk * F2 v ∧ L' = G2 v ∧ q2 v) hcc hi hi2 hn hn2 hm hm2 ht ht2 hrest
    (COp.of (ops := #[]) hd fun K hK => h K fun v hv => hK v _ _ ⟨rfl, rfl, hv⟩) (COp.of (ops := #[]) hd2 fun K hK => h2 K fun v hv => hK v _ _ ⟨rfl, rfl, hv⟩) (fun v _ _ hR => ⟨F v, hR.1⟩) (fun v _ _ hR => ⟨F2 v, hR.1⟩)
    (fun v _ _ ⟨h1, h2, h3⟩ => by subst h1 h2; exact k v h3) (fun v _ _ ⟨h1, h2, h3⟩ => by subst h1 h2; exact k2 v h3)
end
theorem x8 (a : UInt8) : BitVec.ofInt 8 (a.toNat : Int) = a.toBitVec := by
  apply BitVec.eq_of_toNat_eq
  have := a.toNat_lt
  simp only [BitVec.toNat_ofInt, UInt8.toNat_toBitVec]
  omega
theorem w8 (a : UInt8) : IntKind.u8.wrap (a.toNat : Int) = a.toNat := by
  have := a.toNat_lt
  exact wrapU8 (by omega) (by omega)
theorem x8_xor (a b : UInt8) : IntKind.u8.wrap ((BitVec.ofInt IntKind.u8.bits (a.toNat : Int) ^^^ BitVec.ofInt IntKind.u8.bits (b.toNat : Int)).toNat : Int) = ((a ^^^ b).toNat : Int) := by
  show IntKind.u8.wrap ((BitVec.ofInt 8 (a.toNat : Int) ^^^ BitVec.ofInt 8 (b.toNat : Int)).toNat : Int) = _
  rw [x8, x8, ← UInt8.toBitVec_xor, UInt8.toNat_toBitVec, w8]
theorem x8_or (a b : UInt8) : IntKind.u8.wrap ((BitVec.ofInt IntKind.u8.bits (a.toNat : Int) ||| BitVec.ofInt IntKind.u8.bits (b.toNat : Int)).toNat : Int) = ((a ||| b).toNat : Int) := by
  show IntKind.u8.wrap ((BitVec.ofInt 8 (a.toNat : Int) ||| BitVec.ofInt 8 (b.toNat : Int)).toNat : Int) = _
  rw [x8, x8, ← UInt8.toBitVec_or, UInt8.toNat_toBitVec, w8]
theorem x8_and (a b : UInt8) : IntKind.u8.wrap ((BitVec.ofInt IntKind.u8.bits (a.toNat : Int) &&& BitVec.ofInt IntKind.u8.bits (b.toNat : Int)).toNat : Int) = ((a &&& b).toNat : Int) := by
  show IntKind.u8.wrap ((BitVec.ofInt 8 (a.toNat : Int) &&& BitVec.ofInt 8 (b.toNat : Int)).toNat : Int) = _
  rw [x8, x8, ← UInt8.toBitVec_and, UInt8.toNat_toBitVec, w8]
theorem sep_w1 (A P L F : Asn) : A * P * L * F = A * (P * F) * L := by rw [sep_assoc, sep_comm L F, ← sep_assoc, sep_assoc A P F]
theorem sep_w2 (A P F : Asn) : A * P * emp * F = A * (P * emp) * F := by rw [sep_emp, sep_emp]
theorem sep_w3 (A P F : Asn) : A * P * F = A * (P * emp) * F := by rw [sep_emp]
theorem sep_w4 (A P F : Asn) : A * P * F = A * (P * F) * emp := by rw [sep_emp, sep_assoc]
theorem sep_last (A B C : Asn) : A * B * C = A * C * B := by rw [sep_assoc, sep_comm B C, ← sep_assoc]
end Go.Proofs.Yteopadjihklkmaa
