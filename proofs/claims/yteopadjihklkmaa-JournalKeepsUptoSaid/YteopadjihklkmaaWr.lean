/- Operations that write and make memory, and calls. Words of our own for the proofs of this seat. -/
import Derived.Test.YteopadjihklkmaaHp
import Derived.Maps.AppendAt
namespace Go.Proofs.Yteopadjihklkmaa
open Go
def evParts (E : Env) : List (Nat × Operand) → Option (List Value)
  | [] => some []
  | (_, x) :: r => match ev E x, evParts E r with
    | some v, some vs => some (v :: vs)
    | _, _ => none
def places : Nat → List (Nat × Operand) → Bool
  | _, [] => true
  | i, (j, _) :: r => Nat.beq i j && places (i + 1) r
theorem Ev.parts {n : Nat} {a : Act} {E : Env} (h : Ev n a E) : ∀ {ps : List (Nat × Operand)} {vs : List Value}, evParts E ps = some vs → ps.map (fun p => a.eval p.2) = vs
  | [], vs, hx => by simp [evParts] at hx; simp [hx]
  | (i, x) :: r, vs, hx => by
    simp only [evParts] at hx
    cases h1 : ev E x with
    | none => simp [h1] at hx
    | some v =>
      cases h2 : evParts E r with
      | none => simp [h1, h2] at hx
      | some us =>
        simp [h1, h2] at hx
        subst hx
        simp [h.eval h1, Ev.parts h h2]
/-- Filling places one behind the other. -/
theorem fold_set (cs : List Value) : ∀ (pre rest : List Value) (off k : Nat), off + k = pre.length → cs.length ≤ rest.length →
    (cs.zipIdx k).foldl (fun (acc : Array Value) (p : Value × Nat) => acc.setIfInBounds (off + p.2) p.1) (pre ++ rest).toArray = (pre ++ cs ++ rest.drop cs.length).toArray := by
  induction cs with
  | nil => intro pre rest off k _ _; simp
  | cons c cs ih =>
    intro pre rest off k hk hl
    cases rest with
    | nil => simp at hl
    | cons r rest =>
      simp only [List.zipIdx_cons, List.foldl_cons]
      have e : ((pre ++ r :: rest).toArray.setIfInBounds (off + k) c) = ((pre ++ [c]) ++ rest).toArray := by
        rw [List.setIfInBounds_toArray, hk]
        simp
      rw [e, ih (pre ++ [c]) rest off (k + 1) (by simp; omega) (by simpa using hl)]
      simp
theorem fill_seq (size : Nat) (place : Nat → Option (Nat × Nat)) : ∀ (ps : List (Nat × Value)) (i : Nat) (pre rest : List Value), (∀ q, place q = some (q * size, size)) → (∀ j p, ps[j]? = some p → p.1 = i + j ∧ p.2.cells.size = size) → pre.length = i * size → rest.length = ps.length * size →
    Instr.fill place (pre ++ rest).toArray ps = some (pre ++ ps.flatMap fun p => p.2.cells.toList).toArray
  | [], i, pre, rest, _, _, _, hr => by
    have : rest = [] := List.eq_nil_of_length_eq_zero (by simpa using hr)
    simp [Instr.fill, this]
  | (q, v) :: ps, i, pre, rest, hp, h, hl, hr => by
    obtain ⟨hqi, hv⟩ := h 0 (q, v) rfl
    obtain rfl : q = i := by simpa using hqi
    clear hqi
    simp only at hv
    simp only [List.length_cons, Nat.succ_mul] at hr
    have hlen : v.cells.toList.length = size := by simpa using hv
    have hf := fold_set v.cells.toList pre rest (q * size) 0 (by omega) (by omega)
    unfold Instr.fill
    simp only [hp, hv, ne_eq, not_true_eq_false, decide_false, Bool.false_or]
    rw [if_neg (by simp; omega)]
    have e : (v.cells.zipIdx.foldl (fun cs x => cs.setIfInBounds (q * size + x.2) x.1) (pre ++ rest).toArray) = (pre ++ v.cells.toList ++ rest.drop v.cells.toList.length).toArray := by
      rw [← hf, ← Array.foldl_toList, Array.toList_zipIdx]
    rw [show (fun (cs : Array Value) (x : Value × Nat) => match x with | (c, j) => cs.setIfInBounds (q * size + j) c) = (fun cs x => cs.setIfInBounds (q * size + x.2) x.1) from rfl, e]
    rw [fill_seq size place ps (q + 1) (pre ++ v.cells.toList) (rest.drop v.cells.toList.length) hp (fun j p hj => by have := h (j + 1) p hj; omega) (by simp [hl, hlen, Nat.succ_mul]) (by simp [hlen]; omega)]
    simp

section
variable {P : Program} {n : Nat} {w0 : World} {ops : Array Oper} {l : List Oper} {K : Act → World → Prop} {E : Env} {A : Asn} {ty : TypeId} {ps : String} {af : Array Edge}

/-! ### New memory -/
theorem RunL.box {d : Nat} {e : TypeId} {x : Operand} {v : Value} (hx : ev E x = some v) (hd : Nat.blt d n = true) (r : ∀ b, RunL P n w0 ops l K ((d, .pointer (some ⟨b, 0, none⟩)) :: E) (A * pts b (.cells v.cells e (0, 0)))) :
    RunL P n w0 ops ({ dst := some d, op := .box e x, type := ty, pos := ps, after := af, guard := none } :: l) K E A :=
  RunL.val (X := Nat) (fun b => .pointer (some ⟨b, 0, none⟩)) (fun b => A * pts b (.cells v.cells e (0, 0))) hd (fun a w he hs => by
    refine ⟨w.heap.size, _, ?_, hs.alloc (.cells v.cells e)⟩
    simp [execOp, he.eval hx, Instr.box, newVar, newRow]) r
theorem RunL.alloc {d : Nat} {e : TypeId} {z : Value} {size bytes : Nat} (hz : TyI P e z size bytes) (hd : Nat.blt d n = true) (r : ∀ b, RunL P n w0 ops l K ((d, .pointer (some ⟨b, 0, none⟩)) :: E) (A * pts b (.cells z.cells e (0, 0)))) :
    RunL P n w0 ops ({ dst := some d, op := .alloc e, type := ty, pos := ps, after := af, guard := none } :: l) K E A :=
  RunL.val (X := Nat) (fun b => .pointer (some ⟨b, 0, none⟩)) (fun b => A * pts b (.cells z.cells e (0, 0))) hd (fun a w he hs => by
    obtain ⟨f, hf, hz', _⟩ := hz.get
    refine ⟨w.heap.size, _, ?_, hs.alloc (.cells z.cells e)⟩
    simp [execOp, Instr.alloc, newVar, newRow, zeroValue, typeInfo, hf, hz']) r
theorem OpOk.build {t : TypeId} {parts : Array (Nat × Operand)} {vs : List Value} {cells : Array Value} (hv : evParts E parts.toList = some vs)
    (hrun : ∀ w, (Instr.build t ((parts.toList.map (·.1)).zip vs).toArray).run P w = .ok (.agg cells) w) : OpOk P n w0 (.build t parts) ty E A (.agg cells) :=
  .pure fun a w _ _ _ _ he => by
    have e : parts.map (fun p => (p.1, a.eval p.2)) = ((parts.toList.map (·.1)).zip vs).toArray := by
      rw [← he.parts hv]
      apply Array.toList_inj.1
      simp [List.zip_map']
    simp [execOp, e, hrun w]
theorem RunL.lit {d : Nat} {t e : TypeId} {z : Value} {m size : Nat} {parts : List (Nat × Operand)} {vs : List Value} (hu : P.underlying t = some (.slice e)) {bytes : Nat} (hi : TyI P e z size bytes) (hv : evParts E parts = some vs)
    (hp : places 0 parts = true) (hm : parts.length = m) (hsz : ∀ v ∈ vs, v.cells.size = size) (hlim : m * size ≤ 16777216) (hm0 : m ≤ maxLen) (hd : Nat.blt d n = true)
    (r : ∀ v, Rd w0 (A * own e size v m (vs.flatMap fun v => v.cells.toList)) v size m (vs.flatMap fun v => v.cells.toList) → RunL P n w0 ops l K ((d, v) :: E) (A * own e size v m (vs.flatMap fun v => v.cells.toList))) :
    RunL P n w0 ops ({ dst := some d, op := .buildSlice t m parts.toArray, type := ty, pos := ps, after := af, guard := none } :: l) K E A := by
  obtain ⟨f, hf, hz, hs, _⟩ := hi.get
  have hlen : vs.length = m := by
    have : ∀ (ps : List (Nat × Operand)) vs, evParts E ps = some vs → vs.length = ps.length := by
      intro ps
      induction ps with
      | nil => intro vs h; simp [evParts] at h; simp [h]
      | cons p r ih =>
        intro vs h
        simp only [evParts] at h
        cases h1 : ev E p.2 with
        | none => simp [h1] at h
        | some v =>
          cases h2 : evParts E r with
          | none => simp [h1, h2] at h
          | some us =>
            simp [h1, h2] at h
            subst h
            simp [ih _ h2]
    rw [this _ _ hv, hm]
  have hflat : ∀ vs : List Value, (∀ v ∈ vs, v.cells.size = size) → (vs.flatMap fun v => v.cells.toList).length = vs.length * size := by
    intro vs
    induction vs with
    | nil => intro _; simp
    | cons v r ih =>
      intro h
      simp only [List.flatMap_cons, List.length_append, List.length_cons, Nat.succ_mul]
      rw [ih fun u hu => h u (by simp [hu])]
      have := h v (by simp)
      simp [this]
      omega
  have hl := hflat vs hsz
  rw [hlen] at hl
  have hplaces : ∀ (ps : List (Nat × Operand)) (i : Nat), places i ps = true → ∀ j p, ps[j]? = some p → p.1 = i + j := by
    intro ps
    induction ps with
    | nil => intro i _ j p h; simp at h
    | cons q r ih =>
      intro i h j p hj
      simp only [places, Bool.and_eq_true] at h
      cases j with
      | zero =>
        simp at hj
        subst hj
        have := Nat.eq_of_beq_eq_true h.1
        omega
      | succ j =>
        have := ih (i + 1) h.2 j p (by simpa using hj)
        omega
  refine RunL.val (X := Nat) (fun b => .slice (some ⟨b, 0, none⟩) m m) (fun b => A * own e size (.slice (some ⟨b, 0, none⟩) m m) m (vs.flatMap fun v => v.cells.toList)) hd (fun a w he hs' => ?_) (fun b => r _ ?_)
  · refine ⟨w.heap.size, w.alloc (.cells (vs.flatMap fun v => v.cells.toList).toArray e), ?_, ?_⟩
    · have e1 : ∀ (ps : List (Nat × Operand)), (ps.toArray.map fun (x : Nat × Operand) => match x with | (i, x) => (i, a.eval x)) = (ps.map fun p => (p.1, a.eval p.2)).toArray := fun ps => by simp
      have hz2 : ∀ w : World, (if m * size = 0 then (pure #[] : Sem (Array Value)) else do pure (← zeroValue e).cells).run P w = .ok (if m * size = 0 then #[] else z.cells) w := by
        intro w
        split <;> simp [zeroValue, typeInfo, hf, hz]
      have hfill := fill_seq size (fun i => some (i * size, size)) (parts.map fun p => (p.1, a.eval p.2)) 0 [] (((Array.range (m * size)).map ((if m * size = 0 then #[] else z.cells)[· % (if m * size = 0 then #[] else z.cells).size]!))).toList (fun _ => rfl) (fun j p hj => by
        rw [List.getElem?_map] at hj
        cases hq : parts[j]? with
        | none => rw [hq] at hj; simp at hj
        | some q =>
          rw [hq] at hj
          simp only [Option.map_some, Option.some.injEq] at hj
          subst hj
          refine ⟨hplaces parts 0 hp j q hq, hsz _ ?_⟩
          rw [← he.parts hv]
          exact List.mem_map.2 ⟨q, List.mem_of_getElem? hq, rfl⟩) (by simp) (by simp [hm])
      simp only [List.nil_append, Array.toArray_toList] at hfill
      have e3 : ((parts.map fun p => (p.1, a.eval p.2)).flatMap fun p => p.2.cells.toList) = vs.flatMap fun v => v.cells.toList := by
        rw [← he.parts hv, List.flatMap_map, List.flatMap_map]
      rw [e3] at hfill
      simp only [execOp, e1, Instr.buildSlice, Sem.run_bind, underlying, hu, run_program, Sem.run_pure, Result.andThen_ok, sizeOf, typeInfo, hf, hs]
      rw [if_neg (by omega)]
      have hz3 := hz2 w
      simp only [Sem.run_ite, Sem.run_bind, zeroValue, typeInfo, hf, hz, run_program, Sem.run_pure, Result.andThen_ok] at hz3
      simp only [Sem.run_pure, Result.andThen_ok, Sem.run_ite, Sem.run_bind, zeroValue, typeInfo, hf, hz, run_program]
      by_cases h0 : m * size = 0
      · simp only [if_pos h0] at hfill ⊢
        rw [hfill]
        simp [newRow]
      · simp only [if_neg h0] at hfill ⊢
        rw [hfill]
        simp [newRow]
    · refine (hs'.alloc _).entr (own_of_pts (by simpa using hl) (Nat.le_refl _) hm0 (by simpa using hl) ?_)
      rw [List.take_of_length_le (by simp [hl])]
  · exact Rd.own hl hm0 ⟨_, m, rfl, Nat.le_refl _, fun _ => ⟨b, rfl⟩⟩
/-! ### Stores -/
theorem RunL.store {t et : TypeId} {x y : Operand} {b i : Nat} {cs : Array Value} {fr : Nat × Nat} {u : Value} {A1 : Asn} {zz : Value} {bb : Nat} (hz : TyI P t zz 1 bb) (hx : ev E x = some (.pointer (some ⟨b, i, none⟩))) (hy : ev E y = some u) (h1 : u.oneCell' = true)
    (hA : A = A1 * pts b (.cells cs et fr)) (hi : i < cs.size) (hfr : fr = (0, 0) ∨ fr.1 > i) (r : RunL P n w0 ops l K E (A1 * pts b (.cells (cs.setIfInBounds i u) et fr))) :
    RunL P n w0 ops ({ dst := none, op := .store t x y, type := ty, pos := ps, after := af, guard := none } :: l) K E A := by
  subst hA
  refine RunL.unit (X := Unit) (fun _ => A1 * pts b (.cells (cs.setIfInBounds i u) et fr)) (fun a w he hs => ⟨(), w.setCell ⟨b, i, none⟩ u, ?_, hs.setCell u⟩) fun _ => r
  obtain ⟨f, hf, hsz⟩ := Option.map_eq_some_iff.1 hz.size
  have hc : w.cell? ⟨b, i, none⟩ = some cs[i] := by simp [World.cell?, hs.get, hi]
  have hfz : w.frozen? ⟨b, i, none⟩ = false := by
    simp only [World.frozen?, hs.get]
    rcases hfr with h | h
    · subst h; simp
    · simp; omega
  have hcells : u.cells = #[u] := by cases u <;> first | rfl | (simp [Value.oneCell'] at h1)
  have hst : (Go.store ⟨b, i, none⟩ u).run P w = .ok () (w.setCell ⟨b, i, none⟩ u) := by rw [run_store P w _ _ _ h1, hc]; simp [hfz]
  simp [execOp, he.eval hx, he.eval hy, Instr.storeAt, Instr.sureAddr, storeVar, sizeOf, typeInfo, hf, hsz, hcells, storeCells, Addr.add, hst]
/-- A store over the whole of a block. -/
theorem RunL.storeAll {t et : TypeId} {x y : Operand} {b m : Nat} {cs : Array Value} {v : Value} {A1 : Asn} {zz : Value} {bb : Nat} (hz : TyI P t zz m bb) (hx : ev E x = some (.pointer (some ⟨b, 0, none⟩))) (hy : ev E y = some v) (hm : v.cells.size = m) (h1 : ∀ u ∈ v.cells.toList, u.oneCell' = true)
    (hA : A = A1 * pts b (.cells cs et (0, 0))) (hi : cs.size = m) (r : RunL P n w0 ops l K E (A1 * pts b (.cells v.cells et (0, 0)))) :
    RunL P n w0 ops ({ dst := none, op := .store t x y, type := ty, pos := ps, after := af, guard := none } :: l) K E A := by
  subst hA
  refine RunL.unit (X := Unit) (fun _ => A1 * pts b (.cells v.cells et (0, 0))) (fun a w he hs => ⟨(), w.setRow b v.cells, ?_, ?_⟩) fun _ => r
  · obtain ⟨f, hf, hsz⟩ := Option.map_eq_some_iff.1 hz.size
    have hst := run_storeCells_at P b 0 et v.cells.toList 0 cs w hs.get (by simp; omega) h1
    simp only [Nat.add_zero, Nat.zero_add, List.take_zero, List.nil_append, Array.length_toList] at hst
    rw [List.drop_of_length_le (by simp; omega)] at hst
    simp only [List.append_nil, Array.toArray_toList] at hst
    simp [execOp, he.eval hx, he.eval hy, Instr.storeAt, Instr.sureAddr, storeVar, sizeOf, typeInfo, hf, hsz, hm, hst]
  · exact hs.upd rfl rfl rfl (by simp) (fun q h _ => setRow_other w b q _ h) (setRow_heap w b cs _ et _ hs.get)
theorem RunL.storeOwn {t e : TypeId} {x y : Operand} {v u : Value} {q m size : Nat} {xs : List Value} {A1 : Asn} {zz : Value} {bb : Nat} (hz : TyI P t zz 1 bb) (hx : ev E x = some (.pointer (some ((adr v).add q)))) (hy : ev E y = some u) (h1 : u.oneCell' = true)
    (hA : A = A1 * own e size v m xs) (hi : q < m * size) (r : RunL P n w0 ops l K E (A1 * own e size v m (xs.set q u))) :
    RunL P n w0 ops ({ dst := none, op := .store t x y, type := ty, pos := ps, after := af, guard := none } :: l) K E A := by
  subst hA
  refine RunL.unit (X := Unit) (fun _ => A1 * own e size v m (xs.set q u)) (fun a w he hs => ?_) fun _ => r
  obtain ⟨f, hf, hsz⟩ := Option.map_eq_some_iff.1 hz.size
  have hl := hs.ownLen.1
  rcases hs.ownForm with ⟨_, rfl, _⟩ | ⟨g, cap, cur, rfl, h2, h3, h4, h5, s⟩
  · omega
  · have hq : q < cur.size := by rw [h4]; exact Nat.lt_of_lt_of_le hi (Nat.mul_le_mul_right _ h2)
    have ha : (adr (.slice (some ⟨g, 0, none⟩) m cap)).add q = ⟨g, q, none⟩ := by
      show (⟨g, 0, none⟩ : Addr).add q = _
      unfold Addr.add
      split <;> simp_all
    rw [ha] at hx
    have hc : w.cell? ⟨g, q, none⟩ = some cur[q] := by simp [World.cell?, s.get, hq]
    have hfz : w.frozen? ⟨g, q, none⟩ = false := by simp [World.frozen?, s.get]
    have hcells : u.cells = #[u] := by cases u <;> first | rfl | (simp [Value.oneCell'] at h1)
    have hst : (Go.store ⟨g, q, none⟩ u).run P w = .ok () (w.setCell ⟨g, q, none⟩ u) := by rw [run_store P w _ _ _ h1, hc]; simp [hfz]
    refine ⟨(), w.setCell ⟨g, q, none⟩ u, ?_, (s.setCell u).entr (own_of_pts (by simpa using hl) h2 h3 (by simpa using h4) ?_)⟩
    · simp [execOp, he.eval hx, he.eval hy, Instr.storeAt, Instr.sureAddr, storeVar, sizeOf, typeInfo, hf, hsz, hcells, storeCells, Addr.add, hst]
    · rw [Array.toList_setIfInBounds, List.take_set, h5]

/-! ### append, make, a cut of what is owned -/
theorem run_append_none {t ty e : TypeId} {f : TypeInfo} (w : World) (hu : P.underlying t = some (.slice e)) (hf : P.info? e = some f) {ad bd : Option Addr} {m cap cap' : Nat} (h : m ≤ cap) :
    (Builtin.append_ #[t, t] ty #[.slice ad m cap, .slice bd 0 cap']).run P w = .ok (.slice ad m cap) w := by
  cases ad <;> cases bd <;> simp [Builtin.append_, run_underlying hu, sizeOf, typeInfo, hf, Builtin.lenOf, Builtin.firstCells, h, storeCells, loadCells, loadCellsFrom]
theorem RunL.append {d : Nat} {t e : TypeId} {x y : Operand} {v u : Value} {m c size bytes : Nat} {xs ys : List Value} {z : Value} {A1 : Asn} {ats : Array TypeId} (hu : P.underlying t = some (.slice e))
    (hi : TyI P e z size bytes) (hats : ats = #[t, t]) (hx : ev E x = some v) (hy : ev E y = some u) (hA : A = A1 * own e size v m xs) (rd : Rd w0 A u size c ys) (h1 : ∀ u ∈ ys, u.oneCell' = true)
    (hzs : z.cells.size = size) (hsz : 0 < size) (hlim : (m + c) * bytes ≤ 140737488355328) (hlim2 : m + c ≤ maxLen) (hd : Nat.blt d n = true)
    (r : ∀ v', Rd w0 (A1 * own e size v' (m + c) (xs ++ ys)) v' size (m + c) (xs ++ ys) → RunL P n w0 ops l K ((d, v') :: E) (A1 * own e size v' (m + c) (xs ++ ys))) :
    RunL P n w0 ops ({ dst := some d, op := .call { callee := .builtin .append, args := #[x, y], argTypes := ats }, type := ty, pos := ps, after := af, guard := none } :: l) K E A := by
  subst hA hats
  obtain ⟨f, hf, hz, hs, hb⟩ := hi.get
  have key : ∀ w, Sat w0 w (A1 * own e size v m xs) → ∃ v' w', (Builtin.append_ #[t, t] ty #[v, u]).run P w = .ok v' w' ∧ Sat w0 w' (A1 * own e size v' (m + c) (xs ++ ys)) := by
    intro w hs'
    obtain ⟨bd, cap', hbd, hcap', hha⟩ := rd.form
    rcases Nat.eq_zero_or_pos c with h0 | h0
    · subst h0
      have hys : ys = [] := List.eq_nil_of_length_eq_zero (by have := rd.len; omega)
      subst hys
      have hform : ∃ ad cap, v = .slice ad m cap ∧ m ≤ cap := by
        rcases hs'.ownForm with ⟨rfl, rfl, _⟩ | ⟨g, cap, cur, rfl, h2, _⟩
        · exact ⟨none, 0, rfl, Nat.le_refl _⟩
        · exact ⟨_, cap, rfl, h2⟩
      obtain ⟨ad, cap, rfl, hc⟩ := hform
      subst hbd
      exact ⟨_, w, run_append_none w hu hf hc, by simpa using hs'⟩
    · have hb2 := hha h0
      rw [hbd, hb2]
      have hcells : ∀ j q, ys[j]? = some q → w.cell? ((adr u).add j) = some q := fun j q hj => (rd.cell hj).out w hs'
      rw [hbd, hb2] at hcells
      obtain ⟨v', w', hr, h2, h3, h4, h5⟩ := run_append_own_at (P := P) w 0 t ty e f z size bytes hu hf hz hs hb hzs hsz v m xs hs'.ownsRow _ c cap' ys rd.len hcells h1 hlim2 hlim (Nat.zero_le _)
      refine ⟨v', w', hr, hs'.ofGrown h3 h2 ?_⟩
      rcases h5 with h5 | h5
      · cases hq : v'.ownBlock with
        | some q => exact .inr ⟨q, rfl, .inl (by rw [← h5, hq])⟩
        | none =>
          left
          rcases h2.2 with ⟨rfl, _⟩ | ⟨g, cap, cur, rfl, _⟩
          · rfl
          · simp [Value.ownBlock] at hq
      · exact .inr ⟨_, h5, .inr (Nat.le_refl _)⟩
  refine ⟨fun a w he hs' => ?_⟩
  refine wpList_plain rfl fun K' hK => ?_
  obtain ⟨v', w', hrun, hs2⟩ := key w hs'
  unfold Oper.wp
  have e1 : (execOp a.eval { dst := some d, op := .call { callee := .builtin .append, args := #[x, y], argTypes := #[t, t] }, type := ty, pos := ps, after := af, guard := none }).run P w = .ok (.value v') w' := by
    simp [execOp, resolve, invoke, builtin, he.eval hx, he.eval hy, hrun]
  rw [e1]
  exact hK _ _ ((r v' hs2.ownRd).out _ _ (he.put (Nat.le_of_ble_eq_true hd) _) hs2)
theorem RunL.make {d : Nat} {t e : TypeId} {x y : Operand} {m size bytes : Nat} {z : Value} {q q' : IntKind} (hu : P.underlying t = some (.slice e)) (hi : TyI P e z size bytes)
    (hx : ev E x = some (.int q m)) (hy : ev E y = some (.int q' m)) (hlim : bytes * m ≤ 281474976710656) (hlim2 : m ≤ maxLen) (hd : Nat.blt d n = true)
    (r : ∀ v', Rd w0 (A * own e size v' m (madeCells z.cells (m * size)).toList) v' size m (madeCells z.cells (m * size)).toList → RunL P n w0 ops l K ((d, v') :: E) (A * own e size v' m (madeCells z.cells (m * size)).toList)) :
    RunL P n w0 ops ({ dst := some d, op := .makeSlice t x y, type := ty, pos := ps, after := af, guard := none } :: l) K E A := by
  obtain ⟨f, hf, hz, hs, hb⟩ := hi.get
  subst hs hb
  refine RunL.val (X := Nat) (fun b => .slice (some ⟨b, 0, none⟩) m m) (fun b => A * own e f.size (.slice (some ⟨b, 0, none⟩) m m) m (madeCells z.cells (m * f.size)).toList) hd (fun a w he hs' => ?_) (fun b => r _ ?_)
  · have hb3 : (f.bytes : Int) * (m : Int) ≤ 281474976710656 := by
      rw [← Int.natCast_mul]
      omega
    have hr := run_make (P := P) w t e f z hu hf hz q q' m m (by omega) (Int.le_refl _) hb3 (by simp only [maxLen] at hlim2; omega)
    simp only [Int.toNat_natCast] at hr
    refine ⟨w.heap.size, _, ?_, (hs'.alloc (.cells (madeCells z.cells (m * f.size)) e)).entr (own_of_pts (by simp [size_madeCells]) (Nat.le_refl _) hlim2 (size_madeCells _ _) ?_)⟩
    · simp [execOp, he.eval hx, he.eval hy, hr]
    · rw [List.take_of_length_le (by simp [size_madeCells])]
  · exact Rd.own (by simp [size_madeCells]) hlim2 ⟨_, m, rfl, Nat.le_refl _, fun _ => ⟨b, rfl⟩⟩

theorem RunL.cutOwn {d : Nat} {t e : TypeId} {x : Operand} {hi : Operand} {v z : Value} {size m j bytes : Nat} {xs : List Value} {A1 : Asn} {q : IntKind} (hu : P.underlying t = some (.slice e)) (hz : TyI P e z size bytes) (hx : ev E x = some v) (hhi : ev E hi = some (.int q j))
    (hA : A = A1 * own e size v m xs) (h2 : j ≤ m) (hd : Nat.blt d n = true)
    (r : ∀ v', Rd w0 (A1 * own e size v' j (xs.take (j * size))) v' size j (xs.take (j * size)) → RunL P n w0 ops l K ((d, v') :: E) (A1 * own e size v' j (xs.take (j * size)))) :
    RunL P n w0 ops ({ dst := some d, op := .slice t x none (some hi) none, type := ty, pos := ps, after := af, guard := none } :: l) K E A := by
  subst hA
  obtain ⟨f, hf, hfz, hs, hb⟩ := hz.get
  refine ⟨fun a w he hs' => ?_⟩
  refine wpList_plain rfl fun K' hK => ?_
  have hform : ∃ ad cap, v = .slice ad m cap ∧ m ≤ cap := by
    rcases hs'.ownForm with ⟨rfl, rfl, _⟩ | ⟨g, cap, cur, rfl, h2, _⟩
    · exact ⟨none, 0, rfl, Nat.le_refl _⟩
    · exact ⟨_, cap, rfl, h2⟩
  obtain ⟨ad, cap, hv, hc⟩ := hform
  have h3 : j ≤ cap := by omega
  have hs2 : Sat w0 w (A1 * own e size (.slice ad j cap) j (xs.take (j * size))) := by
    have hl := hs'.ownLen.1
    have e2 : j * size ≤ m * size := Nat.mul_le_mul_right _ h2
    rcases hs'.ownForm with ⟨h, rfl, rfl, s⟩ | ⟨g, cap', cur, h, g2, g3, g4, g5, s⟩
    · rw [hv] at h
      simp only [Value.slice.injEq] at h
      obtain ⟨rfl, _, rfl⟩ := h
      obtain rfl : j = 0 := by omega
      simpa using s.ownNil e size
    · rw [hv] at h
      simp only [Value.slice.injEq, true_and] at h
      obtain ⟨rfl, rfl⟩ := h
      refine s.entr (own_of_pts (by rw [List.length_take]; omega) h3 g3 g4 ?_)
      rw [← g5, List.take_take, Nat.min_eq_left e2]
  have e1 : (execOp a.eval { dst := some d, op := .slice t x none (some hi) none, type := ty, pos := ps, after := af, guard := none }).run P w = .ok (.value (.slice ad j cap)) w := by
    simp [execOp, he.eval hx, hv, he.eval hhi, Instr.sliceAt, Instr.slice, Instr.sliceBounds, Instr.sliceBound, asIntOf, underlying, hu, h3, sizeOf, typeInfo, hf]
    intro _
    cases ad <;> simp [Addr.add]
  unfold Oper.wp
  rw [e1]
  exact hK _ _ ((r _ hs2.ownRd).out _ _ (he.put (Nat.le_of_ble_eq_true hd) _) hs2)
theorem OpOk.cutNil {t e : TypeId} {x hi : Operand} {z : Value} {size bytes : Nat} {q : IntKind} (hu : P.underlying t = some (.slice e)) (hz : TyI P e z size bytes) (hx : ev E x = some (.slice none 0 0)) (hhi : ev E hi = some (.int q ((0 : Nat) : Int))) :
    OpOk P n w0 (.slice t x none (some hi) none) ty E A (.slice none 0 0) :=
  .pure fun a w _ _ _ _ he => by
    obtain ⟨f, hf, _⟩ := hz.get
    simp [execOp, he.eval hx, he.eval hhi, Instr.sliceAt, Instr.slice, Instr.sliceBounds, Instr.sliceBound, asIntOf, underlying, hu, sizeOf, typeInfo, hf]
/-- append(nil, make([]T, m)...): new room. -/
theorem RunL.appendMake {d : Nat} {t u e : TypeId} {x y : Operand} {m bytes : Nat} {z : Value} {ats : Array TypeId} {q q2 : IntKind} (hu : P.underlying t = some (.slice e)) (hi : TyI P e z 1 bytes) (hw : P.underlying u = some (.int q2)) (hats : ats = #[t, u]) (hx : ev E x = some (.slice none 0 0))
    (hy : ev E y = some (.int q m)) (hzs : z.cells.size = 1) (h0 : 0 < m) (hlim : m * bytes ≤ 140737488355328) (hlim2 : m ≤ maxLen) (hd : Nat.blt d n = true)
    (r : ∀ v', Rd w0 (A * own e 1 v' m (Builtin.zeroCells z.cells m).toList) v' 1 m (Builtin.zeroCells z.cells m).toList → RunL P n w0 ops l K ((d, v') :: E) (A * own e 1 v' m (Builtin.zeroCells z.cells m).toList)) :
    RunL P n w0 ops ({ dst := some d, op := .call { callee := .builtin .append, args := #[x, y], argTypes := ats }, type := ty, pos := ps, after := af, guard := none } :: l) K E A := by
  subst hats
  obtain ⟨f, hf, hz, hs, hb⟩ := hi.get
  subst hb
  refine ⟨fun a w he hs' => ?_⟩
  refine wpList_plain rfl fun K' hK => ?_
  have hm63 : (m : Int) ≤ 9223372036854775807 := by simp only [maxLen] at hlim2; omega
  have hwrap : IntKind.i64.wrap (m : Int) = m := wrapI (by omega) hm63
  have hge := grownCap_ge w m 0 e
  have hcm := grownCap_le_maxLen w m 0 e hlim2
  have hrun : (Builtin.append_ #[t, u] ty #[.slice none 0 0, .int q m]).run P w = .ok (.slice (some ⟨w.heap.size, 0, none⟩) m (grownCap w m 0 e))
      (w.drew.alloc (.cells ((Builtin.zeroCells z.cells m) ++ Builtin.zeroCells z.cells (grownCap w m 0 e - m)) e)) := by
    have n1 : ¬ (281474976710656 < (m : Int) * (f.bytes : Int)) := by
      have : ((m * f.bytes : Nat) : Int) ≤ 140737488355328 := by omega
      rw [Int.natCast_mul] at this
      omega
    have n2 : ¬ 281474976710656 < Builtin.nextslicecap m 0 * f.bytes := by
      have := growslice_fits (need := m) (old := 0) (bytes := f.bytes) (by omega) hlim
      omega
    have n3 : ¬ (m : Int) < 0 := by omega
    have n4 : ¬ m = 0 := by omega
    have n5 : ¬ m ≤ 0 := by omega
    have n6 : ¬ (9223372036854775807 < (m : Int)) := by omega
    simp [Builtin.append_, run_underlying hu, run_underlying hw, sizeOf, typeInfo, zeroValue, hf, hz, hs, asInt, asIntOf, hwrap, n1, n2, n3, n4, n6, Question.forced, run_firstCells_none, newRow, grownCap]
  have hs2 : Sat w0 (w.drew.alloc (.cells ((Builtin.zeroCells z.cells m) ++ Builtin.zeroCells z.cells (grownCap w m 0 e - m)) e)) (A * own e 1 (.slice (some ⟨w.heap.size, 0, none⟩) m (grownCap w m 0 e)) m (Builtin.zeroCells z.cells m).toList) := by
    refine (hs'.drew.alloc _).entr (own_of_pts ?_ hge hcm ?_ ?_)
    · simp [size_zeroCells, hzs]
    · simp [size_zeroCells, hzs]
      omega
    · simp only [Array.toList_append]
      rw [List.take_left']
      simp [size_zeroCells, hzs]
  have e1 : (execOp a.eval { dst := some d, op := .call { callee := .builtin .append, args := #[x, y], argTypes := #[t, u] }, type := ty, pos := ps, after := af, guard := none }).run P w = .ok (.value (.slice (some ⟨w.heap.size, 0, none⟩) m (grownCap w m 0 e))) (w.drew.alloc (.cells ((Builtin.zeroCells z.cells m) ++ Builtin.zeroCells z.cells (grownCap w m 0 e - m)) e)) := by
    simp [execOp, resolve, invoke, builtin, he.eval hx, he.eval hy, hrun]
  unfold Oper.wp
  rw [e1]
  exact hK _ _ ((r _ hs2.ownRd).out _ _ (he.put (Nat.le_of_ble_eq_true hd) _) hs2)

/-- []byte("constant"): from here on it is only read. -/
theorem RunL.mark {d : Nat} {t e : TypeId} {x : Operand} {v : Value} {m : Nat} {xs : List Value} {A1 : Asn} (hu : P.underlying t = some (.slice e)) (he8 : P.underlying e = some (.int .u8)) (hx : ev E x = some v) (hA : A = A1 * own e 1 v m xs) (h0 : 0 < m) (hd : Nat.blt d n = true)
    (r : ∀ C, Rd w0 (A1 * C) v 1 m xs → RunL P n w0 ops l K ((d, v) :: E) (A1 * C)) :
    RunL P n w0 ops ({ dst := some d, op := .convert t t x, type := ty, pos := ps, after := af, guard := none } :: l) K E A := by
  subst hA
  refine ⟨fun a w he hs' => ?_⟩
  refine wpList_plain rfl fun K' hK => ?_
  have hl := hs'.ownLen
  rcases hs'.ownForm with ⟨_, h, _⟩ | ⟨g, cap, cur, rfl, g2, g3, g4, g5, s⟩
  · omega
  · have e1 : (execOp a.eval { dst := some d, op := .convert t t x, type := ty, pos := ps, after := af, guard := none }).run P w = .ok (.value (.slice (some ⟨g, 0, none⟩) m cap)) (w.freeze ⟨g, cur.size, none⟩ 1) := by
      have hsh : w.shape? g = some (e, cur.size) := by simp [World.shape?, s.get]
      simp [execOp, he.eval hx, convert, underlying, hu, he8, markStringish, hsh]
    unfold Oper.wp
    rw [e1]
    have hs2 : Sat w0 (w.freeze ⟨g, cur.size, none⟩ 1) (A1 * pts g (.cells cur e (cur.size, cur.size + 1))) := by
      refine s.upd rfl rfl rfl ?_ (fun k hk _ => ?_) ?_
      · simp [World.freeze]
      · simp only [World.freeze, Nat.succ_ne_self, if_false, Array.getElem?_modify]
        rw [if_neg (fun e => hk e.symm)]
      · simp only [World.freeze]
        rw [if_neg (fun e => Nat.one_ne_zero e)]
        simp [Array.getElem?_modify, s.get]
    refine hK _ _ ((r _ ?_).out _ _ (he.put (Nat.le_of_ble_eq_true hd) _) hs2)
    refine ⟨hl.1, hl.2, _, cap, rfl, g2, fun _ => ⟨_, rfl, fun j u hj => ?_⟩⟩
    have hlt := (List.getElem?_eq_some_iff.1 hj).1
    have ha : (⟨g, 0, none⟩ : Addr).add j = ⟨g, j, none⟩ := by unfold Addr.add; split <;> simp_all
    rw [ha]
    refine Cell.pts ?_
    rw [← g5, List.getElem?_take] at hj
    split at hj
    · simpa using hj
    · cases hj

/-! ### Calls -/
structure Callee (P : Program) (f : FuncId) : Prop where
  is : ∃ fn, P.funcs[f]? = some fn ∧ (fn.name == "runtime.NumGoroutine") = false ∧ fn.body.isNone = false
theorem RunL.call {d : Nat} {f : FuncId} {args : List Operand} {ats : Array TypeId} {vs : List Value} {R' : Value → Asn → Prop} (hc : Callee P f) (hv : evs E args = some vs) (sp : Spec P w0 f vs A R') (hd : Nat.blt d n = true)
    (r : ∀ v A', R' v A' → RunL P n w0 ops l K ((d, v) :: E) A') :
    RunL P n w0 ops ({ dst := some d, op := .call { callee := .value (.func f), args := args.toArray, argTypes := ats }, type := ty, pos := ps, after := af, guard := none } :: l) K E A := by
  refine ⟨fun a w he hs => ?_⟩
  refine wpList_plain rfl fun K' hK => ?_
  unfold Oper.wp
  obtain ⟨fn, h1, h2, h3⟩ := hc.is
  have e1 : (execOp a.eval { dst := some d, op := .call { callee := .value (.func f), args := args.toArray, argTypes := ats }, type := ty, pos := ps, after := af, guard := none }).run P w = .ok (.enter f vs.toArray) w := by
    have e2 : args.toArray.map a.eval = vs.toArray := by
      apply Array.toList_inj.1
      simpa using he.evals hv
    have e3 : a.eval (.func f) = .func (.func f) #[] #[] := rfl
    simp only [execOp, resolve, e3, Deferred.ofValue, invoke, callFunc, Sem.run_bind, Sem.run_pure, run_program, Result.andThen_ok, h1, h2, h3, Bool.false_eq_true, if_false, e2, Array.empty_append, Array.append_empty]
  rw [e1]
  refine (sp.out w hs).mono fun e w' hp => ?_
  obtain ⟨v, A', hR, rfl, hs'⟩ := hp
  exact hK _ _ ((r v A' hR).out _ _ (he.put (Nat.le_of_ble_eq_true hd) _) hs')
theorem RunL.call0 {f : FuncId} {args : List Operand} {ats : Array TypeId} {vs : List Value} {R' : Value → Asn → Prop} (hc : Callee P f) (hv : evs E args = some vs) (sp : Spec P w0 f vs A R')
    (r : ∀ v A', R' v A' → RunL P n w0 ops l K E A') :
    RunL P n w0 ops ({ dst := none, op := .call { callee := .value (.func f), args := args.toArray, argTypes := ats }, type := ty, pos := ps, after := af, guard := none } :: l) K E A := by
  refine ⟨fun a w he hs => ?_⟩
  refine wpList_plain rfl fun K' hK => ?_
  unfold Oper.wp
  obtain ⟨fn, h1, h2, h3⟩ := hc.is
  have e1 : (execOp a.eval { dst := none, op := .call { callee := .value (.func f), args := args.toArray, argTypes := ats }, type := ty, pos := ps, after := af, guard := none }).run P w = .ok (.enter f vs.toArray) w := by
    have e2 : args.toArray.map a.eval = vs.toArray := by
      apply Array.toList_inj.1
      simpa using he.evals hv
    have e3 : a.eval (.func f) = .func (.func f) #[] #[] := rfl
    simp only [execOp, resolve, e3, Deferred.ofValue, invoke, callFunc, Sem.run_bind, Sem.run_pure, run_program, Result.andThen_ok, h1, h2, h3, Bool.false_eq_true, if_false, e2, Array.empty_append, Array.append_empty]
  rw [e1]
  refine (sp.out w hs).mono fun e w' hp => ?_
  obtain ⟨v, A', hR, rfl, hs'⟩ := hp
  exact hK _ _ ((r v A' hR).out _ _ he hs')
end
end Go.Proofs.Yteopadjihklkmaa
