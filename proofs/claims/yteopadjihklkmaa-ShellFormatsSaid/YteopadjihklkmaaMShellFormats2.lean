/- Part 2 of the proof of ShellFormats. -/
import Derived.Test.YteopadjihklkmaaMShellFormats1
import Derived.Maps.AppendAt
section
namespace Go.Proofs.Yteopadjihklkmaa
open Go
def evParts (E : Env) : List (Nat × Operand) → Option (List Value)
  | [] => some []
  | (_, x) :: r => match ev E x, evParts E r with
    | some v, some vs => some (v :: vs)
    | _, _ => none
def places : Nat → List (Nat × Operand) → Bool
  | _, [] => true
  | i, (j, _) :: r => Nat.beq i j && places (i + 1) r
theorem Ev.parts {n : Nat} {a : Act} {E : Env} (h : Ev n a E) : ∀ {ps : List (Nat × Operand)} {vs : List Value}, evParts E ps = some vs → ps.map (fun p => a.eval p.2) = vs
  | [], vs, hx => by simp [evParts] at hx; simp [hx]
  | (i, x) :: r, vs, hx => by
    simp only [evParts] at hx
    cases h1 : ev E x with
    | none => simp [h1] at hx
    | some v =>
      cases h2 : evParts E r with
      | none => simp [h1, h2] at hx
      | some us =>
        simp [h1, h2] at hx
        subst hx
        simp [h.eval h1, Ev.parts h h2]
/-- Filling places one behind the other. -/
theorem fold_set (cs : List Value) : ∀ (pre rest : List Value) (off k : Nat), off + k = pre.length → cs.length ≤ rest.length →
    (cs.zipIdx k).foldl (fun (acc : Array Value) (p : Value × Nat) => acc.setIfInBounds (off + p.2) p.1) (pre ++ rest).toArray = (pre ++ cs ++ rest.drop cs.length).toArray := by
  induction cs with
  | nil => intro pre rest off k _ _; simp
  | cons c cs ih =>
    intro pre rest off k hk hl
    cases rest with
    | nil => simp at hl
    | cons r rest =>
      simp only [List.zipIdx_cons, List.foldl_cons]
      have e : ((pre ++ r :: rest).toArray.setIfInBounds (off + k) c) = ((pre ++ [c]) ++ rest).toArray := by
        rw [List.setIfInBounds_toArray, hk]
        simp
      rw [e, ih (pre ++ [c]) rest off (k + 1) (by simp; omega) (by simpa using hl)]
      simp
theorem fill_seq (size : Nat) (place : Nat → Option (Nat × Nat)) : ∀ (ps : List (Nat × Value)) (i : Nat) (pre rest : List Value), (∀ q, place q = some (q * size, size)) → (∀ j p, ps[j]? = some p → p.1 = i + j ∧ p.2.cells.size = size) → pre.length = i * size → rest.length = ps.length * size →
    Instr.fill place (pre ++ rest).toArray ps = some (pre ++ ps.flatMap fun p => p.2.cells.toList).toArray
  | [], i, pre, rest, _, _, _, hr => by
    have : rest = [] := List.eq_nil_of_length_eq_zero (by simpa using hr)
    simp [Instr.fill, this]
  | (q, v) :: ps, i, pre, rest, hp, h, hl, hr => by
    obtain ⟨hqi, hv⟩ := h 0 (q, v) rfl
    obtain rfl : q = i := by simpa using hqi
    clear hqi
    simp only at hv
    simp only [List.length_cons, Nat.succ_mul] at hr
    have hlen : v.cells.toList.length = size := by simpa using hv
    have hf := fold_set v.cells.toList pre rest (q * size) 0 (by omega) (by omega)
    unfold Instr.fill
    simp only [hp, hv, ne_eq, not_true_eq_false, decide_false, Bool.false_or]
    rw [if_neg (by simp; omega)]
    have e : (v.cells.zipIdx.foldl (fun cs x => cs.setIfInBounds (q * size + x.2) x.1) (pre ++ rest).toArray) = (pre ++ v.cells.toList ++ rest.drop v.cells.toList.length).toArray := by
      rw [← hf, ← Array.foldl_toList, Array.toList_zipIdx]
    rw [show (fun (cs : Array Value) (x : Value × Nat) => match x with | (c, j) => cs.setIfInBounds (q * size + j) c) = (fun cs x => cs.setIfInBounds (q * size + x.2) x.1) from rfl, e]
    rw [fill_seq size place ps (q + 1) (pre ++ v.cells.toList) (rest.drop v.cells.toList.length) hp (fun j p hj => by have := h (j + 1) p hj; omega) (by simp [hl, hlen, Nat.succ_mul]) (by simp [hlen]; omega)]
    simp
section
variable {P : Program} {n : Nat} {w0 : World} {ops : Array Oper} {l : List Oper} {K : Act → World → Prop} {E : Env} {A : Asn} {ty : TypeId} {ps : String} {af : Array Edge}
/-! ### New memory -/
theorem RunL.box {d : Nat} {e : TypeId} {x : Operand} {v : Value} (hx : ev E x = some v) (hd : Nat.blt d n = true) (r : ∀ b, RunL P n w0 ops l K ((d, .pointer (some ⟨b, 0, none⟩)) :: E) (A * pts b (.cells v.cells e (0, 0)))) :
    RunL P n w0 ops ({ dst := some d, op := .box e x, type := ty, pos := ps, after := af, guard := none } :: l) K E A :=
  RunL.val (X := Nat) (fun b => .pointer (some ⟨b, 0, none⟩)) (fun b => A * pts b (.cells v.cells e (0, 0))) hd (fun a w he hs => by
    refine ⟨w.heap.size, _, ?_, hs.alloc (.cells v.cells e)⟩
    simp [execOp, he.eval hx, Instr.box, newVar, newRow]) r
theorem RunL.alloc {d : Nat} {e : TypeId} {z : Value} {size bytes : Nat} (hz : TyI P e z size bytes) (hd : Nat.blt d n = true) (r : ∀ b, RunL P n w0 ops l K ((d, .pointer (some ⟨b, 0, none⟩)) :: E) (A * pts b (.cells z.cells e (0, 0)))) :
    RunL P n w0 ops ({ dst := some d, op := .alloc e, type := ty, pos := ps, after := af, guard := none } :: l) K E A :=
  RunL.val (X := Nat) (fun b => .pointer (some ⟨b, 0, none⟩)) (fun b => A * pts b (.cells z.cells e (0, 0))) hd (fun a w he hs => by
    obtain ⟨f, hf, hz', _⟩ := hz.get
    refine ⟨w.heap.size, _, ?_, hs.alloc (.cells z.cells e)⟩
    simp [execOp, Instr.alloc, newVar, newRow, zeroValue, typeInfo, hf, hz']) r
theorem OpOk.build {t : TypeId} {parts : Array (Nat × Operand)} {vs : List Value} {cells : Array Value} (hv : evParts E parts.toList = some vs)
    (hrun : ∀ w, (Instr.build t ((parts.toList.map (·.1)).zip vs).toArray).run P w = .ok (.agg cells) w) : OpOk P n w0 (.build t parts) ty E A (.agg cells) :=
  .pure fun a w _ _ _ _ he => by
    have e : parts.map (fun p => (p.1, a.eval p.2)) = ((parts.toList.map (·.1)).zip vs).toArray := by
      rw [← he.parts hv]
      apply Array.toList_inj.1
      simp [List.zip_map']
    simp [execOp, e, hrun w]
theorem RunL.lit {d : Nat} {t e : TypeId} {z : Value} {m size : Nat} {parts : List (Nat × Operand)} {vs : List Value} (hu : P.underlying t = some (.slice e)) {bytes : Nat} (hi : TyI P e z size bytes) (hv : evParts E parts = some vs)
    (hp : places 0 parts = true) (hm : parts.length = m) (hsz : ∀ v ∈ vs, v.cells.size = size) (hlim : m * size ≤ 16777216) (hm0 : m ≤ maxLen) (hd : Nat.blt d n = true)
    (r : ∀ v, Rd w0 (A * own e size v m (vs.flatMap fun v => v.cells.toList)) v size m (vs.flatMap fun v => v.cells.toList) → RunL P n w0 ops l K ((d, v) :: E) (A * own e size v m (vs.flatMap fun v => v.cells.toList))) :
    RunL P n w0 ops ({ dst := some d, op := .buildSlice t m parts.toArray, type := ty, pos := ps, after := af, guard := none } :: l) K E A := by
  obtain ⟨f, hf, hz, hs, _⟩ := hi.get
  have hlen : vs.length = m := by
    have : ∀ (ps : List (Nat × Operand)) vs, evParts E ps = some vs → vs.length = ps.length := by
      intro ps
      induction ps with
      | nil => intro vs h; simp [evParts] at h; simp [h]
      | cons p r ih =>
        intro vs h
        simp only [evParts] at h
        cases h1 : ev E p.2 with
        | none => simp [h1] at h
        | some v =>
          cases h2 : evParts E r with
          | none => simp [h1, h2] at h
          | some us =>
            simp [h1, h2] at h
            subst h
            simp [ih _ h2]
    rw [this _ _ hv, hm]
  have hflat : ∀ vs : List Value, (∀ v ∈ vs, v.cells.size = size) → (vs.flatMap fun v => v.cells.toList).length = vs.length * size := by
    intro vs
    induction vs with
    | nil => intro _; simp
    | cons v r ih =>
      intro h
      simp only [List.flatMap_cons, List.length_append, List.length_cons, Nat.succ_mul]
      rw [ih fun u hu => h u (by simp [hu])]
      have := h v (by simp)
      simp [this]
      omega
  have hl := hflat vs hsz
  rw [hlen] at hl
  have hplaces : ∀ (ps : List (Nat × Operand)) (i : Nat), places i ps = true → ∀ j p, ps[j]? = some p → p.1 = i + j := by
    intro ps
    induction ps with
    | nil => intro i _ j p h; simp at h
    | cons q r ih =>
      intro i h j p hj
      simp only [places, Bool.and_eq_true] at h
      cases j with
      | zero =>
        simp at hj
        subst hj
        have := Nat.eq_of_beq_eq_true h.1
        omega
      | succ j =>
        have := ih (i + 1) h.2 j p (by simpa using hj)
        omega
  refine RunL.val (X := Nat) (fun b => .slice (some ⟨b, 0, none⟩) m m) (fun b => A * own e size (.slice (some ⟨b, 0, none⟩) m m) m (vs.flatMap fun v => v.cells.toList)) hd (fun a w he hs' => ?_) (fun b => r _ ?_)
  · refine ⟨w.heap.size, w.alloc (.cells (vs.flatMap fun v => v.cells.toList).toArray e), ?_, ?_⟩
    · have e1 : ∀ (ps : List (Nat × Operand)), (ps.toArray.map fun (x : Nat × Operand) => match x with | (i, x) => (i, a.eval x)) = (ps.map fun p => (p.1, a.eval p.2)).toArray := fun ps => by simp
      have hz2 : ∀ w : World, (if m * size = 0 then (pure #[] : Sem (Array Value)) else do pure (← zeroValue e).cells).run P w = .ok (if m * size = 0 then #[] else z.cells) w := by
        intro w
        split <;> simp [zeroValue, typeInfo, hf, hz]
      have hfill := fill_seq size (fun i => some (i * size, size)) (parts.map fun p => (p.1, a.eval p.2)) 0 [] (((Array.range (m * size)).map ((if m * size = 0 then #[] else z.cells)[· % (if m * size = 0 then #[] else z.cells).size]!))).toList (fun _ => rfl) (fun j p hj => by
        rw [List.getElem?_map] at hj
        cases hq : parts[j]? with
        | none => rw [hq] at hj; simp at hj
        | some q =>
          rw [hq] at hj
          simp only [Option.map_some, Option.some.injEq] at hj
          subst hj
          refine ⟨hplaces parts 0 hp j q hq, hsz _ ?_⟩
          rw [← he.parts hv]
          exact List.mem_map.2 ⟨q, List.mem_of_getElem? hq, rfl⟩) (by simp) (by simp [hm])
      simp only [List.nil_append, Array.toArray_toList] at hfill
      have e3 : ((parts.map fun p => (p.1, a.eval p.2)).flatMap fun p => p.2.cells.toList) = vs.flatMap fun v => v.cells.toList := by
        rw [← he.parts hv, List.flatMap_map, List.flatMap_map]
      rw [e3] at hfill
      simp only [execOp, e1, Instr.buildSlice, Sem.run_bind, underlying, hu, run_program, Sem.run_pure, Result.andThen_ok, sizeOf, typeInfo, hf, hs]
      rw [if_neg (by omega)]
      have hz3 := hz2 w
      simp only [Sem.run_ite, Sem.run_bind, zeroValue, typeInfo, hf, hz, run_program, Sem.run_pure, Result.andThen_ok] at hz3
      simp only [Sem.run_pure, Result.andThen_ok, Sem.run_ite, Sem.run_bind, zeroValue, typeInfo, hf, hz, run_program]
      by_cases h0 : m * size = 0
      · simp only [if_pos h0] at hfill ⊢
        rw [hfill]
        simp [newRow]
      · simp only [if_neg h0] at hfill ⊢
        rw [hfill]
        simp [newRow]
    · refine (hs'.alloc _).entr (own_of_pts (by simpa using hl) (Nat.le_refl _) hm0 (by simpa using hl) ?_)
      rw [List.take_of_length_le (by simp [hl])]
  · exact Rd.own hl hm0 ⟨_, m, rfl, Nat.le_refl _, fun _ => ⟨b, rfl⟩⟩
/-! ### Stores -/
theorem RunL.store {t et : TypeId} {x y : Operand} {b i : Nat} {cs : Array Value} {fr : Nat × Nat} {u : Value} {A1 : Asn} {zz : Value} {bb : Nat} (hz : TyI P t zz 1 bb) (hx : ev E x = some (.pointer (some ⟨b, i, none⟩))) (hy : ev E y = some u) (h1 : u.oneCell' = true)
    (hA : A = A1 * pts b (.cells cs et fr)) (hi : i < cs.size) (hfr : fr = (0, 0) ∨ fr.1 > i) (r : RunL P n w0 ops l K E (A1 * pts b (.cells (cs.setIfInBounds i u) et fr))) :
    RunL P n w0 ops ({ dst := none, op := .store t x y, type := ty, pos := ps, after := af, guard := none } :: l) K E A := by
  subst hA
  refine RunL.unit (X := Unit) (fun _ => A1 * pts b (.cells (cs.setIfInBounds i u) et fr)) (fun a w he hs => ⟨(), w.setCell ⟨b, i, none⟩ u, ?_, hs.setCell u⟩) fun _ => r
  obtain ⟨f, hf, hsz⟩ := Option.map_eq_some_iff.1 hz.size
  have hc : w.cell? ⟨b, i, none⟩ = some cs[i] := by simp [World.cell?, hs.get, hi]
  have hfz : w.frozen? ⟨b, i, none⟩ = false := by
    simp only [World.frozen?, hs.get]
    rcases hfr with h | h
    · subst h; simp
    · simp; omega
  have hcells : u.cells = #[u] := by cases u <;> first | rfl | (simp [Value.oneCell'] at h1)
  have hst : (Go.store ⟨b, i, none⟩ u).run P w = .ok () (w.setCell ⟨b, i, none⟩ u) := by rw [run_store P w _ _ _ h1, hc]; simp [hfz]
  simp [execOp, he.eval hx, he.eval hy, Instr.storeAt, Instr.sureAddr, storeVar, sizeOf, typeInfo, hf, hsz, hcells, storeCells, Addr.add, hst]
/-- A store over the whole of a block. -/
theorem RunL.storeAll {t et : TypeId} {x y : Operand} {b m : Nat} {cs : Array Value} {v : Value} {A1 : Asn} {zz : Value} {bb : Nat} (hz : TyI P t zz m bb) (hx : ev E x = some (.pointer (some ⟨b, 0, none⟩))) (hy : ev E y = some v) (hm : v.cells.size = m) (h1 : ∀ u ∈ v.cells.toList, u.oneCell' = true)
    (hA : A = A1 * pts b (.cells cs et (0, 0))) (hi : cs.size = m) (r : RunL P n w0 ops l K E (A1 * pts b (.cells v.cells et (0, 0)))) :
    RunL P n w0 ops ({ dst := none, op := .store t x y, type := ty, pos := ps, after := af, guard := none } :: l) K E A := by
  subst hA
  refine RunL.unit (X := Unit) (fun _ => A1 * pts b (.cells v.cells et (0, 0))) (fun a w he hs => ⟨(), w.setRow b v.cells, ?_, ?_⟩) fun _ => r
  · obtain ⟨f, hf, hsz⟩ := Option.map_eq_some_iff.1 hz.size
    have hst := run_storeCells_at P b 0 et v.cells.toList 0 cs w hs.get (by simp; omega) h1
    simp only [Nat.add_zero, Nat.zero_add, List.take_zero, List.nil_append, Array.length_toList] at hst
    rw [List.drop_of_length_le (by simp; omega)] at hst
    simp only [List.append_nil, Array.toArray_toList] at hst
    simp [execOp, he.eval hx, he.eval hy, Instr.storeAt, Instr.sureAddr, storeVar, sizeOf, typeInfo, hf, hsz, hm, hst]
  · exact hs.upd rfl rfl rfl (by simp) (fun q h _ => setRow_other w b q _ h) (setRow_heap w b cs _ et _ hs.get)
theorem RunL.storeOwn {t e : TypeId} {x y : Operand} {v u : Value} {q m size : Nat} {xs : List Value} {A1 : Asn} {zz : Value} {bb : Nat} (hz : TyI P t zz 1 bb) (hx : ev E x = some (.pointer (some ((adr v).add q)))) (hy : ev E y = some u) (h1 : u.oneCell' = true)
    (hA : A = A1 * own e size v m xs) (hi : q < m * size) (r : RunL P n w0 ops l K E (A1 * own e size v m (xs.set q u))) :
    RunL P n w0 ops ({ dst := none, op := .store t x y, type := ty, pos := ps, after := af, guard := none } :: l) K E A := by
  subst hA
  refine RunL.unit (X := Unit) (fun _ => A1 * own e size v m (xs.set q u)) (fun a w he hs => ?_) fun _ => r
  obtain ⟨f, hf, hsz⟩ := Option.map_eq_some_iff.1 hz.size
  have hl := hs.ownLen.1
  rcases hs.ownForm with ⟨_, rfl, _⟩ | ⟨g, cap, cur, rfl, h2, h3, h4, h5, s⟩
  · omega
  · have hq : q < cur.size := by rw [h4]; exact Nat.lt_of_lt_of_le hi (Nat.mul_le_mul_right _ h2)
    have ha : (adr (.slice (some ⟨g, 0, none⟩) m cap)).add q = ⟨g, q, none⟩ := by
      show (⟨g, 0, none⟩ : Addr).add q = _
      unfold Addr.add
      split <;> simp_all
    rw [ha] at hx
    have hc : w.cell? ⟨g, q, none⟩ = some cur[q] := by simp [World.cell?, s.get, hq]
    have hfz : w.frozen? ⟨g, q, none⟩ = false := by simp [World.frozen?, s.get]
    have hcells : u.cells = #[u] := by cases u <;> first | rfl | (simp [Value.oneCell'] at h1)
    have hst : (Go.store ⟨g, q, none⟩ u).run P w = .ok () (w.setCell ⟨g, q, none⟩ u) := by rw [run_store P w _ _ _ h1, hc]; simp [hfz]
    refine ⟨(), w.setCell ⟨g, q, none⟩ u, ?_, (s.setCell u).entr (own_of_pts (by simpa using hl) h2 h3 (by simpa using h4) ?_)⟩
    · simp [execOp, he.eval hx, he.eval hy, Instr.storeAt, Instr.sureAddr, storeVar, sizeOf, typeInfo, hf, hsz, hcells, storeCells, Addr.add, hst]
    · rw [Array.toList_setIfInBounds, List.take_set, h5]
/-! ### append, make, a cut of what is owned -/
theorem run_append_none {t ty e : TypeId} {f : TypeInfo} (w : World) (hu : P.underlying t = some (.slice e)) (hf : P.info? e = some f) {ad bd : Option Addr} {m cap cap' : Nat} (h : m ≤ cap) :
    (Builtin.append_ #[t, t] ty #[.slice ad m cap, .slice bd 0 cap']).run P w = .ok (.slice ad m cap) w := by
  cases ad <;> cases bd <;> simp [Builtin.append_, run_underlying hu, sizeOf, typeInfo, hf, Builtin.lenOf, Builtin.firstCells, h, storeCells, loadCells, loadCellsFrom]
theorem RunL.append {d : Nat} {t e : TypeId} {x y : Operand} {v u : Value} {m c size bytes : Nat} {xs ys : List Value} {z : Value} {A1 : Asn} {ats : Array TypeId} (hu : P.underlying t = some (.slice e))
    (hi : TyI P e z size bytes) (hats : ats = #[t, t]) (hx : ev E x = some v) (hy : ev E y = some u) (hA : A = A1 * own e size v m xs) (rd : Rd w0 A u size c ys) (h1 : ∀ u ∈ ys, u.oneCell' = true)
    (hzs : z.cells.size = size) (hsz : 0 < size) (hlim : (m + c) * bytes ≤ 140737488355328) (hlim2 : m + c ≤ maxLen) (hd : Nat.blt d n = true)
    (r : ∀ v', Rd w0 (A1 * own e size v' (m + c) (xs ++ ys)) v' size (m + c) (xs ++ ys) → RunL P n w0 ops l K ((d, v') :: E) (A1 * own e size v' (m + c) (xs ++ ys))) :
    RunL P n w0 ops ({ dst := some d, op := .call { callee := .builtin .append, args := #[x, y], argTypes := ats }, type := ty, pos := ps, after := af, guard := none } :: l) K E A := by
  subst hA hats
  obtain ⟨f, hf, hz, hs, hb⟩ := hi.get
  have key : ∀ w, Sat w0 w (A1 * own e size v m xs) → ∃ v' w', (Builtin.append_ #[t, t] ty #[v, u]).run P w = .ok v' w' ∧ Sat w0 w' (A1 * own e size v' (m + c) (xs ++ ys)) := by
    intro w hs'
    obtain ⟨bd, cap', hbd, hcap', hha⟩ := rd.form
    rcases Nat.eq_zero_or_pos c with h0 | h0
    · subst h0
      have hys : ys = [] := List.eq_nil_of_length_eq_zero (by have := rd.len; omega)
      subst hys
      have hform : ∃ ad cap, v = .slice ad m cap ∧ m ≤ cap := by
        rcases hs'.ownForm with ⟨rfl, rfl, _⟩ | ⟨g, cap, cur, rfl, h2, _⟩
        · exact ⟨none, 0, rfl, Nat.le_refl _⟩
        · exact ⟨_, cap, rfl, h2⟩
      obtain ⟨ad, cap, rfl, hc⟩ := hform
      subst hbd
      exact ⟨_, w, run_append_none w hu hf hc, by simpa using hs'⟩
    · have hb2 := hha h0
      rw [hbd, hb2]
      have hcells : ∀ j q, ys[j]? = some q → w.cell? ((adr u).add j) = some q := fun j q hj => (rd.cell hj).out w hs'
      rw [hbd, hb2] at hcells
      obtain ⟨v', w', hr, h2, h3, h4, h5⟩ := run_append_own_at (P := P) w 0 t ty e f z size bytes hu hf hz hs hb hzs hsz v m xs hs'.ownsRow _ c cap' ys rd.len hcells h1 hlim2 hlim (Nat.zero_le _)
      refine ⟨v', w', hr, hs'.ofGrown h3 h2 ?_⟩
      rcases h5 with h5 | h5
      · cases hq : v'.ownBlock with
        | some q => exact .inr ⟨q, rfl, .inl (by rw [← h5, hq])⟩
        | none =>
          left
          rcases h2.2 with ⟨rfl, _⟩ | ⟨g, cap, cur, rfl, _⟩
          · rfl
          · simp [Value.ownBlock] at hq
      · exact .inr ⟨_, h5, .inr (Nat.le_refl _)⟩
  refine ⟨fun a w he hs' => ?_⟩
  refine wpList_plain rfl fun K' hK => ?_
  obtain ⟨v', w', hrun, hs2⟩ := key w hs'
  unfold Oper.wp
  have e1 : (execOp a.eval { dst := some d, op := .call { callee := .builtin .append, args := #[x, y], argTypes := #[t, t] }, type := ty, pos := ps, after := af, guard := none }).run P w = .ok (.value v') w' := by
    simp [execOp, resolve, invoke, builtin, he.eval hx, he.eval hy, hrun]
  rw [e1]
  exact hK _ _ ((r v' hs2.ownRd).out _ _ (he.put (Nat.le_of_ble_eq_true hd) _) hs2)
theorem RunL.make {d : Nat} {t e : TypeId} {x y : Operand} {m size bytes : Nat} {z : Value} {q q' : IntKind} (hu : P.underlying t = some (.slice e)) (hi : TyI P e z size bytes)
    (hx : ev E x = some (.int q m)) (hy : ev E y = some (.int q' m)) (hlim : bytes * m ≤ 281474976710656) (hlim2 : m ≤ maxLen) (hd : Nat.blt d n = true)
    (r : ∀ v', Rd w0 (A * own e size v' m (madeCells z.cells (m * size)).toList) v' size m (madeCells z.cells (m * size)).toList → RunL P n w0 ops l K ((d, v') :: E) (A * own e size v' m (madeCells z.cells (m * size)).toList)) :
    RunL P n w0 ops ({ dst := some d, op := .makeSlice t x y, type := ty, pos := ps, after := af, guard := none } :: l) K E A := by
  obtain ⟨f, hf, hz, hs, hb⟩ := hi.get
  subst hs hb
  refine RunL.val (X := Nat) (fun b => .slice (some ⟨b, 0, none⟩) m m) (fun b => A * own e f.size (.slice (some ⟨b, 0, none⟩) m m) m (madeCells z.cells (m * f.size)).toList) hd (fun a w he hs' => ?_) (fun b => r _ ?_)
  · have hb3 : (f.bytes : Int) * (m : Int) ≤ 281474976710656 := by
      rw [← Int.natCast_mul]
      omega
    have hr := run_make (P := P) w t e f z hu hf hz q q' m m (by omega) (Int.le_refl _) hb3 (by simp only [maxLen] at hlim2; omega)
    simp only [Int.toNat_natCast] at hr
    refine ⟨w.heap.size, _, ?_, (hs'.alloc (.cells (madeCells z.cells (m * f.size)) e)).entr (own_of_pts (by simp [size_madeCells]) (Nat.le_refl _) hlim2 (size_madeCells _ _) ?_)⟩
    · simp [execOp, he.eval hx, he.eval hy, hr]
    · rw [List.take_of_length_le (by simp [size_madeCells])]
  · exact Rd.own (by simp [size_madeCells]) hlim2 ⟨_, m, rfl, Nat.le_refl _, fun _ => ⟨b, rfl⟩⟩
theorem RunL.cutOwn {d : Nat} {t e : TypeId} {x : Operand} {hi : Operand} {v z : Value} {size m j bytes : Nat} {xs : List Value} {A1 : Asn} {q : IntKind} (hu : P.underlying t = some (.slice e)) (hz : TyI P e z size bytes) (hx : ev E x = some v) (hhi : ev E hi = some (.int q j))
    (hA : A = A1 * own e size v m xs) (h2 : j ≤ m) (hd : Nat.blt d n = true)
    (r : ∀ v', Rd w0 (A1 * own e size v' j (xs.take (j * size))) v' size j (xs.take (j * size)) → RunL P n w0 ops l K ((d, v') :: E) (A1 * own e size v' j (xs.take (j * size)))) :
    RunL P n w0 ops ({ dst := some d, op := .slice t x none (some hi) none, type := ty, pos := ps, after := af, guard := none } :: l) K E A := by
  subst hA
  obtain ⟨f, hf, hfz, hs, hb⟩ := hz.get
  refine ⟨fun a w he hs' => ?_⟩
  refine wpList_plain rfl fun K' hK => ?_
  have hform : ∃ ad cap, v = .slice ad m cap ∧ m ≤ cap := by
    rcases hs'.ownForm with ⟨rfl, rfl, _⟩ | ⟨g, cap, cur, rfl, h2, _⟩
    · exact ⟨none, 0, rfl, Nat.le_refl _⟩
    · exact ⟨_, cap, rfl, h2⟩
  obtain ⟨ad, cap, hv, hc⟩ := hform
  have h3 : j ≤ cap := by omega
  have hs2 : Sat w0 w (A1 * own e size (.slice ad j cap) j (xs.take (j * size))) := by
    have hl := hs'.ownLen.1
    have e2 : j * size ≤ m * size := Nat.mul_le_mul_right _ h2
    rcases hs'.ownForm with ⟨h, rfl, rfl, s⟩ | ⟨g, cap', cur, h, g2, g3, g4, g5, s⟩
    · rw [hv] at h
      simp only [Value.slice.injEq] at h
      obtain ⟨rfl, _, rfl⟩ := h
      obtain rfl : j = 0 := by omega
      simpa using s.ownNil e size
    · rw [hv] at h
      simp only [Value.slice.injEq, true_and] at h
      obtain ⟨rfl, rfl⟩ := h
      refine s.entr (own_of_pts (by rw [List.length_take]; omega) h3 g3 g4 ?_)
      rw [← g5, List.take_take, Nat.min_eq_left e2]
  have e1 : (execOp a.eval { dst := some d, op := .slice t x none (some hi) none, type := ty, pos := ps, after := af, guard := none }).run P w = .ok (.value (.slice ad j cap)) w := by
    simp [execOp, he.eval hx, hv, he.eval hhi, Instr.sliceAt, Instr.slice, Instr.sliceBounds, Instr.sliceBound, asIntOf, underlying, hu, h3, sizeOf, typeInfo, hf]
    intro _
    cases ad <;> simp [Addr.add]
  unfold Oper.wp
  rw [e1]
  exact hK _ _ ((r _ hs2.ownRd).out _ _ (he.put (Nat.le_of_ble_eq_true hd) _) hs2)
theorem OpOk.cutNil {t e : TypeId} {x hi : Operand} {z : Value} {size bytes : Nat} {q : IntKind} (hu : P.underlying t = some (.slice e)) (hz : TyI P e z size bytes) (hx : ev E x = some (.slice none 0 0)) (hhi : ev E hi = some (.int q ((0 : Nat) : Int))) :
    OpOk P n w0 (.slice t x none (some hi) none) ty E A (.slice none 0 0) :=
  .pure fun a w _ _ _ _ he => by
    obtain ⟨f, hf, _⟩ := hz.get
    simp [execOp, he.eval hx, he.eval hhi, Instr.sliceAt, Instr.slice, Instr.sliceBounds, Instr.sliceBound, asIntOf, underlying, hu, sizeOf, typeInfo, hf]
/-- append(nil, make([]T, m)...): new room. -/
theorem RunL.appendMake {d : Nat} {t u e : TypeId} {x y : Operand} {m bytes : Nat} {z : Value} {ats : Array TypeId} {q q2 : IntKind} (hu : P.underlying t = some (.slice e)) (hi : TyI P e z 1 bytes) (hw : P.underlying u = some (.int q2)) (hats : ats = #[t, u]) (hx : ev E x = some (.slice none 0 0))
    (hy : ev E y = some (.int q m)) (hzs : z.cells.size = 1) (h0 : 0 < m) (hlim : m * bytes ≤ 140737488355328) (hlim2 : m ≤ maxLen) (hd : Nat.blt d n = true)
    (r : ∀ v', Rd w0 (A * own e 1 v' m (Builtin.zeroCells z.cells m).toList) v' 1 m (Builtin.zeroCells z.cells m).toList → RunL P n w0 ops l K ((d, v') :: E) (A * own e 1 v' m (Builtin.zeroCells z.cells m).toList)) :
    RunL P n w0 ops ({ dst := some d, op := .call { callee := .builtin .append, args := #[x, y], argTypes := ats }, type := ty, pos := ps, after := af, guard := none } :: l) K E A := by
  subst hats
  obtain ⟨f, hf, hz, hs, hb⟩ := hi.get
  subst hb
  refine ⟨fun a w he hs' => ?_⟩
  refine wpList_plain rfl fun K' hK => ?_
  have hm63 : (m : Int) ≤ 9223372036854775807 := by simp only [maxLen] at hlim2; omega
  have hwrap : IntKind.i64.wrap (m : Int) = m := wrapI (by omega) hm63
  have hge := grownCap_ge w m 0 e
  have hcm := grownCap_le_maxLen w m 0 e hlim2
  have hrun : (Builtin.append_ #[t, u] ty #[.slice none 0 0, .int q m]).run P w = .ok (.slice (some ⟨w.heap.size, 0, none⟩) m (grownCap w m 0 e))
      (w.drew.alloc (.cells ((Builtin.zeroCells z.cells m) ++ Builtin.zeroCells z.cells (grownCap w m 0 e - m)) e)) := by
    have n1 : ¬ (281474976710656 < (m : Int) * (f.bytes : Int)) := by
      have : ((m * f.bytes : Nat) : Int) ≤ 140737488355328 := by omega
      rw [Int.natCast_mul] at this
      omega
    have n2 : ¬ 281474976710656 < Builtin.nextslicecap m 0 * f.bytes := by
      have := growslice_fits (need := m) (old := 0) (bytes := f.bytes) (by omega) hlim
      omega
    have n3 : ¬ (m : Int) < 0 := by omega
    have n4 : ¬ m = 0 := by omega
    have n5 : ¬ m ≤ 0 := by omega
    have n6 : ¬ (9223372036854775807 < (m : Int)) := by omega
    simp [Builtin.append_, run_underlying hu, run_underlying hw, sizeOf, typeInfo, zeroValue, hf, hz, hs, asInt, asIntOf, hwrap, n1, n2, n3, n4, n6, Question.forced, run_firstCells_none, newRow, grownCap]
  have hs2 : Sat w0 (w.drew.alloc (.cells ((Builtin.zeroCells z.cells m) ++ Builtin.zeroCells z.cells (grownCap w m 0 e - m)) e)) (A * own e 1 (.slice (some ⟨w.heap.size, 0, none⟩) m (grownCap w m 0 e)) m (Builtin.zeroCells z.cells m).toList) := by
    refine (hs'.drew.alloc _).entr (own_of_pts ?_ hge hcm ?_ ?_)
    · simp [size_zeroCells, hzs]
    · simp [size_zeroCells, hzs]
      omega
    · simp only [Array.toList_append]
      rw [List.take_left']
      simp [size_zeroCells, hzs]
  have e1 : (execOp a.eval { dst := some d, op := .call { callee := .builtin .append, args := #[x, y], argTypes := #[t, u] }, type := ty, pos := ps, after := af, guard := none }).run P w = .ok (.value (.slice (some ⟨w.heap.size, 0, none⟩) m (grownCap w m 0 e))) (w.drew.alloc (.cells ((Builtin.zeroCells z.cells m) ++ Builtin.zeroCells z.cells (grownCap w m 0 e - m)) e)) := by
    simp [execOp, resolve, invoke, builtin, he.eval hx, he.eval hy, hrun]
  unfold Oper.wp
  rw [e1]
  exact hK _ _ ((r _ hs2.ownRd).out _ _ (he.put (Nat.le_of_ble_eq_true hd) _) hs2)
/-- []byte("constant"): from here on it is only read. -/
theorem RunL.mark {d : Nat} {t e : TypeId} {x : Operand} {v : Value} {m : Nat} {xs : List Value} {A1 : Asn} (hu : P.underlying t = some (.slice e)) (he8 : P.underlying e = some (.int .u8)) (hx : ev E x = some v) (hA : A = A1 * own e 1 v m xs) (h0 : 0 < m) (hd : Nat.blt d n = true)
    (r : ∀ C, Rd w0 (A1 * C) v 1 m xs → RunL P n w0 ops l K ((d, v) :: E) (A1 * C)) :
    RunL P n w0 ops ({ dst := some d, op := .convert t t x, type := ty, pos := ps, after := af, guard := none } :: l) K E A := by
  subst hA
  refine ⟨fun a w he hs' => ?_⟩
  refine wpList_plain rfl fun K' hK => ?_
  have hl := hs'.ownLen
  rcases hs'.ownForm with ⟨_, h, _⟩ | ⟨g, cap, cur, rfl, g2, g3, g4, g5, s⟩
  · omega
  · have e1 : (execOp a.eval { dst := some d, op := .convert t t x, type := ty, pos := ps, after := af, guard := none }).run P w = .ok (.value (.slice (some ⟨g, 0, none⟩) m cap)) (w.freeze ⟨g, cur.size, none⟩ 1) := by
      have hsh : w.shape? g = some (e, cur.size) := by simp [World.shape?, s.get]
      simp [execOp, he.eval hx, convert, underlying, hu, he8, markStringish, hsh]
    unfold Oper.wp
    rw [e1]
    have hs2 : Sat w0 (w.freeze ⟨g, cur.size, none⟩ 1) (A1 * pts g (.cells cur e (cur.size, cur.size + 1))) := by
      refine s.upd rfl rfl rfl ?_ (fun k hk _ => ?_) ?_
      · simp [World.freeze]
      · simp only [World.freeze, Nat.succ_ne_self, if_false, Array.getElem?_modify]
        rw [if_neg (fun e => hk e.symm)]
      · simp only [World.freeze]
        rw [if_neg (fun e => Nat.one_ne_zero e)]
        simp [Array.getElem?_modify, s.get]
    refine hK _ _ ((r _ ?_).out _ _ (he.put (Nat.le_of_ble_eq_true hd) _) hs2)
    refine ⟨hl.1, hl.2, _, cap, rfl, g2, fun _ => ⟨_, rfl, fun j u hj => ?_⟩⟩
    have hlt := (List.getElem?_eq_some_iff.1 hj).1
    have ha : (⟨g, 0, none⟩ : Addr).add j = ⟨g, j, none⟩ := by unfold Addr.add; split <;> simp_all
    rw [ha]
    refine Cell.pts ?_
    rw [← g5, List.getElem?_take] at hj
    split at hj
    · simpa using hj
    · cases hj
/-! ### Calls -/
structure Callee (P : Program) (f : FuncId) : Prop where
  is : ∃ fn, P.funcs[f]? = some fn ∧ (fn.name == "runtime.NumGoroutine") = false ∧ fn.body.isNone = false
theorem RunL.call {d : Nat} {f : FuncId} {args : List Operand} {ats : Array TypeId} {vs : List Value} {R' : Value → Asn → Prop} (hc : Callee P f) (hv : evs E args = some vs) (sp : Spec P w0 f vs A R') (hd : Nat.blt d n = true)
    (r : ∀ v A', R' v A' → RunL P n w0 ops l K ((d, v) :: E) A') :
    RunL P n w0 ops ({ dst := some d, op := .call { callee := .value (.func f), args := args.toArray, argTypes := ats }, type := ty, pos := ps, after := af, guard := none } :: l) K E A := by
  refine ⟨fun a w he hs => ?_⟩
  refine wpList_plain rfl fun K' hK => ?_
  unfold Oper.wp
  obtain ⟨fn, h1, h2, h3⟩ := hc.is
  have e1 : (execOp a.eval { dst := some d, op := .call { callee := .value (.func f), args := args.toArray, argTypes := ats }, type := ty, pos := ps, after := af, guard := none }).run P w = .ok (.enter f vs.toArray) w := by
    have e2 : args.toArray.map a.eval = vs.toArray := by
      apply Array.toList_inj.1
      simpa using he.evals hv
    have e3 : a.eval (.func f) = .func (.func f) #[] #[] := rfl
    simp only [execOp, resolve, e3, Deferred.ofValue, invoke, callFunc, Sem.run_bind, Sem.run_pure, run_program, Result.andThen_ok, h1, h2, h3, Bool.false_eq_true, if_false, e2, Array.empty_append, Array.append_empty]
  rw [e1]
  refine (sp.out w hs).mono fun e w' hp => ?_
  obtain ⟨v, A', hR, rfl, hs'⟩ := hp
  exact hK _ _ ((r v A' hR).out _ _ (he.put (Nat.le_of_ble_eq_true hd) _) hs')
end
end Go.Proofs.Yteopadjihklkmaa
end

section
namespace Go.Proofs.Yteopadjihklkmaa
open Go
set_option linter.unusedSimpArgs false
set_option linter.unusedVariables false
/-- The operations that must come ahead of this one. -/
def aft (o : Oper) : List Nat := (o.after.toList.filter fun e => Region.binds .any e).map (·.on)
/-- Which operations must come ahead, as bits. -/
def mask (acc : List Nat) (o : Oper) : Nat := (aft o).foldl (fun s j => s ||| (1 <<< j) ||| acc.getD j 0) 0
def befs : List Oper → List Nat → List Nat
  | [], acc => acc
  | o :: r, acc => befs r (acc ++ [mask acc o])
/-- Must operation c come ahead of operation i? -/
def reach (ms : List Nat) (c i : Nat) : Bool := (ms.getD i 0).testBit c
def ordered : Nat → List Oper → Bool
  | _, [] => true
  | i, o :: r => (aft o).all (fun j => Nat.blt j i) && ordered (i + 1) r
def pairs (ms : List Nat) : List Nat → Bool
  | [] => true
  | t :: r => r.all (fun u => !Nat.beq t u && reach ms t u) && pairs ms r
def has (l : List Nat) (i : Nat) : Bool := l.any (Nat.beq i)
def eqD (a : Option Nat) (d : Nat) : Bool := match a with | some x => Nat.beq x d | none => false
/-- The region's shape, to be looked at by the kernel. -/
def chk (ops : List Oper) (tail : List Nat) (keys : List Nat) (n : Nat) : Bool :=
  let ms := befs ops []
  ordered 0 ops && (List.range ops.length).all (fun i => has tail i || match (ops[i]?).bind (·.dst) with
    | none => true
    | some d => Nat.blt d n && !has keys d && (List.range ops.length).all fun j => Nat.beq i j || has tail j || !eqD ((ops[j]?).bind (·.dst)) d) &&
  tail.all (fun t => Nat.blt t ops.length && (List.range ops.length).all fun i => has tail i || reach ms i t) && pairs ms tail
def vof : List (Nat × Value) → Nat → Option Value
  | [], _ => none
  | (i, v) :: r, t => bif Nat.beq i t then some v else vof r t
/-- What an operation may lean on: the slots of those that must come ahead of it. -/
def depE (ops : Array Oper) (known : List (Nat × Value)) (o : Oper) : Env :=
  (aft o).filterMap fun j => match (ops[j]?).bind (·.dst), vof known j with
    | some d, some v => some (d, v)
    | _, _ => none
def allE (ops : Array Oper) (known : List (Nat × Value)) : Env :=
  known.filterMap fun p => match (ops[p.1]?).bind (·.dst), vof known p.1 with
    | some d, some v => some (d, v)
    | _, _ => none
section
variable (P : Program) (n : Nat) (w0 : World) (ops : Array Oper) (tail : List Nat) (E : Env) (A : Asn)
/-- The operation yields v, whatever else there is, and changes nothing. -/
structure QOp (o : Oper) (E : Env) (B : Asn) (v : Value) : Prop where
  out : ∀ a w X K Q, Ev n a E → Sat w0 w (B * X) → (∀ w', Sat w0 w' (B * X) → K (a.put o.dst v) w') → o.wp P a w K Q
structure COp (o : Oper) (E : Env) (B : Asn) (R : Value → Asn → Asn → Prop) : Prop where
  out : ∀ a w K Q, Ev n a E → Sat w0 w B → (∀ v P' L' w', R v P' L' → Sat w0 w' (A * P' * L') → K (a.put o.dst v) w') → o.wp P a w K Q
def gv : Value → Bool → Bool
  | .bool b, w => b == w
  | _, _ => false
/-- Is the operation's guard met? -/
def met (ops : Array Oper) (known : List (Nat × Value)) (o : Oper) : Option Bool :=
  match o.guard with
  | none => some true
  | some (j, want) => if (aft o).any (Nat.beq j) then
      match (ops[j]?).bind (·.dst), vof known j with
      | some _, some v => some (gv v want)
      | _, _ => none
    else none
inductive St (K : Act → World → Prop) : List (Nat × Value) → Asn → Asn → Prop
  | quiet {known : List (Nat × Value)} {Pk L : Asn} (i : Nat) (o : Oper) (v : Value) (hi : ops[i]? = some o) (hn : vof known i = none) (hm : met ops known o = some true) (ht : has tail i = false)
      (h : QOp P n w0 o (depE ops known o ++ E) (A * Pk) v) (k : St K ((i, v) :: known) Pk L) : St K known Pk L
  | skip {known : List (Nat × Value)} {Pk L : Asn} (i : Nat) (o : Oper) (hi : ops[i]? = some o) (hn : vof known i = none) (hm : met ops known o = some false) (ht : has tail i = false)
      (k : St K ((i, undef) :: known) Pk L) : St K known Pk L
  | chains {known : List (Nat × Value)} {Pk L : Asn} (cs : List Nat) (o : Nat → Oper) (R : Nat → Value → Asn → Asn → Prop) (hne : cs ≠ [])
      (hi : ∀ c ∈ cs, ops[c]? = some (o c) ∧ vof known c = none ∧ met ops known (o c) = some true ∧ has tail c = false)
      (hrest : (List.range ops.size).all (fun i => (vof known i).isSome || has cs i || cs.any fun c => reach (befs ops.toList []) c i) = true)
      (h : ∀ c ∈ cs, COp P n w0 A (o c) (depE ops known (o c) ++ E) (A * Pk * L) (R c)) (k : ∀ c, c ∈ cs → ∀ v P' L', R c v P' L' → St K ((c, v) :: known) P' L') (hP : ∀ c ∈ cs, ∀ v P' L', R c v P' L' → ∃ N, P' = Pk * N) : St K known Pk L
  | tail {known : List (Nat × Value)} {Pk L : Asn}
      (hall : (List.range ops.size).all (fun i => (vof known i).isSome || has tail i) = true)
      (h : RunL P n w0 ops (tail.filterMap fun i => ops[i]?) K (allE ops known ++ E) (A * Pk * L)) : St K known Pk L
end
/-! ### That this covers every order -/
theorem vof_cons_ne {i t : Nat} {v : Value} {r : List (Nat × Value)} (h : i ≠ t) : vof ((i, v) :: r) t = vof r t := by
  have : Nat.beq i t = false := by
    cases hq : Nat.beq i t with
    | false => rfl
    | true => exact absurd (Nat.eq_of_beq_eq_true hq) h
  simp [vof, this]
theorem vof_cons_eq {i : Nat} {v : Value} {r : List (Nat × Value)} : vof ((i, v) :: r) i = some v := by simp [vof]
theorem vof_mono {i j : Nat} {v u : Value} {r : List (Nat × Value)} (hn : vof r i = none) (h : vof r j = some u) : vof ((i, v) :: r) j = some u := by
  by_cases e : i = j
  · subst e
    rw [hn] at h
    cases h
  · rw [vof_cons_ne e, h]
theorem any_beq {l : List Nat} {i : Nat} : l.any (Nat.beq i) = true ↔ i ∈ l := by
  rw [List.any_eq_true]
  constructor
  · rintro ⟨x, hx, h⟩
    rw [Nat.eq_of_beq_eq_true h]
    exact hx
  · intro h
    exact ⟨i, h, by simp⟩
def lis (listed : Array Bool) (i : Nat) : Prop := listed[i]? = some true
inductive Ok (ops : Array Oper) : Nat → Array Bool → List Nat → Prop
  | zero (listed : Array Bool) : Ok ops 0 listed []
  | stop (f : Nat) (listed : Array Bool) (h : ∀ (i : Nat) (o : Oper), listed[i]? = some false → ops[i]? = some o → ∃ j ∈ aft o, ¬ lis listed j) : Ok ops f listed []
  | step (f i : Nat) (o : Oper) (listed : Array Bool) (l : List Nat) (hi : listed[i]? = some false) (ho : ops[i]? = some o) (hr : ∀ j ∈ aft o, lis listed j) (k : Ok ops f (listed.setIfInBounds i true) l) : Ok ops (f + 1) listed (i :: l)
theorem lin_ok (ops : Array Oper) : ∀ (f t : Nat) (listed : Array Bool) (acc : List Nat), listed.size = ops.size → ∃ l, Region.linearise.go .any ops f t listed acc = acc.reverse ++ l ∧ Ok ops f listed l
  | 0, t, listed, acc, _ => ⟨[], by simp [Region.linearise.go], .zero _⟩
  | f + 1, t, listed, acc, hs => by
    have hrd : ∀ i, i ∈ ((List.range ops.size).filter fun i => !listed.getD i true && ((ops[i]?).map (·.after.all fun e => !Region.binds .any e || listed.getD e.on false)).getD false) ↔ listed[i]? = some false ∧ ∃ o, ops[i]? = some o ∧ ∀ j ∈ aft o, lis listed j := by
      intro i
      have hb : ∀ o : Oper, (o.after.all fun e => !Region.binds .any e || listed.getD e.on false) = true ↔ ∀ j ∈ aft o, lis listed j := by
        intro o
        simp only [Array.all_eq_true', aft, List.mem_map, List.mem_filter, Array.mem_toList_iff, lis]
        constructor
        · rintro h j ⟨e, ⟨he, hb⟩, rfl⟩
          have := h e he
          rw [hb] at this
          simp only [Bool.not_true, Bool.false_or, Array.getD_eq_getD_getElem?] at this
          cases hq : listed[e.on]? with
          | none => rw [hq] at this; cases this
          | some b => rw [hq] at this; simp at this; rw [this]
        · intro h e he
          by_cases hb : Region.binds .any e = true
          · have := h e.on ⟨e, ⟨he, hb⟩, rfl⟩
            simp [Array.getD_eq_getD_getElem?, this]
          · simp [hb]
      simp only [List.mem_filter, List.mem_range, Bool.and_eq_true, Bool.not_eq_true']
      constructor
      · rintro ⟨h1, h2, h3⟩
        have hlt : i < listed.size := by omega
        refine ⟨?_, ops[i], by simp [h1], ?_⟩
        · rw [Array.getD_eq_getD_getElem?] at h2
          simp only [Array.getElem?_eq_getElem hlt] at h2 ⊢
          simpa using h2
        · rw [← hb]
          simpa [h1] using h3
      · rintro ⟨h1, o, h2, h3⟩
        have hlt := (Array.getElem?_eq_some_iff.1 h2).1
        refine ⟨hlt, by simp [Array.getD_eq_getD_getElem?, h1], ?_⟩
        rw [h2]
        simpa using (hb o).2 h3
    unfold Region.linearise.go
    simp only
    generalize hrs : ((List.range ops.size).filter fun i => !listed.getD i true && ((ops[i]?).map (·.after.all fun e => !Region.binds .any e || listed.getD e.on false)).getD false) = rs at hrd ⊢
    cases hq : rs[t % rs.length]? with
    | none =>
      refine ⟨[], by simp, .stop _ _ fun i o h1 h2 => ?_⟩
      have hemp : rs = [] := by
        cases rs with
        | nil => rfl
        | cons x r =>
          exfalso
          have : t % (x :: r).length < (x :: r).length := Nat.mod_lt _ (by simp)
          rw [List.getElem?_eq_getElem this] at hq
          cases hq
      have := hrd i
      rw [hemp] at this
      simp only [List.not_mem_nil, false_iff, not_and, not_exists] at this
      have h3 := this h1 o h2
      simpa using h3
    | some i =>
      obtain ⟨l, hl, hok⟩ := lin_ok ops f (t / rs.length) (listed.setIfInBounds i true) (i :: acc) (by simpa using hs)
      obtain ⟨h1, o, h2, h3⟩ := (hrd i).1 (List.mem_of_getElem? hq)
      exact ⟨i :: l, by simp only [hl]; simp, .step f i o listed l h1 h2 h3 hok⟩
theorem has_iff {l : List Nat} {i : Nat} : has l i = true ↔ i ∈ l := any_beq
theorem testBit_or_one {s j c : Nat} : (s ||| (1 <<< j)).testBit c = true → s.testBit c = true ∨ j = c := by
  rw [Nat.testBit_or, Bool.or_eq_true]
  rintro (h | h)
  · exact .inl h
  · right
    rw [Nat.shiftLeft_eq, Nat.one_mul, Nat.testBit_two_pow] at h
    simpa using h
theorem mask_bit {acc : List Nat} {o : Oper} {c : Nat} (h : (mask acc o).testBit c = true) : ∃ j ∈ aft o, j = c ∨ (acc.getD j 0).testBit c = true := by
  have key : ∀ (l : List Nat) (s : Nat), (l.foldl (fun s j => s ||| (1 <<< j) ||| acc.getD j 0) s).testBit c = true → s.testBit c = true ∨ ∃ j ∈ l, j = c ∨ (acc.getD j 0).testBit c = true := by
    intro l
    induction l with
    | nil => intro s h; exact .inl h
    | cons j r ih =>
      intro s h
      simp only [List.foldl_cons] at h
      rcases ih _ h with h | ⟨q, hq, h⟩
      · rw [Nat.testBit_or, Bool.or_eq_true] at h
        rcases h with h | h
        · rcases testBit_or_one h with h | h
          · exact .inl h
          · exact .inr ⟨j, by simp, .inl h⟩
        · exact .inr ⟨j, by simp, .inr h⟩
      · exact .inr ⟨q, by simp [hq], h⟩
  rcases key _ 0 h with h | h
  · simp at h
  · exact h
theorem befs_bit (all : List Oper) : ∀ (l : List Oper) (acc : List Nat), all = all.take acc.length ++ l → acc.length ≤ all.length →
    (∀ (i m : Nat), acc[i]? = some m → ∃ o, all[i]? = some o ∧ ∀ c, m.testBit c = true → ∃ j ∈ aft o, j = c ∨ (acc.getD j 0).testBit c = true) →
    ∀ (i m : Nat), (befs l acc)[i]? = some m → ∃ o, all[i]? = some o ∧ ∀ c, m.testBit c = true → ∃ j ∈ aft o, j = c ∨ ((befs l acc).getD j 0).testBit c = true
  | [], acc, _, _, h => h
  | o :: r, acc, hall, hlen, h => by
    unfold befs
    have hget : all[acc.length]? = some o := by
      rw [hall]
      rw [List.getElem?_append_right (by rw [List.length_take]; omega)]
      simp [Nat.min_eq_left hlen]
    have hlt := (List.getElem?_eq_some_iff.1 hget).1
    refine befs_bit all r (acc ++ [mask acc o]) ?_ (by simp; omega) ?_
    · rw [List.length_append, List.length_singleton, List.take_add_one, hget]
      simpa using hall
    · have hup : ∀ j c, (acc.getD j 0).testBit c = true → ((acc ++ [mask acc o]).getD j 0).testBit c = true := by
        intro j c hc
        rw [List.getD_eq_getElem?_getD] at *
        cases hq : acc[j]? with
        | none => rw [hq] at hc; simp at hc
        | some m =>
          have hj := (List.getElem?_eq_some_iff.1 hq).1
          rw [hq] at hc
          rw [List.getElem?_append_left hj, hq]
          exact hc
      intro i m hi
      by_cases e : i < acc.length
      · rw [List.getElem?_append_left e] at hi
        obtain ⟨p, hp, hb⟩ := h i m hi
        refine ⟨p, hp, fun c hc => ?_⟩
        obtain ⟨j, hj, hd⟩ := hb c hc
        exact ⟨j, hj, hd.imp id (hup j c)⟩
      · have e2 : i = acc.length := by
          have := (List.getElem?_eq_some_iff.1 hi).1
          simp at this
          omega
        subst e2
        rw [List.getElem?_append_right (Nat.le_refl _)] at hi
        simp at hi
        subst hi
        refine ⟨o, hget, fun c hc => ?_⟩
        obtain ⟨j, hj, hd⟩ := mask_bit hc
        exact ⟨j, hj, hd.imp id (hup j c)⟩
theorem ordered_lt : ∀ (l : List Oper) (i : Nat), ordered i l = true → ∀ (k : Nat) (o : Oper), l[k]? = some o → ∀ j ∈ aft o, j < i + k
  | [], _, _, k, o, h => by simp at h
  | o :: r, i, h, k, p, hk => by
    simp only [ordered, Bool.and_eq_true, List.all_eq_true] at h
    intro j hj
    cases k with
    | zero =>
      simp at hk
      subst hk
      have := Nat.le_of_ble_eq_true (h.1 j hj)
      omega
    | succ k =>
      have := ordered_lt r (i + 1) h.2 k p (by simpa using hk) j hj
      omega
/-- What must come ahead is listed. -/
theorem reach_listed {ops : Array Oper} (hord : ordered 0 ops.toList = true) {listed : Array Bool} (hcl : ∀ (i : Nat) (o : Oper), lis listed i → ops[i]? = some o → ∀ j ∈ aft o, lis listed j) :
    ∀ (i : Nat) (o : Oper), ops[i]? = some o → (∀ j ∈ aft o, lis listed j) → ∀ c, reach (befs ops.toList []) c i = true → lis listed c := by
  intro i
  induction i using Nat.strongRecOn with
  | _ i ih =>
    intro o ho hl c hc
    unfold reach at hc
    rw [List.getD_eq_getElem?_getD] at hc
    cases hq : (befs ops.toList [])[i]? with
    | none => rw [hq] at hc; simp at hc
    | some m =>
      rw [hq] at hc
      obtain ⟨p, hp, hb⟩ := befs_bit ops.toList ops.toList [] (by simp) (by simp) (by simp) i m hq
      have hp2 : ops[i]? = some p := by simpa using hp
      rw [ho] at hp2
      obtain rfl := Option.some.inj hp2
      obtain ⟨j, hj, hd⟩ := hb c hc
      rcases hd with rfl | hd
      · exact hl j hj
      · have hlt := ordered_lt ops.toList 0 hord i o (by simpa using ho) j hj
        have hjl := hl j hj
        have hjs : ∃ q, ops[j]? = some q := ⟨_, Array.getElem?_eq_getElem (Nat.lt_trans (by omega : j < i) (Array.getElem?_eq_some_iff.1 ho).1)⟩
        obtain ⟨q, hq2⟩ := hjs
        exact ih j (by omega) q hq2 (hcl j q hjl hq2) c hd
theorem count_set : ∀ (l : List Bool) (i : Nat), l[i]? = some false → (l.set i true).count false + 1 = l.count false
  | [], i, h => by simp at h
  | b :: r, 0, h => by
    simp at h
    subst h
    simp
  | b :: r, i + 1, h => by
    have := count_set r i (by simpa using h)
    cases b <;> simp [List.count_cons] <;> omega
theorem wpOps_list {P : Program} {ops : Array Oper} {Q : Exit → Act → World → Prop} : ∀ (l : List Nat) (lo : List Oper), l.map (fun i => ops[i]?) = lo.map some → ∀ a w, wpOps P ops Q l a w = wpList P ops Q lo a w
  | [], [], _, a, w => by simp [wpOps, wpList]
  | [], o :: r, h, a, w => by simp at h
  | i :: l, [], h, a, w => by simp at h
  | i :: l, o :: lo, h, a, w => by
    simp only [List.map_cons, List.cons.injEq] at h
    have ih : wpOps P ops Q l = wpList P ops Q lo := by
      funext a w
      exact wpOps_list l lo h.2 a w
    simp only [wpOps, wpList, h.1, ih]
theorem Ev.app {n : Nat} {a : Act} {E1 E : Env} (h1 : ∀ p ∈ E1, a.tmps.getD p.1 undef = p.2) (h : Ev n a E) : Ev n a (E1 ++ E) := by
  refine ⟨h.defers, h.size, ?_⟩
  induction E1 with
  | nil => exact h.look
  | cons p r ih =>
    obtain ⟨i, u⟩ := p
    intro t v hl
    simp only [List.cons_append, lk] at hl
    cases hq : Nat.beq i t with
    | true =>
      rw [hq] at hl
      simp at hl
      subst hl
      rw [← Nat.eq_of_beq_eq_true hq]
      exact h1 (i, u) (by simp)
    | false =>
      rw [hq] at hl
      exact ih (fun p hp => h1 p (by simp [hp])) t v hl
theorem lk_key : ∀ {E : Env} {t : Nat} {v : Value}, lk E t = some v → t ∈ E.map (·.1)
  | [], t, v, h => by simp [lk] at h
  | (i, u) :: r, t, v, h => by
    simp only [lk] at h
    cases hq : Nat.beq i t with
    | true => simp [← Nat.eq_of_beq_eq_true hq]
    | false =>
      rw [hq] at h
      have := lk_key (E := r) h
      simp only [List.map_cons, List.mem_cons]
      exact .inr this
section sound
variable {P : Program} {n : Nat} {w0 : World} {ops : Array Oper} {tail : List Nat} {E : Env} {A : Asn} {K : Act → World → Prop}
structure Shape (ops : Array Oper) (tail : List Nat) (E : Env) (n : Nat) : Prop where
  ord : ordered 0 ops.toList = true
  dst : ∀ (i : Nat) (o : Oper) (d : Nat), ops[i]? = some o → i ∉ tail → o.dst = some d → d < n ∧ d ∉ E.map (·.1) ∧ ∀ (j : Nat) (p : Oper), ops[j]? = some p → j ∉ tail → p.dst = some d → i = j
  last : ∀ t ∈ tail, t < ops.size ∧ ∀ i, i < ops.size → i ∉ tail → reach (befs ops.toList []) i t = true
  seq : pairs (befs ops.toList []) tail = true
theorem Shape.of_chk {l : List Oper} (h : chk l tail (E.map (·.1)) n = true) : Shape l.toArray tail E n := by
  simp only [chk, Bool.and_eq_true] at h
  obtain ⟨⟨⟨h1, h2⟩, h3⟩, h4⟩ := h
  refine ⟨by simpa using h1, ?_, ?_, by simpa using h4⟩
  · intro i o d ho ht hd
    have hi : i < l.length := by simpa using (Array.getElem?_eq_some_iff.1 ho).1
    have h := List.all_eq_true.1 h2 i (by simpa using hi)
    rw [Bool.or_eq_true] at h
    rcases h with h | h
    · exact absurd (has_iff.1 h) ht
    · have ho2 : l[i]? = some o := by simpa using ho
      rw [ho2, Option.bind_some, hd] at h
      simp only [Bool.and_eq_true, Bool.not_eq_true'] at h
      obtain ⟨⟨a1, a2⟩, a3⟩ := h
      refine ⟨Nat.le_of_ble_eq_true a1, fun hm => ?_, fun j p hp hj hpd => ?_⟩
      · rw [has_iff.2 hm] at a2
        cases a2
      · have hj2 : j < l.length := by simpa using (Array.getElem?_eq_some_iff.1 hp).1
        have h := List.all_eq_true.1 a3 j (by simpa using hj2)
        have hp2 : l[j]? = some p := by simpa using hp
        rw [hp2, Option.bind_some, hpd] at h
        simp only [Bool.or_eq_true, Bool.not_eq_true'] at h
        rcases h with (h | h) | h
        · exact Nat.eq_of_beq_eq_true h
        · exact absurd (has_iff.1 h) hj
        · simp [eqD] at h
  · intro t ht
    have h := List.all_eq_true.1 h3 t ht
    rw [Bool.and_eq_true] at h
    refine ⟨by have := Nat.le_of_ble_eq_true h.1; simp; omega, fun i hi hn => ?_⟩
    have h5 := List.all_eq_true.1 h.2 i (by simpa using hi)
    rw [Bool.or_eq_true] at h5
    rcases h5 with h5 | h5
    · exact absurd (has_iff.1 h5) hn
    · simpa using h5
/-- What is known of an operation that has not run yet. -/
def Pend (P : Program) (n : Nat) (w0 : World) (ops : Array Oper) (E : Env) (A : Asn) (known : List (Nat × Value)) (Pk : Asn) (o : Oper) (v : Value) : Prop :=
  ∃ kn Pk0 N, (∀ j u, vof kn j = some u → vof known j = some u) ∧ Pk = Pk0 * N ∧ ((met ops kn o = some true ∧ QOp P n w0 o (depE ops kn o ++ E) (A * Pk0) v) ∨ (met ops kn o = some false ∧ v = undef))
structure Inv (P : Program) (n : Nat) (w0 : World) (ops : Array Oper) (tail : List Nat) (E : Env) (A : Asn) (known : List (Nat × Value)) (Pk L : Asn) (listed : Array Bool) (a : Act) (w : World) : Prop where
  size : listed.size = ops.size
  ev : Ev n a E
  sat : Sat w0 w (A * Pk * L)
  kn : ∀ i v, vof known i = some v → i ∉ tail ∧ ∃ o, ops[i]? = some o ∧ (lis listed i → ∀ d, o.dst = some d → a.tmps.getD d undef = v) ∧ (¬ lis listed i → Pend P n w0 ops E A known Pk o v)
  li : ∀ i, lis listed i → ∃ v, vof known i = some v
  cl : ∀ (i : Nat) (o : Oper), lis listed i → ops[i]? = some o → ∀ j ∈ aft o, lis listed j
theorem Inv.dep {known : List (Nat × Value)} {Pk L : Asn} {listed : Array Bool} {a : Act} {w : World} (h : Inv P n w0 ops tail E A known Pk L listed a w) {o : Oper} (hr : ∀ j ∈ aft o, lis listed j) {kn : List (Nat × Value)}
    (hk : ∀ j u, vof kn j = some u → vof known j = some u) : Ev n a (depE ops kn o ++ E) := by
  refine Ev.app (fun p hp => ?_) h.ev
  obtain ⟨j, hj, e⟩ := List.mem_filterMap.1 hp
  cases h1 : (ops[j]?).bind (·.dst) with
  | none => simp [h1] at e
  | some d =>
    cases h2 : vof kn j with
    | none => simp [h1, h2] at e
    | some v =>
      simp [h1, h2] at e
      subst e
      obtain ⟨_, q, hq, hs, _⟩ := h.kn j v (hk j v h2)
      rw [hq, Option.bind_some] at h1
      exact hs (hr j hj) d h1
def bv : Value → Option Bool
  | .bool b => some b
  | _ => none
theorem gv_eq (v : Value) (want : Bool) : (bv v == some want) = gv v want := by
  cases v <;> first | rfl | (rename_i b; cases b <;> cases want <;> rfl)
theorem Inv.wants {known : List (Nat × Value)} {Pk L : Asn} {listed : Array Bool} {a : Act} {w : World} (h : Inv P n w0 ops tail E A known Pk L listed a w) {o : Oper} (hr : ∀ j ∈ aft o, lis listed j) {kn : List (Nat × Value)}
    (hk : ∀ j u, vof kn j = some u → vof known j = some u) {b : Bool} (hm : met ops kn o = some b) : Region.wanted o (yielded ops a.tmps) = b := by
  unfold Go.Proofs.Yteopadjihklkmaa.met at hm
  unfold Region.wanted
  cases hg : o.guard with
  | none =>
    rw [hg] at hm
    simpa using hm
  | some g =>
    obtain ⟨j, want⟩ := g
    rw [hg] at hm
    simp only at hm ⊢
    split at hm
    · rename_i hj
      have hj := any_beq.1 hj
      cases h1 : (ops[j]?).bind (·.dst) with
      | none => simp [h1] at hm
      | some d =>
        cases h2 : vof kn j with
        | none => simp [h1, h2] at hm
        | some v =>
          obtain ⟨_, q, hq, hs, _⟩ := h.kn j v (hk j v h2)
          have h1' := h1
          rw [hq, Option.bind_some] at h1'
          have hslot := hs (hr j hj) d h1'
          have hsome : a.tmps[d]? = some v ∨ (a.tmps[d]? = none ∧ v = undef) := by
            rw [Array.getD_eq_getD_getElem?] at hslot
            cases hz : a.tmps[d]? with
            | none => rw [hz] at hslot; exact .inr ⟨rfl, hslot.symm⟩
            | some u => rw [hz] at hslot; exact .inl (by rw [← hslot]; rfl)
          have hy : yielded ops a.tmps j = bv v := by
            unfold yielded
            rw [h1]
            rcases hsome with hz | ⟨hz, rfl⟩
            · simp only [Option.bind_some, hz]
              cases v <;> rfl
            · simp only [Option.bind_some, hz]
              rfl
          rw [hy, gv_eq]
          rw [h1, h2] at hm
          simpa using hm
    · cases hm
/-- Behind one operation. -/
theorem Inv.next (sh : Shape ops tail E n) {known known' : List (Nat × Value)} {Pk L Pk' L' : Asn} {listed : Array Bool} {a : Act} {w w' : World} (h : Inv P n w0 ops tail E A known Pk L listed a w) {i : Nat} {o : Oper} {v : Value}
    (hi : listed[i]? = some false) (ho : ops[i]? = some o) (hr : ∀ j ∈ aft o, lis listed j) (ht : i ∉ tail) (hv : vof known' i = some v) (hsub : ∀ j u, vof known j = some u → vof known' j = some u) (hback : ∀ j u, vof known' j = some u → j = i ∨ vof known j = some u)
    (hP : ∃ N, Pk' = Pk * N) (hs : Sat w0 w' (A * Pk' * L')) : Inv P n w0 ops tail E A known' Pk' L' (listed.setIfInBounds i true) (a.put o.dst v) w' := by
  have hlt := (Array.getElem?_eq_some_iff.1 hi).1
  have hlis : ∀ j, lis (listed.setIfInBounds i true) j ↔ j = i ∨ lis listed j := by
    intro j
    unfold lis
    by_cases e : i = j
    · subst e
      simp [hlt]
    · rw [Array.getElem?_setIfInBounds_ne e]
      constructor
      · exact .inr
      · rintro (rfl | h)
        · exact absurd rfl e
        · exact h
  have hput : ∀ (j : Nat) (q : Oper) (d : Nat), ops[j]? = some q → j ∉ tail → j ≠ i → q.dst = some d → (a.put o.dst v).tmps.getD d undef = a.tmps.getD d undef := by
    intro j q d hq hj hne hd
    cases hod : o.dst with
    | none => rfl
    | some e =>
      have hde : e ≠ d := by
        rintro rfl
        exact hne ((sh.dst i o e ho ht hod).2.2 j q hq hj hd).symm
      simp only [Act.put, Array.getD_eq_getD_getElem?]
      rw [Array.getElem?_setIfInBounds_ne hde]
  refine ⟨by simpa using h.size, ?_, hs, ?_, ?_, ?_⟩
  · cases hod : o.dst with
    | none => exact h.ev
    | some d =>
      obtain ⟨hdn, hdE, _⟩ := sh.dst i o d ho ht hod
      refine ⟨h.ev.defers, by simp [Act.put, h.ev.size], fun t u hl => ?_⟩
      have hne : d ≠ t := by
        rintro rfl
        exact hdE (lk_key hl)
      have := h.ev.look t u hl
      simp only [Act.put, Array.getD_eq_getD_getElem?] at *
      rw [Array.getElem?_setIfInBounds_ne hne]
      exact this
  · intro j u hj
    by_cases e : j = i
    · subst e
      rw [hv] at hj
      obtain rfl := Option.some.inj hj
      refine ⟨ht, o, ho, fun _ d hd => ?_, fun hn => absurd ((hlis j).2 (.inl rfl)) hn⟩
      have hdn := (sh.dst j o d ho ht hd).1
      simp [hd, Act.put, Array.getD_eq_getD_getElem?, h.ev.size, hdn]
    · have hk := (hback j u hj).resolve_left e
      obtain ⟨h1, q, hq, h2, h3⟩ := h.kn j u hk
      refine ⟨h1, q, hq, fun hl d hd => ?_, fun hn => ?_⟩
      · rw [hput j q d hq h1 e hd]
        exact h2 (((hlis j).1 hl).resolve_left e) d hd
      · obtain ⟨kn, Pk0, N, a1, a2, a3⟩ := h3 (fun hl => hn ((hlis j).2 (.inr hl)))
        obtain ⟨N', rfl⟩ := hP
        exact ⟨kn, Pk0, N * N', fun j u hj => hsub j u (a1 j u hj), by rw [a2, sep_assoc], a3⟩
  · intro j hj
    rcases (hlis j).1 hj with rfl | hj
    · exact ⟨v, hv⟩
    · obtain ⟨u, hu⟩ := h.li j hj
      exact ⟨u, hsub j u hu⟩
  · intro j q hj hq x hx
    rw [hlis]
    rcases (hlis j).1 hj with rfl | hj
    · rw [ho] at hq
      obtain rfl := Option.some.inj hq
      exact .inr (hr x hx)
    · exact .inr (h.cl j q hj hq x hx)
/-- What stands next: a writer, or the last operations. -/
inductive Node (P : Program) (n : Nat) (w0 : World) (ops : Array Oper) (tail : List Nat) (E : Env) (A : Asn) (K : Act → World → Prop) (known : List (Nat × Value)) (Pk L : Asn) : Prop
  | chains (cs : List Nat) (o : Nat → Oper) (R : Nat → Value → Asn → Asn → Prop) (hne : cs ≠ [])
      (hi : ∀ c ∈ cs, ops[c]? = some (o c) ∧ vof known c = none ∧ met ops known (o c) = some true ∧ has tail c = false)
      (hrest : (List.range ops.size).all (fun i => (vof known i).isSome || has cs i || cs.any fun c => reach (befs ops.toList []) c i) = true)
      (h : ∀ c ∈ cs, COp P n w0 A (o c) (depE ops known (o c) ++ E) (A * Pk * L) (R c)) (k : ∀ c, c ∈ cs → ∀ v P' L', R c v P' L' → St P n w0 ops tail E A K ((c, v) :: known) P' L') (hP : ∀ c ∈ cs, ∀ v P' L', R c v P' L' → ∃ N, P' = Pk * N)
  | tail (hall : (List.range ops.size).all (fun i => (vof known i).isSome || has tail i) = true) (h : RunL P n w0 ops (tail.filterMap fun i => ops[i]?) K (allE ops known ++ E) (A * Pk * L))
theorem Inv.learn {known : List (Nat × Value)} {Pk L : Asn} {listed : Array Bool} {a : Act} {w : World} (h : Inv P n w0 ops tail E A known Pk L listed a w) {i : Nat} {o : Oper} {v : Value} (hi : ops[i]? = some o) (hn : vof known i = none) (ht : has tail i = false)
    (hp : (met ops known o = some true ∧ QOp P n w0 o (depE ops known o ++ E) (A * Pk) v) ∨ (met ops known o = some false ∧ v = undef)) : Inv P n w0 ops tail E A ((i, v) :: known) Pk L listed a w := by
  have hnl : ¬ lis listed i := fun hl => by
    obtain ⟨u, hu⟩ := h.li i hl
    rw [hn] at hu
    cases hu
  have htt : i ∉ tail := fun hm => by
    rw [has_iff.2 hm] at ht
    cases ht
  refine ⟨h.size, h.ev, h.sat, ?_, fun j hj => ?_, h.cl⟩
  · intro j u hj
    by_cases e : i = j
    · subst e
      rw [vof_cons_eq] at hj
      obtain rfl := Option.some.inj hj
      exact ⟨htt, o, hi, fun hl => absurd hl hnl, fun _ => ⟨known, Pk, emp, fun j u hj => vof_mono hn hj, (sep_emp _).symm, hp⟩⟩
    · rw [vof_cons_ne e] at hj
      obtain ⟨h1, q, hq, h2, h3⟩ := h.kn j u hj
      refine ⟨h1, q, hq, h2, fun hl => ?_⟩
      obtain ⟨kn, Pk0, N, a1, a2, a3⟩ := h3 hl
      exact ⟨kn, Pk0, N, fun j u hj => vof_mono hn (a1 j u hj), a2, a3⟩
  · obtain ⟨u, hu⟩ := h.li j hj
    exact ⟨u, vof_mono hn hu⟩
theorem St.node {known : List (Nat × Value)} {Pk L : Asn} (st : St P n w0 ops tail E A K known Pk L) : ∀ {listed : Array Bool} {a : Act} {w : World}, Inv P n w0 ops tail E A known Pk L listed a w →
    ∃ known' , Inv P n w0 ops tail E A known' Pk L listed a w ∧ Node P n w0 ops tail E A K known' Pk L := by
  induction st with
  | quiet i o v hi hn hm ht h k ih => intro listed a w inv; exact ih (inv.learn hi hn ht (.inl ⟨hm, h⟩))
  | skip i o hi hn hm ht k ih => intro listed a w inv; exact ih (inv.learn hi hn ht (.inr ⟨hm, rfl⟩))
  | chains cs o R hne hi hrest h k hP ih => intro listed a w inv; exact ⟨_, inv, .chains cs o R hne hi hrest h k hP⟩
  | tail hall h => intro listed a w inv; exact ⟨_, inv, .tail hall h⟩
theorem Node.st {known : List (Nat × Value)} {Pk L : Asn} (nd : Node P n w0 ops tail E A K known Pk L) : St P n w0 ops tail E A K known Pk L := by
  cases nd with
  | chains cs o R hne hi hrest h k hP => exact .chains cs o R hne hi hrest h k hP
  | tail hall h => exact .tail hall h
theorem all_listed (hord : ordered 0 ops.toList = true) {listed : Array Bool} (hs : listed.size = ops.size) (h : ∀ (i : Nat) (o : Oper), listed[i]? = some false → ops[i]? = some o → ∃ j ∈ aft o, ¬ lis listed j) : ∀ i, i < ops.size → lis listed i := by
  intro i
  induction i using Nat.strongRecOn with
  | _ i ih =>
    intro hi
    have hi2 : i < listed.size := by omega
    cases hb : listed[i] with
    | true => exact (by rw [lis, Array.getElem?_eq_getElem hi2, hb])
    | false =>
      have ho : ops[i]? = some ops[i] := by simp [hi]
      obtain ⟨j, hj, hn⟩ := h i _ (by rw [Array.getElem?_eq_getElem hi2, hb]) ho
      have hlt := ordered_lt ops.toList 0 hord i _ (by simp [hi]) j hj
      exact absurd (ih j (by omega) (by omega)) hn
theorem count_all {listed : Array Bool} (h : listed.toList.count false ≤ 0) : ∀ i, i < listed.size → lis listed i := by
  intro i hi
  have h0 : listed.toList.count false = 0 := by omega
  rw [List.count_eq_zero] at h0
  unfold lis
  rw [Array.getElem?_eq_getElem hi]
  cases hb : listed[i] with
  | true => rfl
  | false => exact absurd (by rw [← hb]; exact Array.getElem_mem_toList hi) h0
/-- The last ones come one behind the other. -/
theorem tail_order (sh : Shape ops tail E n) : ∀ (f : Nat) (listed : Array Bool) (l : List Nat), Ok ops f listed l → ∀ ts, (∃ pre, tail = pre ++ ts) → listed.size = ops.size → listed.toList.count false ≤ f →
    (∀ (i : Nat) (o : Oper), lis listed i → ops[i]? = some o → ∀ j ∈ aft o, lis listed j) → (∀ i, i < ops.size → (lis listed i ↔ i ∉ ts)) → l = ts := by
  intro f listed l hok
  have fin : ∀ (listed : Array Bool) ts, (∃ pre, tail = pre ++ ts) → (∀ i, i < ops.size → lis listed i) → (∀ i, i < ops.size → (lis listed i ↔ i ∉ ts)) → ([] : List Nat) = ts := by
    rintro listed ts ⟨pre, hpre⟩ h1 h2
    cases ts with
    | nil => rfl
    | cons t r =>
      have htl : t ∈ tail := by rw [hpre]; simp
      have := (sh.last t htl).1
      exact absurd (by simp) ((h2 t this).1 (h1 t this))
  induction hok with
  | zero listed => intro ts hts hs hc _ hl; exact fin listed ts hts (fun i hi => count_all hc i (by omega)) hl
  | stop f listed h => intro ts hts hs hc _ hl; exact fin listed ts hts (all_listed sh.ord hs h) hl
  | step f i o listed l hi ho hr k ih =>
    intro ts hts hs hc hcl hl
    obtain ⟨pre, hpre⟩ := hts
    have hisz := (Array.getElem?_eq_some_iff.1 ho).1
    have hni : ¬ lis listed i := by unfold lis; rw [hi]; simp
    have hmem : i ∈ ts := by
      by_cases hm : i ∈ ts
      · exact hm
      · exact absurd ((hl i hisz).2 hm) hni
    cases ts with
    | nil => simp at hmem
    | cons t r =>
      have hpairs : ∀ pre : List Nat, pairs (befs ops.toList []) (pre ++ t :: r) = true → pairs (befs ops.toList []) (t :: r) = true := by
        intro pre
        induction pre with
        | nil => exact id
        | cons x q ihq =>
          intro h
          simp only [List.cons_append, pairs, Bool.and_eq_true] at h
          exact ihq h.2
      have hp := hpairs pre (hpre ▸ sh.seq)
      simp only [pairs, Bool.and_eq_true] at hp
      have hall := List.all_eq_true.1 hp.1
      have hit : i = t := by
        by_cases e : i = t
        · exact e
        · have hir : i ∈ r := by simpa [e] using hmem
          have h2 := hall i hir
          rw [Bool.and_eq_true] at h2
          have htl := reach_listed sh.ord hcl i o ho hr t h2.2
          have htsz : t < ops.size := (sh.last t (by rw [hpre]; simp)).1
          exact absurd (by simp) ((hl t htsz).1 htl)
      subst hit
      have hnr : i ∉ r := by
        intro hir
        have h2 := hall i hir
        rw [Bool.and_eq_true] at h2
        simp at h2
      have hlt : i < listed.size := by omega
      have hlis : ∀ j, lis (listed.setIfInBounds i true) j ↔ j = i ∨ lis listed j := by
        intro j
        unfold lis
        by_cases e : i = j
        · subst e
          simp [hlt]
        · rw [Array.getElem?_setIfInBounds_ne e]
          constructor
          · exact .inr
          · rintro (rfl | h)
            · exact absurd rfl e
            · exact h
      rw [ih r ⟨pre ++ [i], by simp [hpre]⟩ (by simpa using hs) (by have := count_set listed.toList i (by simpa using hi); simp; omega) ?_ ?_]
      · intro j q hj hq x hx
        rw [hlis]
        rcases (hlis j).1 hj with rfl | hj
        · rw [ho] at hq
          obtain rfl := Option.some.inj hq
          exact .inr (hr x hx)
        · exact .inr (hcl j q hj hq x hx)
      · intro j hj
        rw [hlis, hl j hj]
        simp only [List.mem_cons, not_or]
        constructor
        · rintro (rfl | h)
          · exact hnr
          · exact h.2
        · intro h
          by_cases e : j = i
          · exact .inl e
          · exact .inr ⟨e, h⟩
theorem draw_sound (sh : Shape ops tail E n) : ∀ (f : Nat) (listed : Array Bool) (l : List Nat), Ok ops f listed l → listed.toList.count false ≤ f → ∀ known Pk L a w, Inv P n w0 ops tail E A known Pk L listed a w → St P n w0 ops tail E A K known Pk L → wpOps P ops (Qk K) l a w := by
  intro f listed l hok
  have fin : ∀ (f : Nat) (listed : Array Bool) (l : List Nat), Ok ops f listed l → listed.toList.count false ≤ f → ∀ known Pk L a w, Inv P n w0 ops tail E A known Pk L listed a w → 
      (∀ i, i < ops.size → (lis listed i ↔ i ∉ tail)) → RunL P n w0 ops (tail.filterMap fun i => ops[i]?) K (allE ops known ++ E) (A * Pk * L) → wpOps P ops (Qk K) l a w := by
    intro f listed l hok hc known Pk L a w inv hli hrun
    have hl : l = tail := tail_order sh f listed l hok tail ⟨[], rfl⟩ inv.size hc inv.cl hli
    subst hl
    have hlo : l.map (fun i => ops[i]?) = (l.filterMap fun i => ops[i]?).map some := by
      have : ∀ r : List Nat, (∀ t ∈ r, t < ops.size) → r.map (fun i => ops[i]?) = (r.filterMap fun i => ops[i]?).map some := by
        intro r
        induction r with
        | nil => intro _; rfl
        | cons t r ih =>
          intro h
          have ht : ops[t]? = some (ops[t]'(h t (by simp))) := Array.getElem?_eq_getElem (h t (by simp))
          simp only [List.map_cons, List.filterMap_cons, ht]
          rw [ih fun u hu => h u (by simp [hu])]
      exact this l fun t ht => (sh.last t ht).1
    rw [wpOps_list l _ hlo]
    refine hrun.out a w (Ev.app (fun p hp => ?_) inv.ev) inv.sat
    obtain ⟨⟨i, u⟩, hi, e⟩ := List.mem_filterMap.1 hp
    simp only at e
    cases h1 : (ops[i]?).bind (·.dst) with
    | none => simp [h1] at e
    | some d =>
      cases h2 : vof known i with
      | none => simp [h1, h2] at e
      | some v =>
        simp [h1, h2] at e
        subst e
        obtain ⟨hnt, q, hq, hs, _⟩ := inv.kn i v h2
        rw [hq, Option.bind_some] at h1
        exact hs ((hli i (Array.getElem?_eq_some_iff.1 hq).1).2 hnt) d h1
  have ends : ∀ (listed : Array Bool), (∀ i, i < ops.size → lis listed i) → ∀ (f : Nat), Ok ops f listed [] → listed.toList.count false ≤ f → ∀ known Pk L a w, Inv P n w0 ops tail E A known Pk L listed a w → St P n w0 ops tail E A K known Pk L → wpOps P ops (Qk K) [] a w := by
    intro listed hall f hok hc known Pk L a w inv st
    obtain ⟨known', inv', nd⟩ := st.node inv
    have hkn : ∀ i, i < ops.size → ∃ v, vof known' i = some v := fun i hi => inv'.li i (hall i hi)
    cases nd with
    | chains cs o R hne hi hrest h k hP =>
      cases cs with
      | nil => exact absurd rfl hne
      | cons c cs =>
        obtain ⟨hi, hn, _⟩ := hi c (by simp)
        obtain ⟨v, hv⟩ := hkn c (Array.getElem?_eq_some_iff.1 hi).1
        rw [hn] at hv
        cases hv
    | tail hall2 h =>
      refine fin f listed [] hok hc known' Pk L a w inv' (fun i hi => ⟨fun _ hm => ?_, fun _ => hall i hi⟩) h
      obtain ⟨v, hv⟩ := hkn i hi
      exact (inv'.kn i v hv).1 hm
  induction hok with
  | zero listed => intro hc known Pk L a w inv st; exact ends listed (fun i hi => count_all hc i (by have := inv.size; omega)) 0 (.zero _) hc known Pk L a w inv st
  | stop f listed h => intro hc known Pk L a w inv st; exact ends listed (all_listed sh.ord inv.size h) f (.stop f listed h) hc known Pk L a w inv st
  | step f i o listed l hi ho hr kk ih =>
    intro hc known Pk L a w inv st
    have hc' : (listed.setIfInBounds i true).toList.count false ≤ f := by
      have := count_set listed.toList i (by simpa using hi)
      simp
      omega
    obtain ⟨known', inv', nd⟩ := st.node inv
    have hni : ¬ lis listed i := by unfold lis; rw [hi]; simp
    have hisz := (Array.getElem?_eq_some_iff.1 ho).1
    cases hk : vof known' i with
    | some v =>
      obtain ⟨hnt, q, hq, _, hp⟩ := inv'.kn i v hk
      rw [ho] at hq
      obtain rfl := Option.some.inj hq
      obtain ⟨kn, Pk0, N, hsub, rfl, hp2⟩ := hp hni
      have hev := inv'.dep hr hsub
      rcases hp2 with ⟨hm, hq⟩ | ⟨hm, rfl⟩
      · have hw := inv'.wants hr hsub hm
        simp only [wpOps, ho, hw, if_true]
        left
        have hsat : Sat w0 w (A * Pk0 * (N * L)) := inv'.sat.conv (by ac_rfl)
        refine hq.out a w (N * L) _ _ hev hsat fun w' hs => ?_
        exact ih hc' known' (Pk0 * N) L _ w' (inv'.next sh hi ho hr hnt hk (fun _ _ h => h) (fun _ _ h => .inr h) ⟨emp, (sep_emp _).symm⟩ (hs.conv (by ac_rfl))) nd.st
      · have hw := inv'.wants hr hsub hm
        simp only [wpOps, ho, hw, Bool.false_eq_true, if_false]
        exact ih hc' known' (Pk0 * N) L _ w (inv'.next sh hi ho hr hnt hk (fun _ _ h => h) (fun _ _ h => .inr h) ⟨emp, (sep_emp _).symm⟩ inv'.sat) nd.st
    | none =>
      cases nd with
      | chains cs p R hne hci hrest h k hP =>
        have hx := List.all_eq_true.1 hrest i (by simpa using hisz)
        simp only [Bool.or_eq_true, hk, Option.isSome_none, Bool.false_eq_true, false_or] at hx
        rcases hx with hx | hx
        · have hic := has_iff.1 hx
          obtain ⟨h1, hn, hm, ht⟩ := hci i hic
          rw [ho] at h1
          have ho' := Option.some.inj h1
          have hnt : i ∉ tail := fun hm => by rw [has_iff.2 hm] at ht; cases ht
          rw [← ho'] at hm
          have hw := inv'.wants hr (fun _ _ h => h) hm
          simp only [wpOps, ho, hw, if_true]
          left
          have hh := h i hic
          rw [← ho'] at hh
          refine hh.out a w _ _ (inv'.dep hr fun _ _ h => h) inv'.sat fun v P' L' w' hR hs => ?_
          exact ih hc' ((i, v) :: known') P' L' _ w' (inv'.next sh hi ho hr hnt vof_cons_eq (fun j u hj => vof_mono hn hj) (fun j u hj => by
            by_cases e : i = j
            · exact .inl e.symm
            · rw [vof_cons_ne e] at hj; exact .inr hj) (hP i hic v P' L' hR) hs) (k i hic v P' L' hR)
        · obtain ⟨c, hcc, hx⟩ := List.any_eq_true.1 hx
          obtain ⟨v, hv⟩ := inv'.li c (reach_listed sh.ord inv'.cl i o ho hr c hx)
          rw [(hci c hcc).2.1] at hv
          cases hv
      | tail hall h =>
        have hx := List.all_eq_true.1 hall i (by simpa using hisz)
        simp only [Bool.or_eq_true, hk, Option.isSome_none, Bool.false_eq_true, false_or] at hx
        have hit := has_iff.1 hx
        refine fin (f + 1) listed (i :: l) (.step f i o listed l hi ho hr kk) hc known' Pk L a w inv' (fun j hj => ⟨fun hlj hm => ?_, fun hm => ?_⟩) h
        · obtain ⟨v, hv⟩ := inv'.li j hlj
          exact (inv'.kn j v hv).1 hm
        · exact reach_listed sh.ord inv'.cl i o ho hr j ((sh.last i hit).2 j hj hm)
/-! ### Its steps -/
theorem QOp.ok {op : Op} {ty : TypeId} {v : Value} {d : Option Tmp} {ps : String} {af : Array Edge} {g : Option (Nat × Bool)} {B : Asn} {E' : Env} (h : ∀ X, OpOk P n w0 op ty E' (B * X) v) :
    QOp P n w0 { dst := d, op, type := ty, pos := ps, after := af, guard := g } E' B v :=
  ⟨fun a w X K Q he hs hk => by
    obtain ⟨w', hr, hs'⟩ := (h X).out a w d ps af g he hs
    unfold Oper.wp
    rw [hr]
    exact hk w' hs'⟩
theorem QOp.call {f : FuncId} {args : List Operand} {ats : Array TypeId} {vs : List Value} {v : Value} {d : Option Tmp} {ty : TypeId} {ps : String} {af : Array Edge} {g : Option (Nat × Bool)} {B : Asn} {E' : Env} (hc : Callee P f) (hv : evs E' args = some vs)
    (sp : ∀ X, Spec P w0 f vs (B * X) (fun v' A' => v' = v ∧ A' = B * X)) : QOp P n w0 { dst := d, op := .call { callee := .value (.func f), args := args.toArray, argTypes := ats }, type := ty, pos := ps, after := af, guard := g } E' B v :=
  ⟨fun a w X K Q he hs hk => by
    unfold Oper.wp
    obtain ⟨fn, h1, h2, h3⟩ := hc.is
    have e1 : (execOp a.eval { dst := d, op := .call { callee := .value (.func f), args := args.toArray, argTypes := ats }, type := ty, pos := ps, after := af, guard := g }).run P w = .ok (.enter f vs.toArray) w := by
      have e2 : args.toArray.map a.eval = vs.toArray := by
        apply Array.toList_inj.1
        simpa using he.evals hv
      have e3 : a.eval (.func f) = .func (.func f) #[] #[] := rfl
      simp only [execOp, resolve, e3, Deferred.ofValue, invoke, callFunc, Sem.run_bind, Sem.run_pure, run_program, Result.andThen_ok, h1, h2, h3, Bool.false_eq_true, if_false, e2, Array.empty_append, Array.append_empty]
    rw [e1]
    refine ((sp X).out w hs).mono fun e w' hp => ?_
    obtain ⟨v', A', ⟨rfl, rfl⟩, rfl, hs'⟩ := hp
    exact hk w' hs'⟩
theorem St.chain {known : List (Nat × Value)} {Pk L : Asn} (c : Nat) (o : Oper) (R : Value → Asn → Asn → Prop) (hi : ops[c]? = some o) (hn : vof known c = none) (hm : met ops known o = some true) (ht : has tail c = false)
    (hrest : (List.range ops.size).all (fun i => (vof known i).isSome || has [c] i || [c].any fun c => reach (befs ops.toList []) c i) = true)
    (h : COp P n w0 A o (depE ops known o ++ E) (A * Pk * L) R) (k : ∀ v P' L', R v P' L' → St P n w0 ops tail E A K ((c, v) :: known) P' L') (hP : ∀ v P' L', R v P' L' → ∃ N, P' = Pk * N) : St P n w0 ops tail E A K known Pk L := by
  refine .chains [c] (fun _ => o) (fun _ => R) (by simp) ?_ hrest ?_ ?_ ?_
  · intro q hq
    simp at hq
    subst hq
    exact ⟨hi, hn, hm, ht⟩
  · intro q hq
    exact h
  · intro q hq v P' L' hR
    simp at hq
    subst hq
    exact k v P' L' hR
  · intro q hq
    exact hP
theorem wp_put {o : Oper} {a : Act} {w : World} {next next' : Act → World → Prop} {Q' : Exit → Act → World → Prop} {K0 : Act → World → Prop} (h : o.wp P a w next (Qk K0)) (hn : ∀ v w', next (a.put o.dst v) w' → next' (a.put o.dst v) w') (hd : ∀ a' w', a'.defers ≠ [] → next a' w' → next' a' w') : o.wp P a w next' Q' := by
  unfold Oper.wp at *
  have hp : ∀ (d : Deferred), (({ a with defers := d :: a.defers } : Act).put o.dst undef).defers ≠ [] := by
    intro d
    cases o.dst <;> simp [Act.put]
  generalize (execOp a.eval o).run P w = r at *
  cases r with
  | ok x w' =>
    cases x <;> simp only [Oper.upon] at h ⊢ <;> first
      | exact hn _ _ h
      | exact hd _ _ (hp _) h
      | exact h.mono fun v w2 hv => hn _ _ hv
      | exact h.mono fun e w2 he => by
          cases e with
          | returned v => exact hn _ _ he
          | panicked ch => exact he.elim
          | outgrown => obtain ⟨_, _, hq⟩ := he; exact hq.elim
      | exact h.elim
  | halt x w' => cases x <;> simp only [Oper.upon] at h ⊢ <;> exact h.elim
/-- A writer, by the rules for one operation. -/
theorem COp.of {d : Nat} {op : Op} {ty : TypeId} {ps : String} {af : Array Edge} {g : Option (Nat × Bool)} {E' : Env} {B : Asn} {R : Value → Asn → Asn → Prop} (hd : Nat.blt d n = true)
    (h : ∀ K : Act → World → Prop, (∀ v P' L', R v P' L' → RunL P n w0 ops [] K ((d, v) :: E') (A * P' * L')) → RunL P n w0 ops [{ dst := some d, op, type := ty, pos := ps, after := af, guard := none }] K E' B) :
    COp P n w0 A { dst := some d, op, type := ty, pos := ps, after := af, guard := g } E' B R := by
  refine ⟨fun a w K Q he hs hk => ?_⟩
  have h1 := (h (fun a' w' => ∃ v P' L', R v P' L' ∧ Ev n a' ((d, v) :: E') ∧ Sat w0 w' (A * P' * L')) fun v P' L' hR => .done fun a' w' he' hs' => ⟨v, P', L', hR, he', hs'⟩).out a w he hs
  unfold wpList at h1
  rw [if_pos (by simp [Region.wanted])] at h1
  rcases h1 with h1 | ⟨_, _, _, hq⟩
  · refine wp_put (o := { dst := some d, op, type := ty, pos := ps, after := af, guard := none }) h1 (fun v w' hn => ?_) (fun a' w' hd' hn => ?_)
    · simp only [wpList, Qk] at hn
      obtain ⟨v', P', L', hR, he', hs'⟩ := hn
      have e1 := he'.look d v' (by simp [lk])
      have hlt : d < a.tmps.size := by rw [he.size]; exact Nat.le_of_ble_eq_true hd
      simp [Act.put, Array.getD_eq_getD_getElem?, hlt] at e1
      subst e1
      exact hk _ P' L' w' hR hs'
    · simp only [wpList, Qk] at hn
      obtain ⟨v', P', L', hR, he', hs'⟩ := hn
      exact absurd he'.defers hd'
  · exact hq.elim
end sound
end Go.Proofs.Yteopadjihklkmaa
end

section
namespace Go.Proofs.Yteopadjihklkmaa
open Go Go.Proofs
theorem Rd.cells1 {w0 : World} {A : Asn} {v : Value} {size n : Nat} {xs : List Value} (h : Rd w0 A v size n xs) : v.cells = #[v] := by
  obtain ⟨ad, cap, rfl, _⟩ := h.form
  rfl
theorem Rd.one {w0 : World} {A : Asn} {v : Value} {size n : Nat} {xs : List Value} (h : Rd w0 A v size n xs) : v.oneCell' = true := by
  obtain ⟨ad, cap, rfl, _⟩ := h.form
  rfl
section
variable {P : Program} {n : Nat} {w0 : World} {ops : Array Oper} {l : List Oper} {K : Act → World → Prop} {E : Env} {A : Asn} {ty : TypeId} {ps : String} {af : Array Edge}
theorem flat_one {vs : List Value} (h : ∀ v ∈ vs, v.cells = #[v]) : (vs.flatMap fun v => v.cells.toList) = vs := by
  induction vs with
  | nil => rfl
  | cons v r ih =>
    rw [List.flatMap_cons, h v (by simp), ih (fun u hu => h u (by simp [hu]))]
    rfl
theorem OpOk.asT {op : Op} {p : Prop} [Decidable p] (h : OpOk P n w0 op ty E A (.bool (decide p))) (hp : p) : OpOk P n w0 op ty E A (.bool true) := by rw [decide_eq_true hp] at h; exact h
theorem OpOk.asF {op : Op} {p : Prop} [Decidable p] (h : OpOk P n w0 op ty E A (.bool (decide p))) (hp : ¬ p) : OpOk P n w0 op ty E A (.bool false) := by rw [decide_eq_false hp] at h; exact h
theorem OpOk.as {op : Op} {b c : Bool} (h : OpOk P n w0 op ty E A (.bool b)) (hp : b = c) : OpOk P n w0 op ty E A (.bool c) := hp ▸ h
/-- A literal of values of one cell. -/
theorem RunL.lits {d : Nat} {t e : TypeId} {z : Value} {m : Nat} {parts : List (Nat × Operand)} {vs : List Value} (hu : P.underlying t = some (.slice e)) {bytes : Nat} (hi : TyI P e z 1 bytes) (hv : evParts E parts = some vs)
    (hp : places 0 parts = true) (hm : parts.length = m) (h1 : ∀ v ∈ vs, v.cells = #[v]) (hlim : m ≤ 1048576) (hd : Nat.blt d n = true)
    (r : ∀ v, Rd w0 (A * own e 1 v m vs) v 1 m vs → RunL P n w0 ops l K ((d, v) :: E) (A * own e 1 v m vs)) :
    RunL P n w0 ops ({ dst := some d, op := .buildSlice t m parts.toArray, type := ty, pos := ps, after := af, guard := none } :: l) K E A := by
  refine RunL.lit hu hi hv hp hm (fun v hv => by rw [h1 v hv]; rfl) (by omega) (by simp only [maxLen]; omega) hd ?_
  rw [flat_one h1]
  exact r
theorem RunL.lit0 {d : Nat} {t e : TypeId} {z : Value} {size : Nat} (hu : P.underlying t = some (.slice e)) {bytes : Nat} (hi : TyI P e z size bytes) (hd : Nat.blt d n = true)
    (r : ∀ u, Rd w0 (A * own e size u 0 []) u size 0 [] → RunL P n w0 ops l K ((d, u) :: E) (A * own e size u 0 [])) :
    RunL P n w0 ops ({ dst := some d, op := .buildSlice t 0 #[], type := ty, pos := ps, after := af, guard := none } :: l) K E A :=
  RunL.lit (parts := []) (vs := []) hu hi (by simp [evParts]) (by rfl) rfl (by simp) (by omega) (by decide) hd r
theorem RunL.lit0B {d : Nat} {t e : TypeId} {z : Value} (hu : P.underlying t = some (.slice e)) {bytes : Nat} (hi : TyI P e z 1 bytes) (hd : Nat.blt d n = true)
    (r : ∀ u, Rd w0 (A * own e 1 u 0 (B [])) u 1 0 (B []) → RunL P n w0 ops l K ((d, u) :: E) (A * own e 1 u 0 (B []))) :
    RunL P n w0 ops ({ dst := some d, op := .buildSlice t 0 #[], type := ty, pos := ps, after := af, guard := none } :: l) K E A := RunL.lit0 hu hi hd r
/-- append of bytes to what is owned. -/
theorem RunL.appendB {d : Nat} {t e : TypeId} {x y : Operand} {v u : Value} {m c : Nat} {xs ys : List UInt8} {A1 : Asn} {ats : Array TypeId} (hu : P.underlying t = some (.slice e))
    (hi : TyI P e (.int .u8 0) 1 1) (hats : ats = #[t, t]) (hx : ev E x = some v) (hy : ev E y = some u) (hA : A = A1 * own e 1 v m (B xs)) (rd : Rd w0 A u 1 c (B ys)) (hlim : m + c ≤ 140737488355328) (hd : Nat.blt d n = true)
    (r : ∀ v', Rd w0 (A1 * own e 1 v' (m + c) (B (xs ++ ys))) v' 1 (m + c) (B (xs ++ ys)) → RunL P n w0 ops l K ((d, v') :: E) (A1 * own e 1 v' (m + c) (B (xs ++ ys)))) :
    RunL P n w0 ops ({ dst := some d, op := .call { callee := .builtin .append, args := #[x, y], argTypes := ats }, type := ty, pos := ps, after := af, guard := none } :: l) K E A := by
  refine RunL.append hu hi hats hx hy hA rd (B_one _) rfl (by decide) (by omega) (by simp only [maxLen]; omega) hd ?_
  rw [← B_append]
  exact r
/-- A byte of what is owned is set. -/
theorem B_set (xs : List UInt8) (i : Nat) (b : UInt8) : (B xs).set i (.int .u8 (b.toNat : Int)) = B (xs.set i b) := by simp [B, List.map_set]
theorem RunL.storeB {t e : TypeId} {x y : Operand} {v : Value} {q m : Nat} {k : Int} {xs : List UInt8} {A1 : Asn} {zz : Value} {bb : Nat} (b : UInt8) (hz : TyI P t zz 1 bb) (hx : ev E x = some (.pointer (some ((adr v).add q)))) (hy : ev E y = some (.int .u8 k)) (hk : k = (b.toNat : Int))
    (hA : A = A1 * own e 1 v m (B xs)) (hi : q < m) (r : RunL P n w0 ops l K E (A1 * own e 1 v m (B (xs.set q b)))) :
    RunL P n w0 ops ({ dst := none, op := .store t x y, type := ty, pos := ps, after := af, guard := none } :: l) K E A := by
  subst hk
  refine RunL.storeOwn hz hx hy rfl hA (by omega) ?_
  rw [B_set]
  exact r
end
section
variable {P : Program} {fid : Fid} {n : Nat} {R : Ending → World → Prop} {w0 : World} {k : List Item} {E : Env} {A : Asn}
theorem Spec.weak {f : FuncId} {args : List Value} {R R' : Value → Asn → Prop} (h : Spec P w0 f args A R) (hr : ∀ v A1, R v A1 → ∃ A2, Ent A1 A2 ∧ R' v A2) : Spec P w0 f args A R' :=
  ⟨fun w hs => (h.out w hs).mono fun _ _ ⟨v, _, hR, he, hs⟩ => let ⟨A2, h1, h2⟩ := hr _ _ hR; ⟨v, A2, h2, he, hs.ent h1⟩⟩
end
section
variable {P : Program} {n : Nat} {w0 : World} {ops : Array Oper} {tail : List Nat} {E : Env} {A : Asn} {K : Act → World → Prop}
theorem Sat.ownRd0 {w : World} {e : TypeId} {size m : Nat} {v : Value} {xs : List Value} (h : Sat w0 w (A * own e size v m xs)) : Rd w0 (own e size v m xs) v size m xs := by
  have hl := h.ownLen
  have := Rd.own (w0 := w0) (A := emp) (e := e) hl.1 hl.2 (v := v) (by
    rcases h.ownForm with ⟨h1, h2, _⟩ | ⟨g, cap, cur, h1, h2, _⟩
    · subst h1 h2; exact ⟨none, 0, rfl, Nat.le_refl _, fun h => absurd h (Nat.lt_irrefl _)⟩
    · exact ⟨_, cap, h1, h2, fun _ => ⟨g, rfl⟩⟩)
  exact this.conv (emp_sep _)
end
theorem x8 (a : UInt8) : BitVec.ofInt 8 (a.toNat : Int) = a.toBitVec := by
  apply BitVec.eq_of_toNat_eq
  have := a.toNat_lt
  simp only [BitVec.toNat_ofInt, UInt8.toNat_toBitVec]
  omega
theorem w8 (a : UInt8) : IntKind.u8.wrap (a.toNat : Int) = a.toNat := by
  have := a.toNat_lt
  exact wrapU8 (by omega) (by omega)
theorem x8_or (a b : UInt8) : IntKind.u8.wrap ((BitVec.ofInt IntKind.u8.bits (a.toNat : Int) ||| BitVec.ofInt IntKind.u8.bits (b.toNat : Int)).toNat : Int) = ((a ||| b).toNat : Int) := by
  show IntKind.u8.wrap ((BitVec.ofInt 8 (a.toNat : Int) ||| BitVec.ofInt 8 (b.toNat : Int)).toNat : Int) = _
  rw [x8, x8, ← UInt8.toBitVec_or, UInt8.toNat_toBitVec, w8]
theorem sep_last (A B C : Asn) : A * B * C = A * C * B := by rw [sep_assoc, sep_comm B C, ← sep_assoc]
end Go.Proofs.Yteopadjihklkmaa
end
