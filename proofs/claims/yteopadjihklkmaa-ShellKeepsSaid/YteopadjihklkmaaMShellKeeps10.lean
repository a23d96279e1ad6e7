/- Part 10 of the proof of ShellKeeps. -/
import Derived.Test.YteopadjihklkmaaMShellKeeps9
import Derived.Laws.IdiomCopy
import Derived.ArgAppend
section
namespace Go.Proofs.Yteopadjihklkmaa
open Go
def encS (s : List UInt8) : List Value := [S s]
instance : OneC encS := ⟨fun a u hu => by
  simp only [encS, List.mem_singleton] at hu
  subst hu
  rfl⟩
theorem Fl_S : ∀ (l : List (List UInt8)) (i : Nat), i < l.length → (Fl encS l)[i]? = some (S (l.getD i default))
  | [], _, h => by simp at h
  | x :: r, 0, _ => by simp [Fl, encS]
  | x :: r, i + 1, h => by
    have := Fl_S r i (by simpa using h)
    simpa [Fl, encS] using this
theorem Fl_S_length (l : List (List UInt8)) : (Fl encS l).length = l.length := by
  rw [Fl_length (s := 1) (fun _ => rfl), Nat.mul_one]
section
variable {P : Program} {n : Nat} {w0 : World} {ops : Array Oper} {l : List Oper} {K : Act → World → Prop} {E : Env} {A : Asn} {ty : TypeId} {ps : String} {af : Array Edge}
theorem RunL.litS {d : Nat} {t e : TypeId} {z : Value} {m : Nat} {parts : List (Nat × Operand)} {ss : List (List UInt8)} (hu : P.underlying t = some (.slice e)) {bytes : Nat} (hi : TyI P e z 1 bytes) (hv : evParts E parts = some (Fl encS ss))
    (hp : places 0 parts = true) (hm : parts.length = m) (hlim : m ≤ 1048576) (hd : Nat.blt d n = true)
    (r : ∀ v, Rd w0 (A * own e 1 v m (Fl encS ss)) v 1 m (Fl encS ss) → RunL P n w0 ops l K ((d, v) :: E) (A * own e 1 v m (Fl encS ss))) :
    RunL P n w0 ops ({ dst := some d, op := .buildSlice t m parts.toArray, type := ty, pos := ps, after := af, guard := none } :: l) K E A :=
  RunL.lits hu hi hv hp hm (fun v hv => by
    obtain ⟨a, _, ha⟩ := List.mem_flatMap.1 hv
    simp only [encS, List.mem_singleton] at ha
    subst ha
    rfl) hlim hd r
theorem OpOk.loadStr {t : TypeId} {d : TypeDesc} {x : Operand} {v : Value} {i m : Nat} {ys : List (List UInt8)} (hu : P.underlying t = some d) (hd : aggD d = false) (hx : ev E x = some (.pointer (some ((adr v).add i)))) (rd : Rd w0 A v 1 m (Fl encS ys)) (hi : i < m) :
    OpOk P n w0 (.load t x) ty E A (S (ys.getD i default)) :=
  OpOk.load hu hd hx (Rd.cell rd (Fl_S ys i (by
    have := rd.len
    rw [Fl_S_length, Nat.mul_one] at this
    omega)))
theorem RunL.box1 {d : Nat} {e : TypeId} {x : Operand} {v : Value} (hc : v.cells = #[v]) (hx : ev E x = some v) (hd : Nat.blt d n = true) (r : ∀ b, RunL P n w0 ops l K ((d, .pointer (some ⟨b, 0, none⟩)) :: E) (A * pts b (.cells #[v] e (0, 0)))) :
    RunL P n w0 ops ({ dst := some d, op := .box e x, type := ty, pos := ps, after := af, guard := none } :: l) K E A :=
  RunL.box hx hd fun b => by rw [hc]; exact r b
/-! ### Function values -/
theorem OpOk.makeFunc {f : Fn} {first cap : List Operand} {vs us : List Value} (h1 : evs E first = some vs) (h2 : evs E cap = some us) : OpOk P n w0 (.makeFunc f first.toArray cap.toArray) ty E A (.func f vs.toArray us.toArray) :=
  .pure fun a w _ _ _ _ he => by
    have e1 : first.toArray.map a.eval = vs.toArray := by
      apply Array.toList_inj.1
      simpa using he.evals h1
    have e2 : cap.toArray.map a.eval = us.toArray := by
      apply Array.toList_inj.1
      simpa using he.evals h2
    simp only [execOp, e1, e2]
    rfl
theorem RunL.callV {d : Nat} {f : FuncId} {x : Operand} {args : List Operand} {ats : Array TypeId} {vs us : List Value} {R' : Value → Asn → Prop} (hc : Callee P f) (hx : ev E x = some (.func (.func f) #[] us.toArray)) (hv : evs E args = some vs) (sp : Spec P w0 f (vs ++ us) A R') (hd : Nat.blt d n = true)
    (r : ∀ v A', R' v A' → RunL P n w0 ops l K ((d, v) :: E) A') :
    RunL P n w0 ops ({ dst := some d, op := .call { callee := .value x, args := args.toArray, argTypes := ats }, type := ty, pos := ps, after := af, guard := none } :: l) K E A := by
  refine ⟨fun a w he hs => ?_⟩
  refine wpList_plain rfl fun K' hK => ?_
  unfold Oper.wp
  obtain ⟨fn, h1, h2, h3⟩ := hc.is
  have e1 : (execOp a.eval { dst := some d, op := .call { callee := .value x, args := args.toArray, argTypes := ats }, type := ty, pos := ps, after := af, guard := none }).run P w = .ok (.enter f (vs ++ us).toArray) w := by
    have e2 : args.toArray.map a.eval = vs.toArray := by
      apply Array.toList_inj.1
      simpa using he.evals hv
    have e3 := he.eval hx
    simp only [execOp, resolve, e3, Deferred.ofValue, invoke, callFunc, Sem.run_bind, Sem.run_pure, run_program, Result.andThen_ok, h1, h2, h3, Bool.false_eq_true, if_false, e2, Array.empty_append]
    simp
  rw [e1]
  refine (sp.out w hs).mono fun e w' hp => ?_
  obtain ⟨v, A', hR, rfl, hs'⟩ := hp
  exact hK _ _ ((r v A' hR).out _ _ (he.put (Nat.le_of_ble_eq_true hd) _) hs')
/-! ### Cutting a slice whose block is known -/
theorem OpOk.cutK {t e : TypeId} {x : Operand} {lo hi : Option Operand} {ad : Option Addr} {size m cap i j : Nat} (hu : P.underlying t = some (.slice e)) {zz : Value} {bb : Nat} (hz : TyI P e zz size bb)
    (hx : ev E x = some (.slice ad m cap)) (hlo : match lo with | none => i = 0 | some o => ∃ q, ev E o = some (.int q i)) (hhi : match hi with | none => j = m | some o => ∃ q, ev E o = some (.int q j)) (h1 : i ≤ j) (h3 : j ≤ cap) :
    OpOk P n w0 (.slice t x lo hi none) ty E A (cutV (.slice ad m cap) i j size) := by
  obtain ⟨f, hf, hs⟩ := Option.map_eq_some_iff.1 hz.size
  refine .pure fun a w _ _ _ _ he => ?_
  cases lo with
  | none =>
    obtain rfl : i = 0 := hlo
    cases hi with
    | none =>
      obtain rfl : j = m := hhi
      simp [execOp, he.eval hx, Instr.sliceAt, Instr.slice, Instr.sliceBounds, underlying, hu, sizeOf, typeInfo, hf, Go.Proofs.Yteopadjihklkmaa.cutV]
    | some o =>
      obtain ⟨q, ho⟩ := hhi
      simp [execOp, he.eval hx, he.eval ho, Instr.sliceAt, Instr.slice, Instr.sliceBounds, Instr.sliceBound, asIntOf, underlying, hu, h3, sizeOf, typeInfo, hf, Go.Proofs.Yteopadjihklkmaa.cutV]
  | some p =>
    obtain ⟨q', hp⟩ := hlo
    cases hi with
    | none =>
      obtain rfl : j = m := hhi
      simp [execOp, he.eval hx, he.eval hp, Instr.sliceAt, Instr.slice, Instr.sliceBounds, Instr.sliceBound, asIntOf, underlying, hu, h1, sizeOf, typeInfo, hf, hs, Go.Proofs.Yteopadjihklkmaa.cutV]
    | some o =>
      obtain ⟨q, ho⟩ := hhi
      simp [execOp, he.eval hx, he.eval ho, he.eval hp, Instr.sliceAt, Instr.slice, Instr.sliceBounds, Instr.sliceBound, asIntOf, underlying, hu, h3, h1, sizeOf, typeInfo, hf, hs, Go.Proofs.Yteopadjihklkmaa.cutV]
theorem OpOk.cutC0 {t e : TypeId} {x hi : Operand} {g size m cap j : Nat} (hu : P.underlying t = some (.slice e)) {zz : Value} {bb : Nat} (hz : TyI P e zz size bb)
    (hx : ev E x = some (.slice (some ⟨g, 0, none⟩) m cap)) (hhi : ∃ q, ev E hi = some (.int q j)) (h3 : j ≤ cap) :
    OpOk P n w0 (.slice t x none (some hi) none) ty E A (.slice (some ⟨g, 0, none⟩) j cap) := by
  have h := OpOk.cutK (ty := ty) (A := A) (n := n) (w0 := w0) (lo := none) (hi := some hi) (i := 0) (j := j) hu hz hx rfl hhi (Nat.zero_le _) h3
  have e1 : cutV (.slice (some ⟨g, 0, none⟩) m cap) 0 j size = .slice (some ⟨g, 0, none⟩) j cap := by
    simp [cutV, Addr.add]
  rw [e1] at h
  exact h
theorem cutV_C {g m cap i j size : Nat} : cutV (.slice (some ⟨g, 0, none⟩) m cap) i j size = .slice (some ⟨g, if cap = i then 0 else i * size, none⟩) (j - i) (cap - i) := by
  simp only [cutV, Option.map_some]
  by_cases h : cap = i
  · rw [if_pos h, if_pos h]
  · rw [if_neg h, if_neg h]
    congr 2
    unfold Addr.add
    split <;> simp_all
theorem OpOk.cutCp {t e : TypeId} {x lo : Operand} {hi : Option Operand} {g size m cap i j : Nat} (hu : P.underlying t = some (.slice e)) {zz : Value} {bb : Nat} (hz : TyI P e zz size bb)
    (hx : ev E x = some (.slice (some ⟨g, 0, none⟩) m cap)) (hlo : ∃ q, ev E lo = some (.int q i)) (hhi : match hi with | none => j = m | some o => ∃ q, ev E o = some (.int q j)) (h1 : i ≤ j) (h3 : j ≤ cap) (h4 : i < cap) :
    OpOk P n w0 (.slice t x (some lo) hi none) ty E A (.slice (some ⟨g, i * size, none⟩) (j - i) (cap - i)) := by
  have h := OpOk.cutK (ty := ty) (A := A) (n := n) (w0 := w0) (lo := some lo) (hi := hi) (i := i) (j := j) hu hz hx hlo hhi h1 h3
  rw [cutV_C, if_neg (by omega)] at h
  exact h
theorem OpOk.cutC {t e : TypeId} {x lo : Operand} {hi : Option Operand} {g size m cap i j : Nat} (hu : P.underlying t = some (.slice e)) {zz : Value} {bb : Nat} (hz : TyI P e zz size bb)
    (hx : ev E x = some (.slice (some ⟨g, 0, none⟩) m cap)) (hlo : ∃ q, ev E lo = some (.int q i)) (hhi : match hi with | none => j = m | some o => ∃ q, ev E o = some (.int q j)) (h1 : i ≤ j) (h3 : j ≤ cap) :
    OpOk P n w0 (.slice t x (some lo) hi none) ty E A (.slice (some ⟨g, if cap = i then 0 else i * size, none⟩) (j - i) (cap - i)) := by
  have h := OpOk.cutK (ty := ty) (A := A) (n := n) (w0 := w0) (lo := some lo) (hi := hi) (i := i) (j := j) hu hz hx hlo hhi h1 h3
  rw [cutV_C] at h
  exact h
theorem OpOk.cutC3 {t e : TypeId} {x lo hi mx : Operand} {ad : Option Addr} {size m cap i j k : Nat} (hu : P.underlying t = some (.slice e)) {zz : Value} {bb : Nat} (hz : TyI P e zz size bb)
    (hx : ev E x = some (.slice ad m cap)) (hlo : ∃ q, ev E lo = some (.int q i)) (hhi : ∃ q, ev E hi = some (.int q j)) (hmx : ∃ q, ev E mx = some (.int q k)) (h1 : i ≤ j) (h2 : j ≤ k) (h3 : k ≤ cap) :
    OpOk P n w0 (.slice t x (some lo) (some hi) (some mx)) ty E A (Go.Proofs.Yteopadjihklkmaa.cutM (.slice ad m cap) i j k size) := by
  obtain ⟨f, hf, hs⟩ := Option.map_eq_some_iff.1 hz.size
  refine .pure fun a w _ _ _ _ he => ?_
  obtain ⟨q, ho⟩ := hhi
  obtain ⟨q', hp⟩ := hmx
  obtain ⟨q2, hl⟩ := hlo
  simp [execOp, he.eval hx, he.eval hl, he.eval ho, he.eval hp, Instr.sliceAt, Instr.slice, Instr.sliceBounds, Instr.sliceBound, asIntOf, underlying, hu, h1, h2, h3, sizeOf, typeInfo, hf, hs, Go.Proofs.Yteopadjihklkmaa.cutM]
theorem Spec.ent {f : FuncId} {args : List Value} {R R' : Value → Asn → Prop} (hr : ∀ v A', R v A' → ∃ A2, (∀ w, Sat w0 w A' → Sat w0 w A2) ∧ R' v A2) (h : Spec P w0 f args A R) : Spec P w0 f args A R' :=
  ⟨fun w hs => (h.out w hs).mono fun _ _ ⟨v, _, hR, he, hs⟩ => let ⟨A2, e, hR2⟩ := hr _ _ hR; ⟨v, A2, hR2, he, e _ hs⟩⟩
theorem Sat.own_of_list {w : World} {e size n cap g : Nat} {cs xs : List Value} {J : Asn} (hs : Sat w0 w (A * J * pts g (.cells cs.toArray e (0, 0)))) (hl : xs.length = n * size) (h1 : n ≤ cap) (h2 : cap ≤ maxLen) (h3 : cs.length = cap * size) (h4 : cs.take (n * size) = xs) : Sat w0 w (A * own e size (.slice (some ⟨g, 0, none⟩) n cap) n xs) := by
  have h := hs.entr (own_of_pts (e := e) hl h1 h2 (by simpa using h3) (by simpa using h4))
  exact (h.conv (by ac_rfl : _ = A * own e size (.slice (some ⟨g, 0, none⟩) n cap) n xs * J)).weak
/-- What a slice of the call's own is, laid open. -/
theorem Spec.openOwn {f : FuncId} {v : Value} {rest : List Value} {e size m : Nat} {xs : List Value} {R : Value → Asn → Prop} (hm : 0 < m)
    (h : ∀ (g cap : Nat) (cs : List Value), m ≤ cap → cap ≤ maxLen → cs.length = cap * size → cs.take (m * size) = xs → Spec P w0 f (.slice (some ⟨g, 0, none⟩) m cap :: rest) (A * pts g (.cells cs.toArray e (0, 0))) R) : Spec P w0 f (v :: rest) (A * own e size v m xs) R := by
  refine ⟨fun w hs => ?_⟩
  rcases hs.ownForm with ⟨_, h2, _⟩ | ⟨g, cap, cur, rfl, h2, h3, h4, h5, s⟩
  · omega
  · exact (h g cap cur.toList h2 h3 (by simpa using h4) h5).out w (by simpa using s)
theorem del_list {cs zs xs : List Value} {i j m s cap : Nat} (hij : i < j) (hj : j ≤ m) (hm : m ≤ cap) (hl : cs.length = cap * s) (hx : cs.take (m * s) = xs) (hz : zs.length = (m - (i + (m - j))) * s) :
    let ds := cs.take (i * s) ++ ((cs.drop (j * s)).take ((m - j) * s) ++ cs.drop ((i + (m - j)) * s))
    let fs := ds.take ((i + (m - j)) * s) ++ (zs ++ ds.drop ((i + (m - j)) * s + (m - (i + (m - j))) * s))
    ds.length = cap * s ∧ fs.length = cap * s ∧ fs.take ((i + (m - j)) * s) = xs.take (i * s) ++ xs.drop (j * s) := by
  have e1 : (i + (m - j)) * s = i * s + (m - j) * s := Nat.add_mul _ _ _
  have e2 : m * s = j * s + (m - j) * s := by rw [← Nat.add_mul]; congr 1; omega
  have e3 : i * s ≤ j * s := Nat.mul_le_mul_right _ (by omega)
  have e4 : m * s ≤ cap * s := Nat.mul_le_mul_right _ hm
  have e5 : (i + (m - j)) * s + (m - (i + (m - j))) * s = m * s := by rw [← Nat.add_mul]; congr 1; omega
  intro ds fs
  have hds : ds.length = cap * s := by
    simp only [ds, List.length_append, List.length_take, List.length_drop]
    omega
  have hfs : fs.length = cap * s := by
    simp only [fs, List.length_append, List.length_take, List.length_drop, hds, hz]
    omega
  refine ⟨hds, hfs, ?_⟩
  have h1 : (ds.take ((i + (m - j)) * s)).length = (i + (m - j)) * s := by rw [List.length_take, hds]; omega
  simp only [fs]
  rw [List.take_left' h1]
  simp only [ds]
  rw [← List.append_assoc, List.take_left' (by simp only [List.length_append, List.length_take, List.length_drop]; omega), ← hx, List.take_take, List.drop_take, show min (i * s) (m * s) = i * s by omega, show m * s - j * s = (m - j) * s by omega]
theorem own_of_list {e size n cap g : Nat} {cs xs : List Value} (hl : xs.length = n * size) (h1 : n ≤ cap) (h2 : cap ≤ maxLen) (h3 : cs.length = cap * size) (h4 : cs.take (n * size) = xs) : Ent (pts g (.cells cs.toArray e (0, 0))) (own e size (.slice (some ⟨g, 0, none⟩) n cap) n xs) :=
  own_of_pts hl h1 h2 (by simpa using h3) (by simpa using h4)
/-! ### Writing within a block's room -/
def putAll (cur : Array Value) : Nat → List Value → Array Value
  | _, [] => cur
  | o, v :: r => putAll (cur.setIfInBounds o v) (o + 1) r
theorem putAll_toList : ∀ (vs : List Value) (o : Nat) (cur : Array Value), o + vs.length ≤ cur.size → (putAll cur o vs).toList = cur.toList.take o ++ (vs ++ cur.toList.drop (o + vs.length))
  | [], o, cur, _ => by simp [putAll]
  | v :: r, o, cur, h => by
    have h' : o + (r.length + 1) ≤ cur.size := by simpa using h
    rw [putAll, putAll_toList r (o + 1) _ (by simp; omega)]
    have hl : o < cur.toList.length := by simp; omega
    have e : (cur.setIfInBounds o v).toList = cur.toList.take o ++ v :: cur.toList.drop (o + 1) := by
      rw [Array.toList_setIfInBounds, List.set_eq_take_append_cons_drop, if_pos hl]
    have ht : (cur.toList.take o).length = o := by rw [List.length_take]; omega
    rw [e, List.take_append, List.drop_append, ht, List.take_of_length_le (l := cur.toList.take o) (by rw [ht]; omega), List.drop_of_length_le (l := cur.toList.take o) (by rw [ht]; omega), show o + 1 - o = 1 by omega, show o + 1 + r.length - o = r.length + 1 by omega, List.drop_succ_cons, List.drop_drop, List.length_cons, show o + 1 + r.length = o + (r.length + 1) by omega]
    simp
theorem Sat.setCells {w0 : World} {A : Asn} {b : Nat} {t : TypeId} {fr : Nat × Nat} : ∀ (vs : List Value) (o : Nat) (w : World) (cur : Array Value), Sat w0 w (A * pts b (.cells cur t fr)) → Sat w0 (w.setCells b o vs) (A * pts b (.cells (putAll cur o vs) t fr))
  | [], _, _, _, h => h
  | v :: r, o, _, _, h => Sat.setCells r (o + 1) _ _ (h.setCell v)
theorem Sat.cellIs {w : World} {b i : Nat} {cs : List Value} {t : TypeId} {fr : Nat × Nat} (h : Sat w0 w (A * pts b (.cells cs.toArray t fr))) (hi : i < cs.length) : (w.cell? ⟨b, i, none⟩).isSome = true := by
  have := (Cell.pts (w0 := w0) (A := A) (b := b) (t := t) (fr := fr) (cs := cs.toArray) (i := i) (v := cs[i]) (by simp [hi])).out w h
  rw [this]
  rfl
theorem Sat.frozenNot {w : World} {b i : Nat} {cs : Array Value} {t : TypeId} (h : Sat w0 w (A * pts b (.cells cs t (0, 0)))) : w.frozen? ⟨b, i, none⟩ = false := by
  simp [World.frozen?, h.get]
/-- append of what lies in the same block, where there is room. -/
theorem RunL.appendIn {d : Nat} {t e t2 : TypeId} {x y : Operand} {v2 z : Value} {g i c cap q size bytes : Nat} {cs : List Value} {A1 : Asn} {ats : Array TypeId} (hu : P.underlying t = some (.slice e)) (hz : TyI P e z size bytes) (hats : ats = #[t, t])
    (hx : ev E x = some (.slice (some ⟨g, 0, none⟩) i cap)) (hy : ev E y = some v2) (hv : ∃ ad capy, v2 = .slice ad c capy ∧ c ≤ capy ∧ (0 < c → ad = some ⟨g, q, none⟩)) (hA : A = A1 * pts g (.cells cs.toArray t2 (0, 0)))
    (hroom : i + c ≤ cap) (hq : q + c * size ≤ cs.length) (hi : (i + c) * size ≤ cs.length) (h1 : ∀ u ∈ (cs.drop q).take (c * size), u.oneCell' = true) (hd : Nat.blt d n = true)
    (r : RunL P n w0 ops l K ((d, .slice (some ⟨g, 0, none⟩) (i + c) cap) :: E) (A1 * pts g (.cells (cs.take (i * size) ++ ((cs.drop q).take (c * size) ++ cs.drop ((i + c) * size))).toArray t2 (0, 0)))) :
    RunL P n w0 ops ({ dst := some d, op := .call { callee := .builtin .append, args := #[x, y], argTypes := ats }, type := ty, pos := ps, after := af, guard := none } :: l) K E A := by
  subst hA hats
  obtain ⟨f, hf, hfz, hs1, hb⟩ := hz.get
  subst hs1
  obtain ⟨ad, capy, rfl, hcy, had⟩ := hv
  refine ⟨fun a w he hs => ?_⟩
  refine wpList_plain rfl fun K' hK => ?_
  unfold Oper.wp
  have hmul : (i + c) * f.size = i * f.size + c * f.size := Nat.add_mul _ _ _
  have hlen : ((cs.drop q).take (c * f.size)).length = c * f.size := by rw [List.length_take, List.length_drop]; omega
  have key : ∃ w', (Builtin.append_ #[t, t] ty #[.slice (some ⟨g, 0, none⟩) i cap, .slice ad c capy]).run P w = .ok (.slice (some ⟨g, 0, none⟩) (i + c) cap) w' ∧ Sat w0 w' (A1 * pts g (.cells (cs.take (i * f.size) ++ ((cs.drop q).take (c * f.size) ++ cs.drop ((i + c) * f.size))).toArray t2 (0, 0))) := by
    rcases Nat.eq_zero_or_pos c with rfl | hc
    · refine ⟨w, run_append_none w hu hf (by omega), ?_⟩
      simpa using hs
    · obtain rfl := had hc
      refine ⟨_, run_append_room_cells (P := P) w t ty e f hu hf g 0 i cap ⟨g, q, none⟩ c capy ((cs.drop q).take (c * f.size)) hlen (fun j u hj => ?_) h1 hroom (fun j hj => ?_) (fun j hj => hs.frozenNot), ?_⟩
      · have ha : (⟨g, q, none⟩ : Addr).add j = ⟨g, q + j, none⟩ := by unfold Addr.add; split <;> simp_all
        rw [ha]
        have hjl : j < c * f.size := by
          have := (List.getElem?_eq_some_iff.1 hj).1
          omega
        rw [List.getElem?_take_of_lt hjl, List.getElem?_drop] at hj
        exact (Cell.pts (w0 := w0) (A := A1) (b := g) (t := t2) (fr := (0, 0)) (cs := cs.toArray) (by simpa using hj)).out w hs
      · rw [hlen] at hj
        exact hs.cellIs (by omega)
      · have h2 := hs.setCells ((cs.drop q).take (c * f.size)) (0 + i * f.size)
        have e2 := putAll_toList ((cs.drop q).take (c * f.size)) (0 + i * f.size) cs.toArray (by rw [hlen]; simp; omega)
        refine h2.conv ?_
        congr 2
        apply congrArg (fun c => Obj.cells c t2 (0, 0))
        apply Array.toList_inj.1
        rw [e2, hlen]
        simp [hmul]
  obtain ⟨w', hrun, hs2⟩ := key
  have e1 : (execOp a.eval { dst := some d, op := .call { callee := .builtin .append, args := #[x, y], argTypes := #[t, t] }, type := ty, pos := ps, after := af, guard := none }).run P w = .ok (.value (.slice (some ⟨g, 0, none⟩) (i + c) cap)) w' := by
    simp [execOp, resolve, invoke, builtin, he.eval hx, he.eval hy, hrun]
  rw [e1]
  exact hK _ _ (r.out _ _ (he.put (Nat.le_of_ble_eq_true hd) _) hs2)
/-- clear of a part of a block. -/
theorem RunL.clearAt {t e t2 : TypeId} {x : Operand} {v z : Value} {g c q size bytes : Nat} {cs : List Value} {A1 : Asn} {ats : Array TypeId} (hu : P.underlying t = some (.slice e)) (hz : TyI P e z size bytes) (hats : ats = #[t])
    (hx : ev E x = some v) (hv : ∃ ad capy, v = .slice ad c capy ∧ (0 < c → ad = some ⟨g, q, none⟩)) (hA : A = A1 * pts g (.cells cs.toArray t2 (0, 0))) (hzs : z.cells.size = size) (hq : q + c * size ≤ cs.length) (h1 : ∀ u ∈ z.cells.toList, u.oneCell' = true)
    (r : ∀ zs : List Value, zs.length = c * size → RunL P n w0 ops l K E (A1 * pts g (.cells (cs.take q ++ (zs ++ cs.drop (q + c * size))).toArray t2 (0, 0)))) :
    RunL P n w0 ops ({ dst := none, op := .call { callee := .builtin .clear, args := #[x], argTypes := ats }, type := ty, pos := ps, after := af, guard := none } :: l) K E A := by
  subst hA hats
  obtain ⟨f, hf, hfz, hs1, hb⟩ := hz.get
  obtain ⟨ad, capy, rfl, had⟩ := hv
  refine ⟨fun a w he hs => ?_⟩
  refine wpList_plain rfl fun K' hK => ?_
  unfold Oper.wp
  have key : ∃ w' zs, zs.length = c * size ∧ (Builtin.clear_ #[t] ty #[.slice ad c capy]).run P w = .ok (.tuple #[]) w' ∧ Sat w0 w' (A1 * pts g (.cells (cs.take q ++ (zs ++ cs.drop (q + c * size))).toArray t2 (0, 0))) := by
    rcases Nat.eq_zero_or_pos c with rfl | hc
    · refine ⟨w, [], by simp, ?_, by simpa using hs⟩
      cases ad <;> simp [Builtin.clear_, run_underlying hu]
    · obtain rfl := had hc
      have hl : (Builtin.zeroCells z.cells c).toList.length = c * size := by simp [Builtin.zeroCells, hzs]
      have hone : ∀ u ∈ (Builtin.zeroCells z.cells c).toList, u.oneCell' = true := fun u hu => by
        have hu2 : u ∈ (Array.range (c * z.cells.size)).map fun i => z.cells[i % z.cells.size]! := by simpa [Builtin.zeroCells] using hu
        obtain ⟨i, hi, rfl⟩ := Array.mem_map.1 hu2
        have hi2 : i < c * z.cells.size := by simpa using hi
        have hp : 0 < z.cells.size := Nat.pos_of_ne_zero fun h => by rw [h] at hi2; simp at hi2
        have hlt := Nat.mod_lt i hp
        rw [getElem!_pos z.cells (i % z.cells.size) hlt]
        exact h1 _ (by simp)
      have hst := run_storeCells_cells (P := P) g q (Builtin.zeroCells z.cells c).toList 0 w (fun j hj => hs.cellIs (by rw [hl] at hj; omega)) (fun j hj => hs.frozenNot) hone
      refine ⟨w.setCells g (q + 0) (Builtin.zeroCells z.cells c).toList, (Builtin.zeroCells z.cells c).toList, hl, ?_, ?_⟩
      · have hzv : (zeroValue e).run P w = .ok z w := by
          simp [zeroValue, typeInfo, hf, hfz]
        have h0 : ¬ c = 0 := by omega
        simp [Builtin.clear_, run_underlying hu, hzv, hst, h0]
      · have h2 := hs.setCells (Builtin.zeroCells z.cells c).toList (q + 0)
        have e2 := putAll_toList (Builtin.zeroCells z.cells c).toList (q + 0) cs.toArray (by rw [hl]; simp; omega)
        refine h2.conv ?_
        apply congrArg (fun c => A1 * pts g (Obj.cells c t2 (0, 0)))
        apply Array.toList_inj.1
        rw [e2, hl]
        simp
  obtain ⟨w', zs, hzl, hrun, hs2⟩ := key
  have e1 : (execOp a.eval { dst := none, op := .call { callee := .builtin .clear, args := #[x], argTypes := #[t] }, type := ty, pos := ps, after := af, guard := none }).run P w = .ok (.value (.tuple #[])) w' := by
    simp [execOp, resolve, invoke, builtin, he.eval hx, hrun]
  rw [e1]
  exact hK _ _ ((r zs hzl).out _ _ he hs2)
end
end Go.Proofs.Yteopadjihklkmaa
end
