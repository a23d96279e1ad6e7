/- Stores over an element of several cells. Words of our own. -/
import Derived.Test.YteopadjihklkmaaLe
namespace Go.Proofs.Yteopadjihklkmaa
open Go Go.Proofs
set_option maxRecDepth 100000
theorem FlDrop {α : Type} {enc : α → List Value} {s : Nat} (h : ∀ x, (enc x).length = s) : ∀ (xs : List α) (i : Nat), (Fl enc xs).drop (i * s) = Fl enc (xs.drop i)
  | xs, 0 => by simp
  | [], i + 1 => by simp [Fl]
  | x :: r, i + 1 => by
    rw [show Fl enc (x :: r) = enc x ++ Fl enc r from rfl, show (i + 1) * s = (enc x).length + i * s by rw [h x, Nat.succ_mul, Nat.add_comm], List.drop_append, List.drop_eq_nil_of_le (by omega), List.nil_append]
    rw [show (enc x).length + i * s - (enc x).length = i * s by omega, FlDrop h r i]
    rfl
theorem FlTake {α : Type} {enc : α → List Value} {s : Nat} (h : ∀ x, (enc x).length = s) : ∀ (xs : List α) (i : Nat), (Fl enc xs).take (i * s) = Fl enc (xs.take i)
  | xs, 0 => by simp [Fl]
  | [], i + 1 => by simp [Fl]
  | x :: r, i + 1 => by
    rw [show Fl enc (x :: r) = enc x ++ Fl enc r from rfl, show (i + 1) * s = (enc x).length + i * s by rw [h x, Nat.succ_mul, Nat.add_comm], List.take_append, List.take_of_length_le (by omega)]
    rw [show (enc x).length + i * s - (enc x).length = i * s by omega, FlTake h r i]
    rfl
theorem FlSet {α : Type} {enc : α → List Value} {s : Nat} (h : ∀ x, (enc x).length = s) (xs : List α) {i : Nat} (hi : i < xs.length) (y : α) : (Fl enc xs).take (i * s) ++ enc y ++ (Fl enc xs).drop (i * s + s) = Fl enc (xs.set i y) := by
  rw [show i * s + s = (i + 1) * s by rw [Nat.succ_mul], FlTake h, FlDrop h, List.set_eq_take_append_cons_drop, if_pos hi]
  simp [Fl, List.append_assoc]
section
variable {P : Program} {n : Nat} {w0 : World} {ops : Array Oper} {l : List Oper} {K : Act → World → Prop} {E : Env} {A : Asn} {ty : TypeId} {ps : String} {af : Array Edge}
theorem RunL.storeOwnM {t e : TypeId} {x y : Operand} {v u : Value} {us : List Value} {q m k size : Nat} {xs : List Value} {A1 : Asn} {zz : Value} {bb : Nat} (hz : TyI P t zz k bb) (hx : ev E x = some (.pointer (some ((adr v).add q)))) (hy : ev E y = some u) (hc : u.cells.toList = us) (hk : us.length = k) (h1 : ∀ w ∈ us, w.oneCell' = true)
    (hA : A = A1 * own e size v m xs) (hi : q + k ≤ m * size) (h0 : 0 < k) (r : RunL P n w0 ops l K E (A1 * own e size v m (xs.take q ++ us ++ xs.drop (q + k)))) :
    RunL P n w0 ops ({ dst := none, op := .store t x y, type := ty, pos := ps, after := af, guard := none } :: l) K E A := by
  subst hA
  refine RunL.unit (X := Unit) (fun _ => A1 * own e size v m (xs.take q ++ us ++ xs.drop (q + k))) (fun a w he hs => ?_) fun _ => r
  obtain ⟨f, hf, hsz⟩ := Option.map_eq_some_iff.1 hz.size
  have hl := hs.ownLen.1
  rcases hs.ownForm with ⟨_, rfl, _⟩ | ⟨g, cap, cur, rfl, h2, h3, h4, h5, s⟩
  · omega
  · have hq : q + k ≤ cur.size := by rw [h4]; exact Nat.le_trans hi (Nat.mul_le_mul_right _ h2)
    have ha : (adr (.slice (some ⟨g, 0, none⟩) m cap)).add q = ⟨g, q, none⟩ := by
      show (⟨g, 0, none⟩ : Addr).add q = _
      unfold Addr.add
      split <;> simp_all
    rw [ha] at hx
    have hst := run_storeCells_at P g q e us 0 cur w s.get (by omega) h1
    simp only [Nat.add_zero, hk] at hst
    have hcs : u.cells.size = k := by rw [← hk, ← hc]; simp
    refine ⟨(), w.setRow g (cur.toList.take q ++ us ++ cur.toList.drop (q + k)).toArray, ?_, ?_⟩
    · simp [execOp, he.eval hx, he.eval hy, Instr.storeAt, Instr.sureAddr, storeVar, sizeOf, typeInfo, hf, hsz, hc, hcs, hst]
    · have hlen : (cur.toList.take q ++ us ++ cur.toList.drop (q + k)).length = cur.size := by
        rw [List.length_append, List.length_append, List.length_take, List.length_drop, hk, Array.length_toList]; omega
      have s2 : Sat w0 (w.setRow g (cur.toList.take q ++ us ++ cur.toList.drop (q + k)).toArray) (A1 * pts g (.cells (cur.toList.take q ++ us ++ cur.toList.drop (q + k)).toArray e (0, 0))) :=
        s.upd rfl rfl rfl (by simp) (fun p h _ => setRow_other w g p _ h) (setRow_heap w g cur _ e _ s.get)
      refine s2.entr (own_of_pts ?_ h2 h3 (by rw [List.size_toArray, hlen]; exact h4) ?_)
      · rw [List.length_append, List.length_append, List.length_take, List.length_drop, hk]; omega
      · rw [← h5]
        show (cur.toList.take q ++ us ++ cur.toList.drop (q + k)).take (m * size) = _
        have hcl : cur.toList.length = cur.size := by simp
        rw [List.take_append, List.take_append, List.length_append, List.length_take, hk, List.take_take, List.take_of_length_le (l := us) (by rw [hk]; omega), List.take_take, List.drop_take]
        congr 2
        · rw [Nat.min_comm]
        · congr 1
          omega
theorem RunL.storeFl {α : Type} {enc : α → List Value} [OneC enc] {t e : TypeId} {x y : Operand} {v : Value} {cs : Array Value} {i m size : Nat} {ys : List α} {A1 : Asn} {zz : Value} {bb : Nat} (b : α) (hz : TyI P t zz size bb) (hx : ev E x = some (.pointer (some ((adr v).add (i * size))))) (hy : ev E y = some (.agg cs)) (hc : cs.toList = enc b)
    (hs : ∀ y, (enc y).length = size) (h0 : Nat.ble 1 size = true) (hA : A = A1 * own e size v m (Fl enc ys)) (hm : ys.length = m) (hi : i < m) (r : RunL P n w0 ops l K E (A1 * own e size v m (Fl enc (ys.set i b)))) :
    RunL P n w0 ops ({ dst := none, op := .store t x y, type := ty, pos := ps, after := af, guard := none } :: l) K E A := by
  have hle : i * size + size ≤ m * size := by
    have := Nat.mul_le_mul_right size (show i + 1 ≤ m by omega)
    rwa [Nat.succ_mul] at this
  refine RunL.storeOwnM (us := enc b) hz hx hy hc (hs b) (fun w hw => OneC.one (enc := enc) b w hw) hA hle (Nat.le_of_ble_eq_true h0) ?_
  rw [FlSet hs ys (by omega) b]
  exact r
/-- The address of an element of one cell, by whatever tells the slice's form. -/
theorem OpOk.idxAny1N {B : Asn} {t e : TypeId} {x y : Operand} {v : Value} {m : Nat} {xs : List Value} {q : IntKind} {i : Nat} (hu : P.underlying t = some (.slice e)) {zz : Value} {bb : Nat} (hz : TyI P e zz 1 bb) (hx : ev E x = some v) (rd : Rd w0 B v 1 m xs)
    (hy : ev E y = some (.int q ((i : Nat) : Int))) (h1 : i < m) : OpOk P n w0 (.indexAddr t x y) ty E A (.pointer (some ((adr v).add i))) := by
  obtain ⟨ad, cap, hv, _, ha⟩ := rd.form
  have ha := ha (by omega)
  obtain ⟨f, hf, hs⟩ := Option.map_eq_some_iff.1 hz.size
  refine .pure fun a w _ _ _ _ he => ?_
  have hx' := he.eval hx
  rw [hv] at hx'
  rw [ha] at hx'
  simp [execOp, hx', he.eval hy, Instr.indexAt, asIntOf, underlying, hu, h1, sizeOf, typeInfo, hf, hs]
/-- An element of one cell. -/
theorem OpOk.loadRow {α : Type} {enc : α → List Value} {t : TypeId} {d : TypeDesc} {x : Operand} {v u : Value} {i m : Nat} {ys : List α} (z : α) (hu : P.underlying t = some d) (hd : aggD d = false) (hx : ev E x = some (.pointer (some ((adr v).add (i + 0)))))
    (rd : Rd w0 A v 1 m (Fl enc ys)) (hs : ∀ y, (enc y).length = 1) (hi : i < m) (hj : (enc (ys.getD i z))[0]? = some u) : OpOk P n w0 (.load t x) ty E A u :=
  OpOk.loadFl1 (i := i) (j := 0) z hu hd (by rw [Nat.mul_one]; exact hx) rd hs rfl hi hj
theorem OpOk.loadRowE {α : Type} {enc : α → List Value} {t : TypeId} {d : TypeDesc} {x : Operand} {v u : Value} {i m : Nat} {ys : List α} {z y : α} (he : ys.getD i z = y) (hu : P.underlying t = some d) (hd : aggD d = false) (hx : ev E x = some (.pointer (some ((adr v).add (i + 0)))))
    (rd : Rd w0 A v 1 m (Fl enc ys)) (hs : ∀ y, (enc y).length = 1) (hi : i < m) (hj : (enc y)[0]? = some u) : OpOk P n w0 (.load t x) ty E A u := by
  subst he
  exact OpOk.loadRow z hu hd hx rd hs hi hj
theorem Fl_set1 {α : Type} {enc : α → List Value} (h : ∀ x, (enc x).length = 1) {xs : List α} {i : Nat} (hi : i < xs.length) {u : Value} {y : α} (hy : enc y = [u]) : (Fl enc xs).set i u = Fl enc (xs.set i y) := by
  have e := FlSet h xs hi y
  rw [Nat.mul_one, hy] at e
  rw [← e, List.set_eq_take_append_cons_drop, if_pos (by
    have : ∀ l : List α, (Fl enc l).length = l.length := fun l => by
      induction l with
      | nil => rfl
      | cons a r ih => rw [show Fl enc (a :: r) = enc a ++ Fl enc r from rfl, List.length_append, ih, h a, List.length_cons, Nat.add_comm]
    rw [this]; exact hi)]
  simp
/-- A value of one cell as the one result, kept in a cell. -/
theorem Run.retC1 {f : FuncId} {fn : Func} {R' : Value → Asn → Prop} {q t : Nat} {d : TypeDesc} {b : Nat} {cs : List Value} {u : Value} {todo : List Item} (hf : P.funcs[f]? = some fn) (hr : fn.results = #[.cell q t]) (hu : P.underlying t = some d) (hd : aggD d = false)
    (hq : lk E q = some (.pointer (some ⟨b, 0, none⟩))) (h : Blk w0 A b cs) (h0 : cs[0]? = some u) {A' : Asn} (g : Grew A' A) (hR : R' u A') : Run P ⟨f, none, []⟩ n (Post w0 R') w0 (.code .ret :: todo) E A := by
  refine ⟨fun a w he hs => ?_⟩
  obtain ⟨J, hJ⟩ := g
  refine Runs.ret hf he.defers (v := u) ?_ hR (hs.conv hJ).weak
  simp only [results, hr]
  rw [show #[ResultVar.cell q t] = [ResultVar.cell q t].toArray from rfl, List.mapM_toArray]
  have e1 := he.look q _ hq
  rw [Array.getD_eq_getD_getElem?] at e1
  have e2 : (loadVar t ⟨b, 0, none⟩).run P w = .ok u w := by
    simp only [loadVar, Sem.run_bind, Result.andThen_ok, run_isAgg w hu, hd, Bool.false_eq_true, if_false, run_load_cell ((h.out 0 u h0).out w hs)]
  simp [asAddr, e1, e2]
end
end Go.Proofs.Yteopadjihklkmaa
