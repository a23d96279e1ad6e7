/- Maps: a list of keys and values; reading, writing and making. Words of our own. -/
import Derived.Test.YteopadjihklkmaaDl
import Derived.Maps.Keyed
import Derived.WideMake
import Derived.Deep.Slices
namespace Go.Proofs.Yteopadjihklkmaa
open Go Go.Proofs
theorem one_int (k : IntKind) (i : Int) : (Value.int k i).oneCell' = true := rfl
theorem one_bool (b : Bool) : (Value.bool b).oneCell' = true := rfl
theorem one_S (s : List UInt8) : (S s).oneCell' = true := rfl
theorem one_str (s : ByteArray) : (Value.string s).oneCell' = true := rfl
theorem one_slice (a : Option Addr) (n c : Nat) : (Value.slice a n c).oneCell' = true := rfl
theorem one_map (b : Option Nat) : (Value.map b).oneCell' = true := rfl
theorem one_ptr (a : Option Addr) : (Value.pointer a).oneCell' = true := rfl
/-- A value of one cell. -/
abbrev SV := { v : Value // v.oneCell' = true }
instance : Inhabited SV := ⟨⟨.slice none 0 0, rfl⟩⟩
/-- A new block whose address is told later. -/
def boxA (v : Value) (e : TypeId) (cs : Array Value) : Asn := ⟨fun h => ∃ b, v = .pointer (some ⟨b, 0, none⟩) ∧ (pts b (.cells cs e (0, 0))).holds h⟩
theorem boxA_eq (b : Nat) (e : TypeId) (cs : Array Value) : boxA (.pointer (some ⟨b, 0, none⟩)) e cs = pts b (.cells cs e (0, 0)) := by
  refine Asn.ext' fun p => ⟨?_, fun h => ⟨b, rfl, h⟩⟩
  rintro ⟨c, h, h2⟩
  simp only [Value.pointer.injEq, Option.some.injEq, Addr.mk.injEq, and_true] at h
  exact h ▸ h2
theorem boxOf {w0 : World} {v : Value} {e : TypeId} {cs : Array Value} (h : ∃ w X, Sat w0 w (X * boxA v e cs)) : ∃ b, v = .pointer (some ⟨b, 0, none⟩) := by
  obtain ⟨w, X, s⟩ := h
  exact s.fact fun q hq => let ⟨b, h, _⟩ := hq; ⟨b, h⟩
theorem RunL.allocX {P : Program} {n : Nat} {w0 : World} {ops : Array Oper} {l : List Oper} {K : Act → World → Prop} {E : Env} {A : Asn} {ty : TypeId} {ps : String} {af : Array Edge} {d : Nat} {t : TypeId} {z : Value} {size bytes : Nat} (hi : TyI P t z size bytes) (hd : Nat.blt d n = true)
    (r : ∀ v, RunL P n w0 ops l K ((d, v) :: E) (A * boxA v t z.cells)) : RunL P n w0 ops ({ dst := some d, op := .alloc t, type := ty, pos := ps, after := af, guard := none } :: l) K E A :=
  RunL.alloc hi hd fun b => by
    have := r (.pointer (some ⟨b, 0, none⟩))
    rwa [boxA_eq] at this
/-- A part that is a struct, of a struct in a slice. -/
theorem OpOk.loadFlG {P : Program} {n : Nat} {w0 : World} {E : Env} {A : Asn} {ty : TypeId} {α : Type} {enc : α → List Value} {t : TypeId} {d : TypeDesc} {x : Operand} {v : Value} {i o m size sz : Nat} {ys : List α} (z : α) (cs : List Value) (hu : P.underlying t = some d) (hd : aggD d = true) {zz : Value} {bb : Nat} (hz : TyI P t zz sz bb)
    (hx : ev E x = some (.pointer (some ((adr v).add (i * size + o))))) (rd : Rd w0 A v size m (Fl enc ys)) (hs : ∀ y, (enc y).length = size) (hi : i < m) (hm : ys.length = m) (hc : ((enc (ys.getD i z)).drop o).take sz = cs) (hl : cs.length = sz) :
    OpOk P n w0 (.load t x) ty E A (.agg cs.toArray) :=
  OpOk.loadG hu hd hz hx hl fun j u hj => by
    subst hc
    rw [List.getElem?_take] at hj
    split at hj
    · rw [List.getElem?_drop] at hj
      have := rd.cell (Fl_get hs z (show i < ys.length by omega) _ _ hj)
      have e : ((adr v).add (i * size + o)).add j = (adr v).add (i * size + (o + j)) := by rw [Go.Deep.add_add, Nat.add_assoc]
      rw [e]
      exact this
    · cases hj
section lists
variable {K V : Type} [DecidableEq K]
def mget : List (K × V) → K → Option V
  | [], _ => none
  | p :: r, a => if a = p.1 then some p.2 else mget r a
def mput : List (K × V) → K → V → List (K × V)
  | [], a, x => [(a, x)]
  | p :: r, a, x => if a = p.1 then (a, x) :: r else p :: mput r a x
def idx : List (K × V) → K → Nat → Option (Nat × V)
  | [], _, _ => none
  | p :: r, a, i => if a = p.1 then some (i, p.2) else idx r a (i + 1)
theorem idx_none {a : K} {x : V} : ∀ {l : List (K × V)} {i : Nat}, idx l a i = none → mget l a = none ∧ mput l a x = l ++ [(a, x)]
  | [], _, _ => ⟨rfl, rfl⟩
  | p :: r, i, h => by
    simp only [idx] at h
    by_cases e : a = p.1
    · rw [if_pos e] at h; cases h
    · rw [if_neg e] at h
      obtain ⟨h1, h2⟩ := idx_none (x := x) h
      exact ⟨by rw [mget, if_neg e, h1], by rw [mput, if_neg e, h2]; rfl⟩
theorem idx_none0 {a : K} : ∀ {l : List (K × V)} {i : Nat}, idx l a i = none → mget l a = none
  | [], _, _ => rfl
  | p :: r, i, h => by
    simp only [idx] at h
    by_cases e : a = p.1
    · rw [if_pos e] at h; cases h
    · rw [if_neg e] at h
      rw [mget, if_neg e, idx_none0 h]
theorem idx_some {a : K} {x : V} : ∀ {l : List (K × V)} {i j : Nat} {v : V}, idx l a i = some (j, v) → mget l a = some v ∧ ∃ q, j = i + q ∧ q < l.length ∧ mput l a x = l.set q (a, x) ∧ l[q]? = some (a, v)
  | [], _, _, _, h => by cases h
  | p :: r, i, j, v, h => by
    simp only [idx] at h
    by_cases e : a = p.1
    · rw [if_pos e] at h
      simp only [Option.some.injEq, Prod.mk.injEq] at h
      obtain ⟨rfl, rfl⟩ := h
      exact ⟨by rw [mget, if_pos e], 0, rfl, by simp, by rw [mput, if_pos e]; rfl, by simp [e]⟩
    · rw [if_neg e] at h
      obtain ⟨h1, q, rfl, hq, h2, h3⟩ := idx_some (x := x) h
      exact ⟨by rw [mget, if_neg e, h1], q + 1, by omega, by simpa using hq, by rw [mput, if_neg e, h2]; rfl, by simpa using h3⟩
theorem mget_mput (l : List (K × V)) (a : K) (x : V) (b : K) : mget (mput l a x) b = if b = a then some x else mget l b := by
  induction l with
  | nil => simp [mput, mget]
  | cons p r ih =>
    simp only [mput]
    by_cases e : a = p.1
    · rw [if_pos e]
      simp only [mget]
      by_cases e2 : b = a
      · simp [e2]
      · rw [if_neg e2, if_neg e2, if_neg (fun h => e2 (h.trans e.symm))]
    · rw [if_neg e]
      simp only [mget, ih]
      by_cases e2 : b = p.1
      · rw [if_pos e2, if_pos e2, if_neg (fun h => e (h.symm.trans e2))]
      · rw [if_neg e2, if_neg e2]
theorem mput_length (l : List (K × V)) (a : K) (x : V) : (mput l a x).length ≤ l.length + 1 := by
  induction l with
  | nil => simp [mput]
  | cons p r ih =>
    simp only [mput]
    split
    · simp
    · simp; omega
end lists
/-- A type of keys that are structs: how its values compare. -/
structure KeyT (P : Program) (kt : TypeId) {K : Type} [DecidableEq K] (ek : K → Value) : Prop where
  und : ∃ fs, P.underlying kt = some (.struct fs)
  agg : ∀ a, ∃ cs, ek a = .agg cs
  check : ∀ (w : World) em a, (Instr.checkKey em 10000 kt (ek a)).run P w = .ok () w
  eq : ∀ (w : World) a b, (Op.equal kt (ek a) (ek b)).run P w = .ok (decide (a = b)) w
  same : ∀ a, Instr.sameBits 10000 (ek a) (ek a) = true
/-- A type of maps. -/
structure MapT (P : Program) (t : TypeId) {K V : Type} [DecidableEq K] (ek : K → Value) (vv : V → Value) (z : Value) : Prop where
  out : ∃ kt et, P.underlying t = some (.map kt et) ∧ KeyT P kt ek ∧ ∀ w, (zeroValue et).run P w = .ok z w
/-- The block b is a map of these. -/
def mapA {K V : Type} (ek : K → Value) (vv : V → Value) (b : Nat) (l : List (K × V)) : Asn := ⟨fun h => ∃ es clock, es.toList.map (fun e => (e.key, e.val)) = l.map (fun p => (ek p.1, vv p.2)) ∧ (pts b (.map es clock)).holds h⟩
section
variable {P : Program} {n : Nat} {w0 : World} {ops : Array Oper} {l : List Oper} {Kk : Act → World → Prop} {E : Env} {A : Asn} {ty : TypeId} {ps : String} {af : Array Edge}
variable {K V : Type} [DecidableEq K] {ek : K → Value} {vv : V → Value} {z : Value} {t kt : TypeId}
omit [DecidableEq K] in
theorem Sat.mapForm {w : World} {b : Nat} {m : List (K × V)} (h : Sat w0 w (A * mapA ek vv b m)) : ∃ es clock, es.toList.map (fun e => (e.key, e.val)) = m.map (fun p => (ek p.1, vv p.2)) ∧ Sat w0 w (A * pts b (.map es clock)) := by
  obtain ⟨e1, e2, e3, e4, q, hp, h1, h2, dj, u, x, es, clock, hm, y⟩ := h
  exact ⟨es, clock, hm, e1, e2, e3, e4, q, hp, h1, h2, dj, u, x, y⟩
omit [DecidableEq K] in
theorem map_of_pts {b : Nat} {m : List (K × V)} {es : Array MapEntry} {clock : Nat} (h : es.toList.map (fun e => (e.key, e.val)) = m.map (fun p => (ek p.1, vv p.2))) : Ent (pts b (.map es clock)) (mapA ek vv b m) := fun _ hp => ⟨es, clock, h, hp⟩
theorem run_findAsking (h : KeyT P kt ek) (w : World) (a : K) : ∀ (m : List (K × V)) (es : List MapEntry) (i : Nat), es.map (fun e => (e.key, e.val)) = m.map (fun p => (ek p.1, vv p.2)) →
    (Instr.findAsking kt (ek a) es i).run P w = .ok ((idx m a i).map fun p => (p.1, vv p.2)) w
  | [], [], _, _ => by simp [Instr.findAsking, idx]
  | [], e :: es, _, hm => by simp at hm
  | p :: m, [], _, hm => by simp at hm
  | p :: m, e :: es, i, hm => by
    simp only [List.map_cons, List.cons.injEq, Prod.mk.injEq] at hm
    obtain ⟨⟨h1, h2⟩, h3⟩ := hm
    simp only [Instr.findAsking, h1, Sem.run_bind, h.eq, Result.andThen_ok, idx]
    by_cases e1 : a = p.1
    · simp [e1, h2]
    · simp only [e1, decide_false, Bool.false_eq_true, if_false]
      exact run_findAsking h w a m es (i + 1) h3
theorem run_findKeyA (h : KeyT P kt ek) (w : World) (a : K) (m : List (K × V)) (es : List MapEntry) (hm : es.map (fun e => (e.key, e.val)) = m.map (fun p => (ek p.1, vv p.2))) :
    (Instr.findKey kt (ek a) es).run P w = .ok ((idx m a 0).map fun p => (p.1, vv p.2)) w := by
  obtain ⟨fs, hu⟩ := h.und
  obtain ⟨cs, hcs⟩ := h.agg a
  have key := run_findAsking (vv := vv) h w a m es 0 hm
  simp only [Instr.findKey, Sem.run_bind, run_underlying hu, Result.andThen_ok]
  cases es with
  | nil =>
    cases m with
    | nil => simp [Instr.findNow, idx]
    | cons p m => simp at hm
  | cons e es =>
    have : Instr.findNow (.struct fs) (ek a) (e :: es) 0 = none := by
      rw [hcs]
      simp [Instr.findNow, Instr.sameNow]
    rw [this]
    exact key
theorem run_mapLook (M : MapT P t ek vv z) {w : World} {b : Nat} {es : Array MapEntry} {clock : Nat} {m : List (K × V)} (hb : w.heap[b]? = some (.map es clock)) (hm : es.toList.map (fun e => (e.key, e.val)) = m.map (fun p => (ek p.1, vv p.2))) (a : K) (c : Bool) :
    (Instr.lookup t (.map (some b)) (ek a) c).run P w = .ok (let r := match mget m a with | some v => (vv v, true) | none => (z, false); if c then .tuple #[r.1, .bool r.2] else r.1) w := by
  obtain ⟨kt, et, hu, hk, hz⟩ := M.out
  have hf := run_findKeyA (vv := vv) hk w a m es.toList hm
  cases hi : idx m a 0 with
  | none =>
    have hg : mget m a = none := idx_none0 hi
    rw [hi] at hf
    rw [hg]
    simp [Instr.lookup, run_underlying hu, MapKept.run_getObj_map hb, hk.check w, hf, hz, Result.andThen]
  | some q =>
    obtain ⟨j, v⟩ := q
    have hg := (idx_some (x := v) hi).1
    rw [hi] at hf
    rw [hg]
    simp [Instr.lookup, run_underlying hu, MapKept.run_getObj_map hb, hk.check w, hf, Result.andThen]

/-- The block b can be read as this map. -/
structure MapAt (w0 : World) (A : Asn) (ek : K → Value) (vv : V → Value) (b : Nat) (m : List (K × V)) : Prop where
  out : ∀ w, Sat w0 w A → ∃ es clock, w.heap[b]? = some (.map es clock) ∧ es.toList.map (fun e => (e.key, e.val)) = m.map (fun p => (ek p.1, vv p.2))
omit [DecidableEq K] in
theorem MapAt.here {b : Nat} {m : List (K × V)} : MapAt w0 (A * mapA ek vv b m) ek vv b m := ⟨fun _ hs => let ⟨es, clock, hm, s⟩ := hs.mapForm; ⟨es, clock, s.get, hm⟩⟩
omit [DecidableEq K] in
theorem MapAt.left {C : Asn} {b : Nat} {m : List (K × V)} (h : MapAt w0 A ek vv b m) : MapAt w0 (A * C) ek vv b m := ⟨fun w hs => h.out w hs.weak⟩
theorem OpOk.lookT {x y : Operand} {b : Nat} {m : List (K × V)} {a : K} {v : V} (M : MapT P t ek vv z) (h : MapAt w0 A ek vv b m) (hx : ev E x = some (.map (some b))) (hy : ev E y = some (ek a)) (hg : mget m a = some v) :
    OpOk P n w0 (.lookup t x y false) ty E A (vv v) := by
  refine .read fun f w _ _ _ _ he hs => ?_
  obtain ⟨es, clock, hb, hm⟩ := h.out w hs
  have := run_mapLook M hb hm a false
  rw [hg] at this
  simp only [execOp, he.eval hx, he.eval hy, Sem.run_bind, this, Result.andThen_ok, Bool.false_eq_true, if_false, Sem.run_pure]
theorem OpOk.lookF {x y : Operand} {b : Nat} {m : List (K × V)} {a : K} (M : MapT P t ek vv z) (h : MapAt w0 A ek vv b m) (hx : ev E x = some (.map (some b))) (hy : ev E y = some (ek a)) (hg : mget m a = none) :
    OpOk P n w0 (.lookup t x y false) ty E A z := by
  refine .read fun f w _ _ _ _ he hs => ?_
  obtain ⟨es, clock, hb, hm⟩ := h.out w hs
  have := run_mapLook M hb hm a false
  rw [hg] at this
  simp only [execOp, he.eval hx, he.eval hy, Sem.run_bind, this, Result.andThen_ok, Bool.false_eq_true, if_false, Sem.run_pure]
theorem OpOk.lookOkT {x y : Operand} {b : Nat} {m : List (K × V)} {a : K} {v : V} (M : MapT P t ek vv z) (h : MapAt w0 A ek vv b m) (hx : ev E x = some (.map (some b))) (hy : ev E y = some (ek a)) (hg : mget m a = some v) :
    OpOk P n w0 (.lookup t x y true) ty E A (.tuple #[vv v, .bool true]) := by
  refine .read fun f w _ _ _ _ he hs => ?_
  obtain ⟨es, clock, hb, hm⟩ := h.out w hs
  have := run_mapLook M hb hm a true
  rw [hg] at this
  simp only [execOp, he.eval hx, he.eval hy, Sem.run_bind, this, Result.andThen_ok, if_true, Sem.run_pure]
theorem OpOk.lookOkF {x y : Operand} {b : Nat} {m : List (K × V)} {a : K} (M : MapT P t ek vv z) (h : MapAt w0 A ek vv b m) (hx : ev E x = some (.map (some b))) (hy : ev E y = some (ek a)) (hg : mget m a = none) :
    OpOk P n w0 (.lookup t x y true) ty E A (.tuple #[z, .bool false]) := by
  refine .read fun f w _ _ _ _ he hs => ?_
  obtain ⟨es, clock, hb, hm⟩ := h.out w hs
  have := run_mapLook M hb hm a true
  rw [hg] at this
  simp only [execOp, he.eval hx, he.eval hy, Sem.run_bind, this, Result.andThen_ok, if_true, Sem.run_pure]
theorem OpOk.lookNil {x y : Operand} {a : K} (M : MapT P t ek vv z) (hx : ev E x = some (.map none)) (hy : ev E y = some (ek a)) : OpOk P n w0 (.lookup t x y false) ty E A z := by
  refine .pure fun f w _ _ _ _ he => ?_
  obtain ⟨kt, et, hu, hk, hz⟩ := M.out
  have hf : (Instr.findKey kt (ek a) []).run P w = .ok none w := run_findKeyA (V := V) (vv := vv) hk w a [] [] rfl
  have : (Instr.lookup t (.map none) (ek a) false).run P w = .ok z w := by simp [Instr.lookup, run_underlying hu, hk.check w, hf, hz, Result.andThen]
  simp only [execOp, he.eval hx, he.eval hy, Sem.run_bind, this, Result.andThen_ok, Sem.run_pure]
theorem OpOk.lookOkNil {x y : Operand} {a : K} (M : MapT P t ek vv z) (hx : ev E x = some (.map none)) (hy : ev E y = some (ek a)) : OpOk P n w0 (.lookup t x y true) ty E A (.tuple #[z, .bool false]) := by
  refine .pure fun f w _ _ _ _ he => ?_
  obtain ⟨kt, et, hu, hk, hz⟩ := M.out
  have hf : (Instr.findKey kt (ek a) []).run P w = .ok none w := run_findKeyA (V := V) (vv := vv) hk w a [] [] rfl
  have : (Instr.lookup t (.map none) (ek a) true).run P w = .ok (.tuple #[z, .bool false]) w := by simp [Instr.lookup, run_underlying hu, hk.check w, hf, hz, Result.andThen]
  simp only [execOp, he.eval hx, he.eval hy, Sem.run_bind, this, Result.andThen_ok, Sem.run_pure]
omit [DecidableEq K] in
theorem OpOk.lenM {x : Operand} {b : Nat} {m : List (K × V)} {c : Array TypeId} {t kt et : TypeId} (hu : P.underlying t = some (.map kt et)) (h : MapAt w0 A ek vv b m) (hx : ev E x = some (.map (some b))) (hc : c = #[t]) : OpOk P n w0 (.call { callee := .builtin .len, args := #[x], argTypes := c }) ty E A (.int .i64 m.length) := by
  subst hc
  refine .read fun f w _ _ _ _ he hs => ?_
  obtain ⟨es, clock, hb, hm⟩ := h.out w hs
  have hl : es.size = m.length := by have := congrArg List.length hm; simpa using this
  simp [execOp, he.eval hx, resolve, invoke, builtin, Builtin.len_, run_underlying hu, MapKept.run_getObj_map hb, goInt, Result.andThen, hl]
theorem run_equal_mapNil {t k e : TypeId} (w : World) (hu : P.underlying t = some (.map k e)) (b : Option Nat) : (Op.equal t (.map b) (.map none)).run P w = .ok b.isNone w := by
  show (Op.equalIn (9999 + 1) t (.map b) (.map none)).run P w = _
  rw [Op.equalIn]
  cases b <;> simp [run_underlying hu]
theorem OpOk.eqlMap {t k e u : TypeId} {x : Operand} {b : Option Nat} (hu : P.underlying t = some (.map k e)) (hx : ev E x = some (.map b)) : OpOk P n w0 (.binOp .eql t x (.const (.map none)) u) ty E A (.bool b.isNone) :=
  .pure fun a w _ _ _ _ he => by
    have e : a.eval (.const (.map none)) = .map none := rfl
    simp [execOp, he.eval hx, e, eqGuard, binOp, run_equal_mapNil w hu]
theorem run_mapPut (M : MapT P t ek vv z) {w : World} {b : Nat} {es : Array MapEntry} {clock : Nat} {m : List (K × V)} (hb : w.heap[b]? = some (.map es clock)) (hm : es.toList.map (fun e => (e.key, e.val)) = m.map (fun p => (ek p.1, vv p.2))) (a : K) (v : V) :
    ∃ es' clock', (Instr.mapUpdate t (.map (some b)) (ek a) (vv v)).run P w = .ok () (ChangeMaps.setBlock w b (.map es' clock')) ∧ es'.toList.map (fun e => (e.key, e.val)) = (mput m a v).map (fun p => (ek p.1, vv p.2)) := by
  obtain ⟨kt, et, hu, hk, hz⟩ := M.out
  have hf := run_findKeyA (vv := vv) hk w a m es.toList hm
  cases hi : idx m a 0 with
  | none =>
    rw [hi] at hf
    refine ⟨es.push ⟨ek a, vv v, clock⟩, clock + 1, ?_, ?_⟩
    · simp [Instr.mapUpdate, run_underlying hu, MapKept.run_getObj_map hb, hk.check w, hf, MapKept.run_setObj_map _ hb, Result.andThen, ChangeMaps.setBlock]
    · rw [(idx_none (x := v) hi).2, Array.toList_push, List.map_append, List.map_append, hm]
      rfl
  | some q =>
    obtain ⟨j, v0⟩ := q
    obtain ⟨_, q, hjq, hq, h2, h3⟩ := idx_some (x := v) hi
    rw [Nat.zero_add] at hjq
    subst hjq
    rw [hi] at hf
    have hl : es.size = m.length := by have := congrArg List.length hm; simpa using this
    have hj : (es.toList.map (fun e => (e.key, e.val)))[j]? = some (ek a, vv v0) := by rw [hm, List.getElem?_map, h3]; rfl
    rw [List.getElem?_map] at hj
    obtain ⟨e0, he0, hke⟩ := Option.map_eq_some_iff.1 hj
    simp only [Prod.mk.injEq] at hke
    have hea : es[j]? = some e0 := by simpa using he0
    have hst : (Instr.keyThatStays (ek a) (ek a)).run P w = .ok (ek a) w := by simp [Instr.keyThatStays, hk.same a]
    refine ⟨es.modify j (fun e => { e with key := ek a, val := vv v }), clock, ?_, ?_⟩
    · simp [Instr.mapUpdate, run_underlying hu, MapKept.run_getObj_map hb, hk.check w, hf, hea, hke.1, hst, MapKept.run_setObj_map _ hb, Result.andThen, ChangeMaps.setBlock]
    · rw [h2, Array.toList_modify, ChangeMaps.modify_eq_set _ _ _ _ he0, List.map_set, List.map_set, hm]
theorem Sat.mapSet {w : World} {b : Nat} {es es' : Array MapEntry} {clock clock' : Nat} (h : Sat w0 w (A * pts b (.map es clock))) : Sat w0 (ChangeMaps.setBlock w b (.map es' clock')) (A * pts b (.map es' clock')) :=
  h.upd rfl rfl rfl (by simp [ChangeMaps.setBlock]) (fun _ hk _ => ChangeMaps.heap_setBlock_other h.get _ hk) (ChangeMaps.heap_setBlock_same h.get _)
theorem RunL.mapPut {x y u : Operand} {b : Nat} {m : List (K × V)} {a : K} {v : V} {A1 : Asn} (M : MapT P t ek vv z) (hx : ev E x = some (.map (some b))) (hy : ev E y = some (ek a)) (hu : ev E u = some (vv v)) (hA : A = A1 * mapA ek vv b m)
    (r : RunL P n w0 ops l Kk E (A1 * mapA ek vv b (mput m a v))) :
    RunL P n w0 ops ({ dst := none, op := .mapUpdate t x y u, type := ty, pos := ps, after := af, guard := none } :: l) Kk E A := by
  subst hA
  refine ⟨fun f w he hs' => wpList_plain rfl fun K' hK => ?_⟩
  obtain ⟨es, clock, hm, s⟩ := hs'.mapForm
  obtain ⟨es', clock', hrun, hm'⟩ := run_mapPut M s.get hm a v
  unfold Oper.wp
  simp only [execOp, he.eval hx, he.eval hy, he.eval hu, Sem.run_bind, hrun, Result.andThen_ok, Sem.run_pure]
  exact hK _ _ (r.out _ _ he (s.mapSet.entr (map_of_pts hm')))
omit [DecidableEq K] in
theorem RunL.makeM {d : Nat} (hd : Nat.blt d n = true) (r : ∀ b, RunL P n w0 ops l Kk ((d, .map (some b)) :: E) (A * mapA ek vv b [])) :
    RunL P n w0 ops ({ dst := some d, op := .makeMap t none, type := ty, pos := ps, after := af, guard := none } :: l) Kk E A := by
  refine RunL.val (X := Nat) (fun b => .map (some b)) (fun b => A * mapA ek vv b []) hd (fun a w _ hs' => ?_) r
  exact ⟨w.heap.size, _, by simp [execOp, run_makeMap_plain], (hs'.alloc (.map #[] 0)).entr (map_of_pts rfl)⟩
end
/-! ### Sets of pairs of numbers -/
def k2 (p : Int × Int) : Value := .agg #[.int .i64 p.1, .int .i64 p.2]
theorem run_checkKey_struct {P : Program} {kt : TypeId} {fs : Array Field} {em : Bool} {d : Nat} {w : World} {cs : Array Value} (hu : P.underlying kt = some (.struct fs))
    (h : ∀ f ∈ fs.toList, ∃ v, (part f.type cs f.offset).run P w = .ok v w ∧ (Instr.checkKey em d f.type v).run P w = .ok () w) : (Instr.checkKey em (d + 1) kt (.agg cs)).run P w = .ok () w := by
  rw [Instr.checkKey]
  simp only [Sem.run_bind, run_underlying hu, Result.andThen_ok]
  rw [← Array.forIn_toList]
  generalize fs.toList = l at h
  clear hu
  induction l with
  | nil => simp
  | cons f l ih =>
    obtain ⟨v, h1, h2⟩ := h f (by simp)
    have ih' := ih (fun f hf => h f (by simp [hf]))
    simp only [List.forIn_cons, Sem.run_bind, Sem.run_ite]
    by_cases e : f.name = "_"
    · simpa [e] using ih'
    · simpa [e, h1, h2] using ih'
theorem run_checkKey_int {P : Program} {t : TypeId} {k q : IntKind} {a : Int} {em : Bool} {d : Nat} {w : World} (hu : P.underlying t = some (.int k)) : (Instr.checkKey em (d + 1) t (.int q a)).run P w = .ok () w := by
  rw [Instr.checkKey]
  simp [run_underlying hu]
theorem key2 {P : Program} {kt : TypeId} (h : Two P kt .i64 .i64) : KeyT P kt k2 := by
  obtain ⟨f0, f1, hu, hp, hg, hn0, hn1, ho0, ho1, h0, h1⟩ := h.out
  refine ⟨⟨_, hu⟩, fun a => ⟨_, rfl⟩, fun w em a => ?_, fun w a b => ?_, fun a => by simp [k2, Instr.sameBits]⟩
  · refine run_checkKey_struct (d := 9999) hu fun f hf => ?_
    simp only [List.mem_cons, List.not_mem_nil, or_false] at hf
    rcases hf with rfl | rfl
    · exact ⟨_, run_part_int w h0 (by rw [ho0]; rfl), run_checkKey_int (d := 9998) h0⟩
    · exact ⟨_, run_part_int w h1 (by rw [ho1]; rfl), run_checkKey_int (d := 9998) h1⟩
  · have := run_equal_two (P := P) (a := a.1) (b := a.2) (c := b.1) (d := b.2) w hu hp hn0 hn1 ho0 ho1 rfl rfl h0 h1
    unfold k2
    show (Op.equalIn 10000 _ _ _).run P w = _
    rw [this]
    congr 1
    exact decide_eq_decide.2 Prod.ext_iff.symm
def setA (b : Nat) (ks : List (Int × Int)) : Asn := ⟨fun h => ∃ m, (∀ k, mget m k = if k ∈ ks then some true else none) ∧ (mapA k2 Value.bool b m).holds h⟩
structure SetT (P : Program) (t : TypeId) : Prop where
  out : MapT P t k2 Value.bool (.bool false)
section
variable {P : Program} {n : Nat} {w0 : World} {ops : Array Oper} {l : List Oper} {Kk : Act → World → Prop} {E : Env} {A : Asn} {ty : TypeId} {ps : String} {af : Array Edge} {t : TypeId}
theorem Sat.setForm {w : World} {b : Nat} {ks : List (Int × Int)} (h : Sat w0 w (A * setA b ks)) : ∃ m, (∀ k, mget m k = if k ∈ ks then some true else none) ∧ Sat w0 w (A * mapA k2 Value.bool b m) := by
  obtain ⟨e1, e2, e3, e4, q, hp, h1, h2, dj, u, x, m, hm, y⟩ := h
  exact ⟨m, hm, e1, e2, e3, e4, q, hp, h1, h2, dj, u, x, y⟩
structure SetAt (w0 : World) (A : Asn) (b : Nat) (ks : List (Int × Int)) : Prop where
  out : ∀ w, Sat w0 w A → ∃ es clock m, w.heap[b]? = some (.map es clock) ∧ es.toList.map (fun e => (e.key, e.val)) = m.map (fun p => (k2 p.1, Value.bool p.2)) ∧ ∀ k, mget m k = if k ∈ ks then some true else none
theorem SetAt.here {b : Nat} {ks : List (Int × Int)} : SetAt w0 (A * setA b ks) b ks := ⟨fun _ hs => let ⟨m, hm, s⟩ := hs.setForm; let ⟨es, clock, h2, s2⟩ := s.mapForm; ⟨es, clock, m, s2.get, h2, hm⟩⟩
theorem SetAt.left {C : Asn} {b : Nat} {ks : List (Int × Int)} (h : SetAt w0 A b ks) : SetAt w0 (A * C) b ks := ⟨fun w hs => h.out w hs.weak⟩
theorem OpOk.lookS {x y : Operand} {b : Nat} {ks : List (Int × Int)} {i j : Int} (M : SetT P t) (h : SetAt w0 A b ks) (hx : ev E x = some (.map (some b))) (hy : ev E y = some (.agg #[.int .i64 i, .int .i64 j])) :
    OpOk P n w0 (.lookup t x y false) ty E A (.bool (decide ((i, j) ∈ ks))) := by
  refine .read fun f w _ _ _ _ he hs => ?_
  obtain ⟨es, clock, m, hb, hm, hg⟩ := h.out w hs
  have := run_mapLook M.out hb hm (i, j) false
  rw [hg] at this
  have e : k2 (i, j) = .agg #[.int .i64 i, .int .i64 j] := rfl
  rw [e] at this
  simp only [execOp, he.eval hx, he.eval hy, Sem.run_bind, this, Result.andThen_ok, Bool.false_eq_true, if_false, Sem.run_pure]
  by_cases h : (i, j) ∈ ks <;> simp [h]
theorem RunL.putS {x y u : Operand} {b : Nat} {ks : List (Int × Int)} {i j : Int} {A1 : Asn} (M : SetT P t) (hx : ev E x = some (.map (some b))) (hy : ev E y = some (.agg #[.int .i64 i, .int .i64 j])) (hu : ev E u = some (.bool true)) (hA : A = A1 * setA b ks)
    (r : RunL P n w0 ops l Kk E (A1 * setA b (ks ++ [(i, j)]))) :
    RunL P n w0 ops ({ dst := none, op := .mapUpdate t x y u, type := ty, pos := ps, after := af, guard := none } :: l) Kk E A := by
  subst hA
  refine ⟨fun f w he hs' => ?_⟩
  obtain ⟨m, hm, s⟩ := hs'.setForm
  have r2 : RunL P n w0 ops l Kk E (A1 * mapA k2 Value.bool b (mput m (i, j) true)) := ⟨fun f w he hs => r.out f w he (hs.entr fun p hp => ⟨_, fun k => ?_, hp⟩)⟩
  · exact (RunL.mapPut (a := (i, j)) (v := true) M.out hx hy hu rfl r2).out f w he s
  · rw [mget_mput, hm]
    by_cases e : k = (i, j)
    · simp [e]
    · simp [e]
theorem RunL.makeS {d : Nat} (hd : Nat.blt d n = true) (r : ∀ b, RunL P n w0 ops l Kk ((d, .map (some b)) :: E) (A * setA b [])) :
    RunL P n w0 ops ({ dst := some d, op := .makeMap t none, type := ty, pos := ps, after := af, guard := none } :: l) Kk E A :=
  RunL.makeM (ek := k2) (vv := Value.bool) hd fun b => ⟨fun f w he hs => (r b).out f w he (hs.entr fun p hp => ⟨[], fun k => by simp [mget], hp⟩)⟩
end
end Go.Proofs.Yteopadjihklkmaa
