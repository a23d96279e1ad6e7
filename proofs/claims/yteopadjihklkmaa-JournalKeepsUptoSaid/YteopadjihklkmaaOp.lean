/- What each kind of operation yields, its operands known slot by slot. Words of our own for the proofs of this seat. -/
import Derived.Test.YteopadjihklkmaaRn
namespace Go.Proofs.Yteopadjihklkmaa
open Go
/-- A type's row: its zero value, its cells, its bytes. -/
structure TyI (P : Program) (t : TypeId) (z : Value) (size bytes : Nat) : Prop where
  out : (P.info? t).map (fun i => (i.zero, i.size, i.bytes)) = some (some z, size, bytes)
theorem TyI.get {P : Program} {t : TypeId} {z : Value} {size bytes : Nat} (h : TyI P t z size bytes) : ∃ f, P.info? t = some f ∧ f.zero = some z ∧ f.size = size ∧ f.bytes = bytes := by
  obtain ⟨f, hf, e⟩ := Option.map_eq_some_iff.1 h.out
  simp only [Prod.mk.injEq] at e
  exact ⟨f, hf, e.1, e.2.1, e.2.2⟩
theorem TyI.size {P : Program} {t : TypeId} {z : Value} {size bytes : Nat} (h : TyI P t z size bytes) : (P.info? t).map (·.size) = some size := by
  obtain ⟨f, hf, _, e, _⟩ := h.get
  simp [hf, e]
/-- A struct's field: where it lies, its type. -/
structure FieldAt (P : Program) (s : TypeId) (j o ft : Nat) : Prop where
  out : ∃ fs fd m, P.underlying s = some (.struct fs) ∧ fs[j]? = some fd ∧ fd.offset = o ∧ fd.type = ft ∧ (P.info? ft).map (·.size) = some (m + 1)
theorem wrapI {i : Int} (h1 : -9223372036854775808 ≤ i) (h2 : i ≤ 9223372036854775807) : IntKind.i64.wrap i = i := by rw [IntKind.wrap_i64]; omega
theorem wrapU8 {i : Int} (h1 : 0 ≤ i) (h2 : i ≤ 255) : IntKind.u8.wrap i = i := by simp [IntKind.wrap, IntKind.bits, IntKind.signed]; omega
theorem wrapU16 {i : Int} (h1 : 0 ≤ i) (h2 : i ≤ 65535) : IntKind.u16.wrap i = i := by simp [IntKind.wrap, IntKind.bits, IntKind.signed]; omega
theorem wrapU64 {i : Int} (h1 : 0 ≤ i) (h2 : i ≤ 18446744073709551615) : IntKind.u64.wrap i = i := by simp [IntKind.wrap, IntKind.bits, IntKind.signed]; omega
theorem wrapU8m (i : Int) : IntKind.u8.wrap i = i % 256 := by simp [IntKind.wrap, IntKind.bits, IntKind.signed]
theorem wrapU16m (i : Int) : IntKind.u16.wrap i = i % 65536 := by simp [IntKind.wrap, IntKind.bits, IntKind.signed]
theorem tdivI {i j : Int} (h : 0 ≤ i) : i.tdiv j = i / j := Int.tdiv_eq_ediv_of_nonneg h
theorem tmodI {i j : Int} (h : 0 ≤ i) : i.tmod j = i % j := Int.tmod_eq_emod_of_nonneg h
section
variable {P : Program} {n : Nat} {w0 : World} {E : Env} {A : Asn} {ty : TypeId}
/-- An operation that only reckons. -/
theorem OpOk.pure {op : Op} {v : Value} (h : ∀ (a : Act) (w : World) d ps af g, Ev n a E → (execOp a.eval { dst := d, op, type := ty, pos := ps, after := af, guard := g }).run P w = .ok (.value v) w) : OpOk P n w0 op ty E A v :=
  ⟨fun a w d ps af g he hs => ⟨w, h a w d ps af g he, hs⟩⟩
theorem OpOk.read {op : Op} {v : Value} (h : ∀ (a : Act) (w : World) d ps af g, Ev n a E → Sat w0 w A → (execOp a.eval { dst := d, op, type := ty, pos := ps, after := af, guard := g }).run P w = .ok (.value v) w) : OpOk P n w0 op ty E A v :=
  ⟨fun a w d ps af g he hs => ⟨w, h a w d ps af g he hs, hs⟩⟩
theorem OpOk.move {x : Operand} {v : Value} (hx : ev E x = some v) : OpOk P n w0 (.move x) ty E A v := .pure fun a w _ _ _ _ he => by simp [execOp, he.eval hx]
theorem OpOk.assign {x : Operand} {v : Value} (hx : ev E x = some v) : OpOk P n w0 (.assign x) ty E A v := .pure fun a w _ _ _ _ he => by simp [execOp, he.eval hx]
theorem OpOk.pickT {c x y : Operand} {v : Value} (hc : ev E c = some (.bool true)) (hx : ev E x = some v) : OpOk P n w0 (.pick c x y) ty E A v := .pure fun a w _ _ _ _ he => by simp [execOp, he.eval hc, he.eval hx, asBool]
theorem OpOk.pickF {c x y : Operand} {v : Value} (hc : ev E c = some (.bool false)) (hy : ev E y = some v) : OpOk P n w0 (.pick c x y) ty E A v := .pure fun a w _ _ _ _ he => by simp [execOp, he.eval hc, he.eval hy, asBool]
/-- '||' and '&&' whose sides are both known. -/
theorem OpOk.pickOr {c y : Operand} {b d : Bool} (hc : ev E c = some (.bool b)) (hy : ev E y = some (.bool d)) : OpOk P n w0 (.pick c (.const (.bool true)) y) ty E A (.bool (b || d)) :=
  .pure fun a w _ _ _ _ he => by have e : ∀ v, a.eval (.const v) = v := fun _ => rfl; cases b <;> simp [execOp, he.eval hc, he.eval hy, asBool, e]
theorem OpOk.pickAnd {c x : Operand} {b d : Bool} (hc : ev E c = some (.bool b)) (hx : ev E x = some (.bool d)) : OpOk P n w0 (.pick c x (.const (.bool false))) ty E A (.bool (b && d)) :=
  .pure fun a w _ _ _ _ he => by have e : ∀ v, a.eval (.const v) = v := fun _ => rfl; cases b <;> simp [execOp, he.eval hc, he.eval hx, asBool, e]
section ints
variable {t u : TypeId} {x y : Operand} {k k' : IntKind} {i j r : Int}
theorem OpOk.add (hx : ev E x = some (.int k i)) (hy : ev E y = some (.int k j)) (hr : k.wrap (i + j) = r) : OpOk P n w0 (.binOp .add t x y u) ty E A (.int k r) :=
  .pure fun a w _ _ _ _ he => by subst hr; simp [execOp, he.eval hx, he.eval hy, eqGuard, binOp, Op.intArith]
theorem OpOk.sub (hx : ev E x = some (.int k i)) (hy : ev E y = some (.int k j)) (hr : k.wrap (i - j) = r) : OpOk P n w0 (.binOp .sub t x y u) ty E A (.int k r) :=
  .pure fun a w _ _ _ _ he => by subst hr; simp [execOp, he.eval hx, he.eval hy, eqGuard, binOp, Op.intArith]
theorem OpOk.mul (hx : ev E x = some (.int k i)) (hy : ev E y = some (.int k j)) (hr : k.wrap (i * j) = r) : OpOk P n w0 (.binOp .mul t x y u) ty E A (.int k r) :=
  .pure fun a w _ _ _ _ he => by subst hr; simp [execOp, he.eval hx, he.eval hy, eqGuard, binOp, Op.intArith]
theorem OpOk.quo (hx : ev E x = some (.int k i)) (hy : ev E y = some (.int k j)) (hj : j ≠ 0) (hr : k.wrap (i.tdiv j) = r) : OpOk P n w0 (.binOp .quo t x y u) ty E A (.int k r) :=
  .pure fun a w _ _ _ _ he => by subst hr; simp [execOp, he.eval hx, he.eval hy, eqGuard, binOp, Op.intDiv, hj]
theorem OpOk.rem (hx : ev E x = some (.int k i)) (hy : ev E y = some (.int k j)) (hj : j ≠ 0) (hr : i.tmod j = r) : OpOk P n w0 (.binOp .rem t x y u) ty E A (.int k r) :=
  .pure fun a w _ _ _ _ he => by subst hr; simp [execOp, he.eval hx, he.eval hy, eqGuard, binOp, Op.intDiv, hj]
theorem OpOk.and (hx : ev E x = some (.int k i)) (hy : ev E y = some (.int k j)) (hr : k.wrap ((BitVec.ofInt k.bits i &&& BitVec.ofInt k.bits j).toNat : Int) = r) : OpOk P n w0 (.binOp .and t x y u) ty E A (.int k r) :=
  .pure fun a w _ _ _ _ he => by subst hr; simp [execOp, he.eval hx, he.eval hy, eqGuard, binOp, Op.intBits]
theorem OpOk.or (hx : ev E x = some (.int k i)) (hy : ev E y = some (.int k j)) (hr : k.wrap ((BitVec.ofInt k.bits i ||| BitVec.ofInt k.bits j).toNat : Int) = r) : OpOk P n w0 (.binOp .or t x y u) ty E A (.int k r) :=
  .pure fun a w _ _ _ _ he => by subst hr; simp [execOp, he.eval hx, he.eval hy, eqGuard, binOp, Op.intBits]
theorem OpOk.xor (hx : ev E x = some (.int k i)) (hy : ev E y = some (.int k j)) (hr : k.wrap ((BitVec.ofInt k.bits i ^^^ BitVec.ofInt k.bits j).toNat : Int) = r) : OpOk P n w0 (.binOp .xor t x y u) ty E A (.int k r) :=
  .pure fun a w _ _ _ _ he => by subst hr; simp [execOp, he.eval hx, he.eval hy, eqGuard, binOp, Op.intBits]
theorem OpOk.shl (hx : ev E x = some (.int k i)) (hy : ev E y = some (.int k' j)) (hj : 0 ≤ j) (hr : k.wrap (i * 2 ^ min j.toNat k.bits) = r) : OpOk P n w0 (.binOp .shl t x y u) ty E A (.int k r) :=
  .pure fun a w _ _ _ _ he => by subst hr; simp [execOp, he.eval hx, he.eval hy, eqGuard, binOp, Op.shift, show ¬ j < 0 by omega]
theorem OpOk.shr (hx : ev E x = some (.int k i)) (hy : ev E y = some (.int k' j)) (hj : 0 ≤ j) (hr : i / 2 ^ min j.toNat k.bits = r) : OpOk P n w0 (.binOp .shr t x y u) ty E A (.int k r) :=
  .pure fun a w _ _ _ _ he => by
    subst hr
    simp only [execOp, he.eval hx, he.eval hy, eqGuard, binOp, Op.shift, show ¬ j < 0 by omega]
    rw [Int.fdiv_eq_ediv_of_nonneg _ (Int.le_of_lt (Int.pow_pos (by decide)))]
    simp
theorem OpOk.eql (hx : ev E x = some (.int k i)) (hy : ev E y = some (.int k j)) : OpOk P n w0 (.binOp .eql t x y u) ty E A (.bool (decide (i = j))) :=
  .pure fun a w _ _ _ _ he => by
    have e : (i == j) = decide (i = j) := by by_cases h : i = j <;> simp [h]
    simp [execOp, he.eval hx, he.eval hy, eqGuard, binOp, Op.intCmp, e]
theorem OpOk.neq (hx : ev E x = some (.int k i)) (hy : ev E y = some (.int k j)) : OpOk P n w0 (.binOp .neq t x y u) ty E A (.bool (!decide (i = j))) :=
  .pure fun a w _ _ _ _ he => by
    have e : (i != j) = !decide (i = j) := by by_cases h : i = j <;> simp [h]
    simp [execOp, he.eval hx, he.eval hy, eqGuard, binOp, Op.intCmp, e]
theorem OpOk.eqlT (hx : ev E x = some (.int k i)) (hy : ev E y = some (.int k j)) (h : i = j) : OpOk P n w0 (.binOp .eql t x y u) ty E A (.bool true) := by
  have := OpOk.eql (P := P) (n := n) (w0 := w0) (A := A) (ty := ty) (t := t) (u := u) hx hy
  rwa [decide_eq_true h] at this
theorem OpOk.eqlF (hx : ev E x = some (.int k i)) (hy : ev E y = some (.int k j)) (h : i ≠ j) : OpOk P n w0 (.binOp .eql t x y u) ty E A (.bool false) := by
  have := OpOk.eql (P := P) (n := n) (w0 := w0) (A := A) (ty := ty) (t := t) (u := u) hx hy
  rwa [decide_eq_false h] at this
theorem OpOk.neqT (hx : ev E x = some (.int k i)) (hy : ev E y = some (.int k j)) (h : i ≠ j) : OpOk P n w0 (.binOp .neq t x y u) ty E A (.bool true) := by
  have := OpOk.neq (P := P) (n := n) (w0 := w0) (A := A) (ty := ty) (t := t) (u := u) hx hy
  rwa [decide_eq_false h] at this
theorem OpOk.neqF (hx : ev E x = some (.int k i)) (hy : ev E y = some (.int k j)) (h : i = j) : OpOk P n w0 (.binOp .neq t x y u) ty E A (.bool false) := by
  have := OpOk.neq (P := P) (n := n) (w0 := w0) (A := A) (ty := ty) (t := t) (u := u) hx hy
  rwa [decide_eq_true h] at this
theorem OpOk.lss (hx : ev E x = some (.int k i)) (hy : ev E y = some (.int k j)) : OpOk P n w0 (.binOp .lss t x y u) ty E A (.bool (decide (i < j))) :=
  .pure fun a w _ _ _ _ he => by simp [execOp, he.eval hx, he.eval hy, eqGuard, binOp, Op.intCmp]
theorem OpOk.leq (hx : ev E x = some (.int k i)) (hy : ev E y = some (.int k j)) : OpOk P n w0 (.binOp .leq t x y u) ty E A (.bool (decide (i ≤ j))) :=
  .pure fun a w _ _ _ _ he => by simp [execOp, he.eval hx, he.eval hy, eqGuard, binOp, Op.intCmp]
theorem OpOk.gtr (hx : ev E x = some (.int k i)) (hy : ev E y = some (.int k j)) : OpOk P n w0 (.binOp .gtr t x y u) ty E A (.bool (decide (j < i))) :=
  .pure fun a w _ _ _ _ he => by simp [execOp, he.eval hx, he.eval hy, eqGuard, binOp, Op.intCmp]
theorem OpOk.geq (hx : ev E x = some (.int k i)) (hy : ev E y = some (.int k j)) : OpOk P n w0 (.binOp .geq t x y u) ty E A (.bool (decide (j ≤ i))) :=
  .pure fun a w _ _ _ _ he => by simp [execOp, he.eval hx, he.eval hy, eqGuard, binOp, Op.intCmp]
theorem OpOk.neg (hx : ev E x = some (.int k i)) (hr : k.wrap (0 - i) = r) : OpOk P n w0 (.unOp .neg t x) ty E A (.int k r) :=
  .pure fun a w _ _ _ _ he => by subst hr; simp [execOp, he.eval hx, Op.unary, Op.intArith]
theorem OpOk.convInt {s d : TypeId} {ds : TypeDesc} (hs : P.underlying s = some ds) (hd : P.underlying d = some (.int k')) (hx : ev E x = some (.int k i)) (hr : k'.wrap i = r) : OpOk P n w0 (.convert s d x) ty E A (.int k' r) :=
  .pure fun a w _ _ _ _ he => by subst hr; simp [execOp, he.eval hx, convert, underlying, hs, hd, Conv.intToInt]
end ints
theorem OpOk.not {t : TypeId} {x : Operand} {b : Bool} (hx : ev E x = some (.bool b)) : OpOk P n w0 (.unOp .not t x) ty E A (.bool (!b)) :=
  .pure fun a w _ _ _ _ he => by simp [execOp, he.eval hx, Op.unary]
section bools
variable {t u : TypeId} {x y : Operand} {b c : Bool}
theorem run_equal_bool (w : World) (hu : P.underlying t = some .bool) : (Op.equal t (.bool b) (.bool c)).run P w = .ok (b == c) w := by
  show (Op.equalIn (9999 + 1) t (.bool b) (.bool c)).run P w = _
  rw [Op.equalIn]
  simp [underlying, hu]
theorem OpOk.eqlB (hu : P.underlying t = some .bool) (hx : ev E x = some (.bool b)) (hy : ev E y = some (.bool c)) : OpOk P n w0 (.binOp .eql t x y u) ty E A (.bool (b == c)) :=
  .pure fun a w _ _ _ _ he => by simp [execOp, he.eval hx, he.eval hy, eqGuard, binOp, run_equal_bool w hu]
theorem OpOk.neqB (hu : P.underlying t = some .bool) (hx : ev E x = some (.bool b)) (hy : ev E y = some (.bool c)) : OpOk P n w0 (.binOp .neq t x y u) ty E A (.bool (!(b == c))) :=
  .pure fun a w _ _ _ _ he => by simp [execOp, he.eval hx, he.eval hy, eqGuard, binOp, run_equal_bool w hu]
end bools
section strings
variable {t u : TypeId} {x y : Operand} {s z : ByteArray}
theorem toList_eq_iff (a b : ByteArray) : (a.toList == b.toList) = decide (a = b) := by
  rw [ByteArray.toList_eq, ByteArray.toList_eq]
  by_cases h : a = b
  · simp [h]
  · have : a.data.toList ≠ b.data.toList := fun e => h (by
      cases a; cases b
      simpa using Array.toList_inj.1 e)
    have h2 : ¬ a.data = b.data := fun e => this (by rw [e])
    simp [h, h2]
theorem OpOk.eqlS (hx : ev E x = some (.string s)) (hy : ev E y = some (.string z)) : OpOk P n w0 (.binOp .eql t x y u) ty E A (.bool (decide (s = z))) :=
  .pure fun a w _ _ _ _ he => by simp [execOp, he.eval hx, he.eval hy, eqGuard, binOp, Op.stringOp, toList_eq_iff]
theorem OpOk.neqS (hx : ev E x = some (.string s)) (hy : ev E y = some (.string z)) : OpOk P n w0 (.binOp .neq t x y u) ty E A (.bool (!decide (s = z))) :=
  .pure fun a w _ _ _ _ he => by simp [execOp, he.eval hx, he.eval hy, eqGuard, binOp, Op.stringOp, toList_eq_iff]
theorem OpOk.eqlST (hx : ev E x = some (.string s)) (hy : ev E y = some (.string z)) (h : s = z) : OpOk P n w0 (.binOp .eql t x y u) ty E A (.bool true) := by
  have := OpOk.eqlS (P := P) (n := n) (w0 := w0) (A := A) (ty := ty) (t := t) (u := u) hx hy
  rwa [decide_eq_true h] at this
theorem OpOk.neqSF (hx : ev E x = some (.string s)) (hy : ev E y = some (.string z)) (h : s = z) : OpOk P n w0 (.binOp .neq t x y u) ty E A (.bool false) := by
  have := OpOk.neqS (P := P) (n := n) (w0 := w0) (A := A) (ty := ty) (t := t) (u := u) hx hy
  rwa [decide_eq_true h] at this
theorem OpOk.lssS (hx : ev E x = some (.string s)) (hy : ev E y = some (.string z)) : OpOk P n w0 (.binOp .lss t x y u) ty E A (.bool (Op.bytesLess s.data.toList z.data.toList)) :=
  .pure fun a w _ _ _ _ he => by simp [execOp, he.eval hx, he.eval hy, eqGuard, binOp, Op.stringOp, ByteArray.toList_eq]
theorem OpOk.addS (hx : ev E x = some (.string s)) (hy : ev E y = some (.string z)) (h : s.size + z.size ≤ 9223372036854775807) : OpOk P n w0 (.binOp .add t x y u) ty E A (.string (s ++ z)) :=
  .pure fun a w _ _ _ _ he => by
    have e := run_string_add_sum (P := P) w s z h
    simp [execOp, he.eval hx, he.eval hy, eqGuard, binOp, e]
theorem OpOk.lenS {c : Array TypeId} (hu : P.underlying t = some .string) (hx : ev E x = some (.string s)) (hc : c = #[t]) : OpOk P n w0 (.call { callee := .builtin .len, args := #[x], argTypes := c }) ty E A (.int .i64 s.size) :=
  .pure fun a w _ _ _ _ he => by subst hc; simp [execOp, he.eval hx, resolve, invoke, builtin, Builtin.len_, underlying, hu, goInt]
theorem OpOk.lenV {e : TypeId} {c : Array TypeId} {ad : Option Addr} {m cap : Nat} (hu : P.underlying t = some (.slice e)) (hx : ev E x = some (.slice ad m cap)) (hc : c = #[t]) : OpOk P n w0 (.call { callee := .builtin .len, args := #[x], argTypes := c }) ty E A (.int .i64 m) :=
  .pure fun a w _ _ _ _ he => by subst hc; simp [execOp, he.eval hx, resolve, invoke, builtin, Builtin.len_, underlying, hu, goInt]
theorem OpOk.capV {e : TypeId} {c : Array TypeId} {ad : Option Addr} {m cap : Nat} (hu : P.underlying t = some (.slice e)) (hx : ev E x = some (.slice ad m cap)) (hc : c = #[t]) : OpOk P n w0 (.call { callee := .builtin .cap, args := #[x], argTypes := c }) ty E A (.int .i64 cap) :=
  .pure fun a w _ _ _ _ he => by subst hc; simp [execOp, he.eval hx, resolve, invoke, builtin, Builtin.cap_, underlying, hu, goInt]
theorem OpOk.convSS {q d : TypeId} (hs : P.underlying q = some .string) (hd : P.underlying d = some .string) (hx : ev E x = some (.string s)) : OpOk P n w0 (.convert q d x) ty E A (.string s) :=
  .pure fun a w _ _ _ _ he => by simp [execOp, he.eval hx, convert, underlying, hs, hd]
theorem OpOk.indexS {k : IntKind} {i : Int} (hu : P.underlying t = some .string) (hx : ev E x = some (.string s)) (hy : ev E y = some (.int k i)) (h0 : 0 ≤ i) (h1 : i < s.size) : OpOk P n w0 (.index t x y) ty E A (.int .u8 ((s.data.toList.getD i.toNat 0).toNat : Int)) :=
  .pure fun a w _ _ _ _ he => by
    have hl : i.toNat < s.size := by omega
    have e : s[i.toNat]? = some (s.data.toList.getD i.toNat 0) := by
      rw [getElem?_pos s i.toNat hl]
      congr 1
      have hl2 : i.toNat < s.data.toList.length := by simpa using hl
      rw [List.getD_eq_getElem?_getD, List.getElem?_eq_getElem hl2]
      rfl
    simp [execOp, he.eval hx, he.eval hy, Instr.index, asIntOf, underlying, hu, h0, e]
theorem OpOk.cutS {lo hi : Option Operand} {i j : Nat} (hu : P.underlying t = some .string) (hx : ev E x = some (.string s)) (hlo : match lo with | none => i = 0 | some o => ∃ k, ev E o = some (.int k i)) (hhi : match hi with | none => j = s.size | some o => ∃ k, ev E o = some (.int k j))
    (h1 : i ≤ j) (h2 : j ≤ s.size) : OpOk P n w0 (.slice t x lo hi none) ty E A (.string (s.extract i j)) :=
  .pure fun a w _ _ _ _ he => by
    cases lo with
    | none =>
      obtain rfl : i = 0 := hlo
      cases hi with
      | none =>
        obtain rfl : j = s.size := hhi
        simp [execOp, he.eval hx, Instr.sliceAt, Instr.slice, Instr.sliceBounds, underlying, hu]
      | some o =>
        obtain ⟨k, ho⟩ := hhi
        simp [execOp, he.eval hx, he.eval ho, Instr.sliceAt, Instr.slice, Instr.sliceBounds, Instr.sliceBound, asIntOf, underlying, hu, h2]
    | some q =>
      obtain ⟨k', hq⟩ := hlo
      cases hi with
      | none =>
        obtain rfl : j = s.size := hhi
        simp [execOp, he.eval hx, he.eval hq, Instr.sliceAt, Instr.slice, Instr.sliceBounds, Instr.sliceBound, asIntOf, underlying, hu, h1]
      | some o =>
        obtain ⟨k, ho⟩ := hhi
        simp [execOp, he.eval hx, he.eval ho, he.eval hq, Instr.sliceAt, Instr.slice, Instr.sliceBounds, Instr.sliceBound, asIntOf, underlying, hu, h2, h1]
end strings
end
end Go.Proofs.Yteopadjihklkmaa
