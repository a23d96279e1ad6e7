/- Texts: their length, joining, comparing, indexing and cutting. -/
import Derived.Test.YtlheianbmpgefaaWk
import Derived.Laws.Strings2
import Derived.Laws.Strings3
import Derived.Laws.Pointers
namespace Go.Proofs.Ytlheianbmpgefaa
open Go Go.Proofs
theorem ba_size (xs : List UInt8) : (ByteArray.mk xs.toArray).size = xs.length := rfl
theorem ba_append (xs ys : List UInt8) : (ByteArray.mk xs.toArray) ++ (ByteArray.mk ys.toArray) = ByteArray.mk (xs ++ ys).toArray := by
  apply ByteArray.ext
  simp [ByteArray.data_append]
theorem ba_eq (xs ys : List UInt8) : (ByteArray.mk xs.toArray = ByteArray.mk ys.toArray) ↔ xs = ys := by
  constructor
  · intro h
    have := congrArg (fun b => b.data.toList) h
    simpa using this
  · rintro rfl; rfl
theorem S_inj {xs ys : List UInt8} (h : S xs = S ys) : xs = ys := by
  simp only [S, Value.string.injEq] at h
  exact (ba_eq _ _).1 h
section
variable {P : Program} {n : Nat} {w0 : World} {ops : Array Oper} {l : List Oper} {K : Act → World → Prop} {E : Env} {A : Asn} {ty : TypeId}
variable {t u : TypeId} {x y : Operand} {xs ys : List UInt8}
theorem OpOk.lenSS {c : Array TypeId} (hu : P.underlying t = some .string) (hx : ev E x = some (S xs)) (hc : c = #[t]) : OpOk P n w0 (.call { callee := .builtin .len, args := #[x], argTypes := c }) ty E A (.int .i64 (xs.length : Int)) :=
  OpOk.lenS hu hx hc
theorem OpOk.addSS (hx : ev E x = some (S xs)) (hy : ev E y = some (S ys)) (h : xs.length + ys.length ≤ 9223372036854775807) : OpOk P n w0 (.binOp .add t x y u) ty E A (S (xs ++ ys)) := by
  have := OpOk.addS (P := P) (n := n) (w0 := w0) (A := A) (ty := ty) (t := t) (u := u) hx hy h
  rwa [ba_append] at this
theorem OpOk.eqlSS (hx : ev E x = some (S xs)) (hy : ev E y = some (S ys)) : OpOk P n w0 (.binOp .eql t x y u) ty E A (.bool (decide (xs = ys))) := by
  have := OpOk.eqlS (P := P) (n := n) (w0 := w0) (A := A) (ty := ty) (t := t) (u := u) hx hy
  rwa [show decide (ByteArray.mk xs.toArray = ByteArray.mk ys.toArray) = decide (xs = ys) from decide_eq_decide.2 (ba_eq xs ys)] at this
theorem OpOk.neqSS (hx : ev E x = some (S xs)) (hy : ev E y = some (S ys)) : OpOk P n w0 (.binOp .neq t x y u) ty E A (.bool (!decide (xs = ys))) := by
  have := OpOk.neqS (P := P) (n := n) (w0 := w0) (A := A) (ty := ty) (t := t) (u := u) hx hy
  rwa [show decide (ByteArray.mk xs.toArray = ByteArray.mk ys.toArray) = decide (xs = ys) from decide_eq_decide.2 (ba_eq xs ys)] at this
theorem OpOk.lssSS (hx : ev E x = some (S xs)) (hy : ev E y = some (S ys)) : OpOk P n w0 (.binOp .lss t x y u) ty E A (.bool (Op.bytesLess xs ys)) := by
  have := OpOk.lssS (P := P) (n := n) (w0 := w0) (A := A) (ty := ty) (t := t) (u := u) hx hy
  simpa using this
theorem OpOk.idxSS {q : IntKind} {i : Nat} (hu : P.underlying t = some .string) (hx : ev E x = some (S xs)) (hy : ev E y = some (.int q ((i : Nat) : Int))) (h : i < xs.length) : OpOk P n w0 (.index t x y) ty E A (.int .u8 ((xs.getD i 0).toNat : Int)) :=
  .pure fun a w _ _ _ _ he => by
    have h1 := run_index_string (P := P) w t ⟨xs.toArray⟩ q (i : Int) hu
    have hc : 0 ≤ (i : Int) ∧ (i : Int) < (ByteArray.mk xs.toArray).size := ⟨Int.natCast_nonneg i, by rw [ba_size]; omega⟩
    rw [dif_pos hc] at h1
    simp only [execOp, he.eval hx, he.eval hy, S, Sem.run_bind, h1, Result.andThen_ok]
    simp only [Sem.run_pure]
    congr 3
    rw [List.getD_eq_getElem?_getD, List.getElem?_eq_getElem h]
    rfl
theorem OpOk.cutSS {lo hi : Option Operand} {i j : Nat} (hu : P.underlying t = some .string) (hx : ev E x = some (S xs)) (hlo : match lo with | none => i = 0 | some o => ∃ q, ev E o = some (.int q ((i : Nat) : Int)))
    (hhi : match hi with | none => j = xs.length | some o => ∃ q, ev E o = some (.int q ((j : Nat) : Int))) (h1 : i ≤ j) (h2 : j ≤ xs.length) : OpOk P n w0 (.slice t x lo hi none) ty E A (S ((xs.drop i).take (j - i))) := by
  have hs : (j : Int) ≤ (ByteArray.mk xs.toArray).size := by rw [ba_size]; omega
  have key : (Go.ByteArray.extract_mk xs i j).symm.symm = (Go.ByteArray.extract_mk xs i j) := rfl
  refine .pure fun a w _ _ _ _ he => ?_
  have hx' : a.eval x = .string ⟨xs.toArray⟩ := he.eval hx
  cases lo with
  | none =>
    obtain rfl : i = 0 := hlo
    cases hi with
    | none =>
      obtain rfl : j = xs.length := hhi
      have := run_slice_string_all (P := P) w t ⟨xs.toArray⟩ hu
      rw [ba_size, Go.ByteArray.extract_mk] at this
      simp only [execOp, Instr.sliceAt, hx', S, Sem.run_bind, run_underlying hu, Result.andThen_ok, Option.map_none, this, Sem.run_pure]
    | some o =>
      obtain ⟨q, ho⟩ := hhi
      have := run_slice_string_to_if (P := P) w t ⟨xs.toArray⟩ q (j : Int) hu
      rw [if_pos ⟨Int.natCast_nonneg j, hs⟩, Int.toNat_natCast, Go.ByteArray.extract_mk] at this
      simp only [execOp, Instr.sliceAt, hx', he.eval ho, Option.map_some, S, Sem.run_bind, run_underlying hu, Result.andThen_ok, Option.map_none, this, Sem.run_pure]
  | some p =>
    obtain ⟨q', hp⟩ := hlo
    cases hi with
    | none =>
      obtain rfl : j = xs.length := hhi
      have := run_slice_string_from_if (P := P) w t ⟨xs.toArray⟩ q' (i : Int) hu
      rw [if_pos ⟨Int.natCast_nonneg i, by rw [ba_size]; omega⟩, Int.toNat_natCast, ba_size, Go.ByteArray.extract_mk] at this
      simp only [execOp, Instr.sliceAt, hx', he.eval hp, Option.map_some, S, Sem.run_bind, run_underlying hu, Result.andThen_ok, Option.map_none, this, Sem.run_pure]
    | some o =>
      obtain ⟨q, ho⟩ := hhi
      have := run_slice_string (P := P) w t ⟨xs.toArray⟩ q' q (i : Int) (j : Int) hu (Int.natCast_nonneg i) (by omega) hs
      rw [Int.toNat_natCast, Int.toNat_natCast, Go.ByteArray.extract_mk] at this
      simp only [execOp, Instr.sliceAt, hx', he.eval ho, he.eval hp, Option.map_some, S, Sem.run_bind, run_underlying hu, Result.andThen_ok, Option.map_none, this, Sem.run_pure]
end
end Go.Proofs.Ytlheianbmpgefaa
namespace Go.Proofs.Ytlheianbmpgefaa
open Go Go.Proofs
section
variable {P : Program} {n : Nat} {w0 : World} {ops : Array Oper} {l : List Oper} {K : Act → World → Prop} {E : Env} {A : Asn} {ty : TypeId}
variable {t u : TypeId} {x y : Operand} {i j : Int}
theorem OpOk.quoU (a b : Nat) (hx : ev E x = some (.int .u8 i)) (hi : i = (a : Int)) (hy : ev E y = some (.int .u8 j)) (hj : j = (b : Int)) (h : 0 < b) (h2 : a < 256) : OpOk P n w0 (.binOp .quo t x y u) ty E A (.int .u8 ((a / b : Nat) : Int)) := by
  subst hi hj
  refine OpOk.quo hx hy (by omega) ?_
  have e : (a : Int) / (b : Int) = ((a / b : Nat) : Int) := by simp
  have := Nat.div_le_self a b
  rw [tdivI (Int.natCast_nonneg a), e]
  generalize a / b = q at *
  exact wrapU8 (by omega) (by omega)
theorem OpOk.remU (a b : Nat) (hx : ev E x = some (.int .u8 i)) (hi : i = (a : Int)) (hy : ev E y = some (.int .u8 j)) (hj : j = (b : Int)) (h : 0 < b) : OpOk P n w0 (.binOp .rem t x y u) ty E A (.int .u8 ((a % b : Nat) : Int)) := by
  subst hi hj
  exact OpOk.rem hx hy (by omega) (by rw [tmodI (Int.natCast_nonneg a)]; simp)
theorem OpOk.shrU {q : IntKind} (a s : Nat) (hx : ev E x = some (.int .u8 i)) (hi : i = (a : Int)) (hy : ev E y = some (.int q j)) (hj : j = (s : Int)) (h : s ≤ 8) : OpOk P n w0 (.binOp .shr t x y u) ty E A (.int .u8 ((a / 2 ^ s : Nat) : Int)) := by
  subst hi hj
  refine OpOk.shr hx hy (Int.natCast_nonneg s) ?_
  rw [Int.toNat_natCast, show min s IntKind.u8.bits = s from Nat.min_eq_left (by simpa [IntKind.bits] using h)]
  simp
theorem and15 (x : UInt8) : IntKind.u8.wrap ((BitVec.ofInt IntKind.u8.bits (x.toNat : Int) &&& BitVec.ofInt IntKind.u8.bits 15).toNat : Int) = ((x.toNat % 16 : Nat) : Int) := by
  have key : ∀ c : Fin 256, IntKind.u8.wrap ((BitVec.ofInt IntKind.u8.bits ((UInt8.ofNat c.val).toNat : Int) &&& BitVec.ofInt IntKind.u8.bits 15).toNat : Int) = (((UInt8.ofNat c.val).toNat % 16 : Nat) : Int) := by decide +kernel
  have h := key ⟨x.toNat, x.toNat_lt⟩
  simpa using h
end
end Go.Proofs.Ytlheianbmpgefaa
namespace Go.Proofs.Ytlheianbmpgefaa
open Go Go.Proofs
section
variable {P : Program} {n : Nat} {w0 : World} {E : Env} {A : Asn} {ty : TypeId} {t u : TypeId} {x : Operand} {p : Option Addr}
theorem OpOk.eqlPN (hu : P.underlying t = some (.pointer (P.pointee t))) (hx : ev E x = some (.pointer p)) : OpOk P n w0 (.binOp .eql t x (.const (.pointer none)) u) ty E A (.bool p.isNone) :=
  .pure fun a w _ _ _ _ he => by
    have e : a.eval (.const (.pointer none)) = .pointer none := rfl
    have h := run_equal_pointer_nil (P := P) w t p hu
    simp [execOp, he.eval hx, e, eqGuard, binOp, h]
theorem OpOk.neqPN (hu : P.underlying t = some (.pointer (P.pointee t))) (hx : ev E x = some (.pointer p)) : OpOk P n w0 (.binOp .neq t x (.const (.pointer none)) u) ty E A (.bool (!p.isNone)) :=
  .pure fun a w _ _ _ _ he => by
    have e : a.eval (.const (.pointer none)) = .pointer none := rfl
    have h := run_equal_pointer_nil (P := P) w t p hu
    simp [execOp, he.eval hx, e, eqGuard, binOp, h]
end
end Go.Proofs.Ytlheianbmpgefaa
namespace Go.Proofs.Ytlheianbmpgefaa
open Go Go.Proofs
section
variable {P : Program} {n : Nat} {w0 : World} {ops : Array Oper} {tail : List Nat} {E : Env} {A : Asn} {K : Act → World → Prop} {known : List (Nat × Value)} {Pk L : Asn} {j : Nat}
theorem St.splitB {b : Bool} (h1 : b = true → St P n w0 ops tail E A K ((j, .bool true) :: known) Pk L) (h2 : b = false → St P n w0 ops tail E A K ((j, .bool false) :: known) Pk L) : St P n w0 ops tail E A K ((j, .bool b) :: known) Pk L := by
  cases b with
  | true => exact h1 rfl
  | false => exact h2 rfl
theorem St.splitBT {b : Bool} (e : b = true) (h1 : St P n w0 ops tail E A K ((j, .bool true) :: known) Pk L) : St P n w0 ops tail E A K ((j, .bool b) :: known) Pk L := e ▸ h1
theorem St.splitBF {b : Bool} (e : b = false) (h1 : St P n w0 ops tail E A K ((j, .bool false) :: known) Pk L) : St P n w0 ops tail E A K ((j, .bool b) :: known) Pk L := e ▸ h1
theorem St.splitD {p : Prop} [Decidable p] (h1 : p → St P n w0 ops tail E A K ((j, .bool true) :: known) Pk L) (h2 : ¬ p → St P n w0 ops tail E A K ((j, .bool false) :: known) Pk L) : St P n w0 ops tail E A K ((j, .bool (decide p)) :: known) Pk L :=
  St.splitB (fun e => h1 (of_decide_eq_true e)) (fun e => h2 (of_decide_eq_false e))
theorem St.splitN {p : Prop} [Decidable p] (h1 : ¬ p → St P n w0 ops tail E A K ((j, .bool true) :: known) Pk L) (h2 : p → St P n w0 ops tail E A K ((j, .bool false) :: known) Pk L) : St P n w0 ops tail E A K ((j, .bool (!decide p)) :: known) Pk L :=
  St.splitB (fun e => h1 (by simpa using e)) (fun e => h2 (by simpa using e))
end
end Go.Proofs.Ytlheianbmpgefaa
