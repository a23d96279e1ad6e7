/- A card. -/
import Derived.Test.YtlmehpjcmdipmaaCrd
import Derived.Test.YtlmehpjcmdipmaaLib
namespace Go.Proofs.Ytlmehpjcmdipmaa
open Go Go.Proofs
set_option maxRecDepth 100000
set_option maxHeartbeats 4000000
/-- A sector; a card with another one. -/
def secOf (xs : List UInt8) (i : Nat) : List UInt8 := (xs.drop (32 * i)).take 32
def setSec (xs : List UInt8) (i : Nat) (ys : List UInt8) : List UInt8 := xs.take (32 * i) ++ (ys ++ xs.drop (32 * i + 32))
theorem setSec_length {xs ys : List UInt8} {i : Nat} (h : xs.length = 512) (hi : i ≤ 15) (hy : ys.length = 32) : (setSec xs i ys).length = 512 := by
  simp only [setSec, List.length_append, List.length_take, List.length_drop]
  omega
theorem secOf_length {xs : List UInt8} {i : Nat} (h : xs.length = 512) (hi : i ≤ 15) : (secOf xs i).length = 32 := by
  simp only [secOf, List.length_take, List.length_drop]
  omega
theorem crd_power (xs : List UInt8) (w : Int) (h : xs.length = 512) : (B xs ++ [Value.int .i64 w]).toArray.toList[0 + 512]? = some (.int .i64 w) := by
  have : (B xs).length = 512 := by rw [B_length, h]
  show (B xs ++ [Value.int .i64 w])[512]? = _
  rw [List.getElem?_append_right (by omega), this]
  rfl
theorem crd_rd {w0 : World} {A : Asn} {p : Nat} {xs : List UInt8} {w : Int} (h : xs.length = 512) {i : Nat} (hi : i ≤ 15) : Rd w0 (A * pts p (.cells (B (xs) ++ [Value.int .i64 (w)]).toArray 95 (0, 0))) (.slice (some ⟨p, 32 * i, none⟩) 32 (512 - 32 * i)) 1 32 (B (secOf xs i)) := by
  have hb : (B xs).length = 512 := by rw [B_length, h]
  have := Rd.blk (w0 := w0) (A := A) (b := p) (off := 32 * i) (m := 32) (cap := 512 - 32 * i) (cs := B xs ++ [Value.int .i64 w]) (t := 95) (fr := (0, 0)) (by rw [List.length_append, hb]; simp; omega) (by omega) (by simp [maxLen])
  have e : ((B xs ++ [Value.int .i64 w]).drop (32 * i)).take 32 = B (secOf xs i) := by
    rw [List.drop_append_of_le_length (by omega), List.take_append_of_le_length (by rw [List.length_drop]; omega)]
    simp [B, secOf, List.map_take, List.map_drop]
  rwa [e] at this
theorem crd_all {w0 : World} {A : Asn} {p : Nat} {xs : List UInt8} {w : Int} (h : xs.length = 512) : Rd w0 (A * pts p (.cells (B (xs) ++ [Value.int .i64 (w)]).toArray 95 (0, 0))) (.slice (some ⟨p, 0 + 0, none⟩) 512 512) 1 512 (B xs) := by
  have hb : (B xs).length = 512 := by rw [B_length, h]
  have := Rd.blk (w0 := w0) (A := A) (b := p) (off := 0) (m := 512) (cap := 512) (cs := B xs ++ [Value.int .i64 w]) (t := 95) (fr := (0, 0)) (by rw [List.length_append, hb]; simp) (by omega) (by simp [maxLen])
  have e : ((B xs ++ [Value.int .i64 w]).drop 0).take 512 = B xs := by
    rw [List.drop_zero, List.take_append_of_le_length (by omega), List.take_of_length_le (by omega)]
  rwa [e] at this
theorem s42a {w0 : World} {A : Asn} {u : Value} {m : Nat} {bs : List UInt8} {k : Nat} (rd : Rd w0 A u 1 m (B bs)) (h : m < k) : Spec Try.prog w0 42 [u, .int .i64 (k : Int)] A (fun v' A' => v' = .int .i64 10 ∧ A' = A) := by
  refine Spec.of_run [(0, u), (1, .int .i64 (k : Int))] Try.func42 rfl (Nat.le_of_ble_eq_true rfl) (by repeat (first | exact trivial | refine ⟨rfl, ?_⟩)) ?_
  refine Run.seq ?_
  refine Run.region ?_
  refine RunL.ok (OpOk.assign rfl) rfl ?_
  refine RunL.nil ?_
  refine Run.seq ?_
  refine Run.block ?_
  refine Run.seq ?_
  refine Run.region ?_
  refine RunL.ok (OpOk.move rfl) rfl ?_
  refine RunL.ok (OpOk.lenR rfl rfl rd rfl) rfl ?_
  refine RunL.ok (OpOk.move rfl) rfl ?_
  refine RunL.ok (OpOk.asT (OpOk.lss rfl rfl) (by omega)) rfl ?_
  refine RunL.ok (OpOk.assign rfl) rfl ?_
  refine RunL.nil ?_
  refine Run.condT rfl ?_
  refine Run.seq ?_
  refine Run.region ?_
  refine RunL.ok (OpOk.assign rfl) rfl ?_
  refine RunL.nil ?_
  refine Run.ret1 Try.func42 rfl rfl ?_
  exact ⟨rfl, rfl⟩
theorem s42b {w0 : World} {A : Asn} {u : Value} {m : Nat} {bs : List UInt8} {k : Nat} (rd : Rd w0 A u 1 m (B bs)) (h : k < m) : Spec Try.prog w0 42 [u, .int .i64 (k : Int)] A (fun v' A' => v' = .int .i64 11 ∧ A' = A) := by
  refine Spec.of_run [(0, u), (1, .int .i64 (k : Int))] Try.func42 rfl (Nat.le_of_ble_eq_true rfl) (by repeat (first | exact trivial | refine ⟨rfl, ?_⟩)) ?_
  refine Run.seq ?_
  refine Run.region ?_
  refine RunL.ok (OpOk.assign rfl) rfl ?_
  refine RunL.nil ?_
  refine Run.seq ?_
  refine Run.block ?_
  refine Run.seq ?_
  refine Run.region ?_
  refine RunL.ok (OpOk.move rfl) rfl ?_
  refine RunL.ok (OpOk.lenR rfl rfl rd rfl) rfl ?_
  refine RunL.ok (OpOk.move rfl) rfl ?_
  refine RunL.ok (OpOk.asF (OpOk.lss rfl rfl) (by omega)) rfl ?_
  refine RunL.ok (OpOk.assign rfl) rfl ?_
  refine RunL.nil ?_
  refine Run.condF rfl ?_
  refine Run.seq ?_
  refine Run.region ?_
  refine RunL.ok (OpOk.move rfl) rfl ?_
  refine RunL.ok (OpOk.lenR rfl rfl rd rfl) rfl ?_
  refine RunL.ok (OpOk.move rfl) rfl ?_
  refine RunL.ok (OpOk.asT (OpOk.gtr rfl rfl) (by omega)) rfl ?_
  refine RunL.ok (OpOk.assign rfl) rfl ?_
  refine RunL.nil ?_
  refine Run.condT rfl ?_
  refine Run.seq ?_
  refine Run.region ?_
  refine RunL.ok (OpOk.assign rfl) rfl ?_
  refine RunL.nil ?_
  refine Run.ret1 Try.func42 rfl rfl ?_
  exact ⟨rfl, rfl⟩
theorem s42c {w0 : World} {A : Asn} {u : Value} {m : Nat} {bs : List UInt8} {k : Nat} (rd : Rd w0 A u 1 m (B bs)) (h : m = k) : Spec Try.prog w0 42 [u, .int .i64 (k : Int)] A (fun v' A' => v' = .int .i64 0 ∧ A' = A) := by
  refine Spec.of_run [(0, u), (1, .int .i64 (k : Int))] Try.func42 rfl (Nat.le_of_ble_eq_true rfl) (by repeat (first | exact trivial | refine ⟨rfl, ?_⟩)) ?_
  refine Run.seq ?_
  refine Run.region ?_
  refine RunL.ok (OpOk.assign rfl) rfl ?_
  refine RunL.nil ?_
  refine Run.seq ?_
  refine Run.block ?_
  refine Run.seq ?_
  refine Run.region ?_
  refine RunL.ok (OpOk.move rfl) rfl ?_
  refine RunL.ok (OpOk.lenR rfl rfl rd rfl) rfl ?_
  refine RunL.ok (OpOk.move rfl) rfl ?_
  refine RunL.ok (OpOk.asF (OpOk.lss rfl rfl) (by omega)) rfl ?_
  refine RunL.ok (OpOk.assign rfl) rfl ?_
  refine RunL.nil ?_
  refine Run.condF rfl ?_
  refine Run.seq ?_
  refine Run.region ?_
  refine RunL.ok (OpOk.move rfl) rfl ?_
  refine RunL.ok (OpOk.lenR rfl rfl rd rfl) rfl ?_
  refine RunL.ok (OpOk.move rfl) rfl ?_
  refine RunL.ok (OpOk.asF (OpOk.gtr rfl rfl) (by omega)) rfl ?_
  refine RunL.ok (OpOk.assign rfl) rfl ?_
  refine RunL.nil ?_
  refine Run.condF rfl ?_
  refine Run.skip ?_
  refine Run.inBlock ?_
  refine Run.seq ?_
  refine Run.region ?_
  refine RunL.ok (OpOk.assign rfl) rfl ?_
  refine RunL.nil ?_
  refine Run.ret1 Try.func42 rfl rfl ?_
  exact ⟨rfl, rfl⟩
theorem s41a {w0 : World} {A : Asn} {p : Nat} {i : Int} (h : i < 0 ∨ 15 < i) : Spec Try.prog w0 41 [.pointer (some ⟨p, 0, none⟩), .int .i64 i] A (fun v' A' => v' = .slice none 0 0 ∧ A' = A) := by
  refine Spec.of_run [(0, .pointer (some ⟨p, 0, none⟩)), (1, .int .i64 i)] Try.func41 rfl (Nat.le_of_ble_eq_true rfl) (by repeat (first | exact trivial | refine ⟨rfl, ?_⟩)) ?_
  refine Run.seq ?_
  refine Run.region ?_
  refine RunL.ok (OpOk.assign rfl) rfl ?_
  refine RunL.nil ?_
  refine Run.seq ?_
  refine Run.seq ?_
  refine Run.region ?_
  refine RunL.ok (OpOk.move rfl) rfl ?_
  refine RunL.ok (OpOk.lss rfl rfl) rfl ?_
  refine RunL.ok (OpOk.move rfl) rfl ?_
  refine RunL.splitD (t := 7) rfl (fun x1 => ?_) (fun x1 => ?_)
  · refine RunL.off rfl rfl rfl rfl ?_
    refine RunL.off rfl rfl rfl rfl ?_
    refine RunL.ok (OpOk.pickT rfl rfl) rfl ?_
    refine RunL.nil ?_
    refine Run.condT rfl ?_
    refine Run.seq ?_
    refine Run.region ?_
    refine RunL.ok (OpOk.assign rfl) rfl ?_
    refine RunL.nil ?_
    refine Run.ret1 Try.func41 rfl rfl ?_
    exact ⟨rfl, rfl⟩
  refine RunL.on rfl rfl ?_
  refine RunL.ok (OpOk.move rfl) rfl ?_
  refine RunL.on rfl rfl ?_
  refine RunL.ok (OpOk.asT (OpOk.geq rfl rfl) (by omega)) rfl ?_
  refine RunL.ok (OpOk.pickF rfl rfl) rfl ?_
  refine RunL.nil ?_
  refine Run.condT rfl ?_
  refine Run.seq ?_
  refine Run.region ?_
  refine RunL.ok (OpOk.assign rfl) rfl ?_
  refine RunL.nil ?_
  refine Run.ret1 Try.func41 rfl rfl ?_
  exact ⟨rfl, rfl⟩
theorem s41b {w0 : World} {A : Asn} {p : Nat} {i : Nat} (h : i ≤ 15) : Spec Try.prog w0 41 [.pointer (some ⟨p, 0, none⟩), .int .i64 (i : Int)] A (fun v' A' => v' = .slice (some ⟨p, 32 * i, none⟩) 32 (512 - 32 * i) ∧ A' = A) := by
  refine Spec.of_run [(0, .pointer (some ⟨p, 0, none⟩)), (1, .int .i64 (i : Int))] Try.func41 rfl (Nat.le_of_ble_eq_true rfl) (by repeat (first | exact trivial | refine ⟨rfl, ?_⟩)) ?_
  refine Run.seq ?_
  refine Run.region ?_
  refine RunL.ok (OpOk.assign rfl) rfl ?_
  refine RunL.nil ?_
  refine Run.seq ?_
  refine Run.seq ?_
  refine Run.region ?_
  refine RunL.ok (OpOk.move rfl) rfl ?_
  refine RunL.ok (OpOk.asF (OpOk.lss rfl rfl) (by omega)) rfl ?_
  refine RunL.ok (OpOk.move rfl) rfl ?_
  refine RunL.on rfl rfl ?_
  refine RunL.ok (OpOk.move rfl) rfl ?_
  refine RunL.on rfl rfl ?_
  refine RunL.ok (OpOk.asF (OpOk.geq rfl rfl) (by omega)) rfl ?_
  refine RunL.ok (OpOk.pickF rfl rfl) rfl ?_
  refine RunL.nil ?_
  refine Run.condF rfl ?_
  refine Run.skip ?_
  refine Run.seq ?_
  refine Run.region ?_
  refine RunL.ok (OpOk.move rfl) rfl ?_
  refine RunL.ok (OpOk.nilOk rfl) rfl ?_
  refine RunL.ok (OpOk.fieldAddr fld95_0 rfl) rfl ?_
  refine RunL.ok (OpOk.move rfl) rfl ?_
  refine RunL.ok (OpOk.mulN _ 32 rfl rfl rfl rfl (by omega)) rfl ?_
  refine RunL.ok (OpOk.move rfl) rfl ?_
  refine RunL.ok (OpOk.addN _ 1 rfl rfl rfl rfl (by omega)) rfl ?_
  refine RunL.ok (OpOk.mulN _ 32 rfl rfl rfl rfl (by omega)) rfl ?_
  refine RunL.ok (OpOk.cutArr rfl ti5 rfl rfl rfl (by omega) (by omega) (by omega)) rfl ?_
  refine RunL.ok (OpOk.assign rfl) rfl ?_
  refine RunL.nil ?_
  refine Run.ret1 Try.func41 rfl rfl ?_
  rw [show 0 + 0 + i * 32 = 32 * i by omega, show (i + 1) * 32 - i * 32 = 32 by omega, show 512 - i * 32 = 512 - 32 * i by omega]
  exact ⟨rfl, rfl⟩
theorem crd_set {xs ys : List UInt8} {w : Value} {i : Nat} (h : xs.length = 512) (hi : i ≤ 15) : (B xs ++ [w]).take (32 * i) ++ (B ys ++ (B xs ++ [w]).drop (32 * i + 32)) = B (setSec xs i ys) ++ [w] := by
  have hb : (B xs).length = 512 := by rw [B_length, h]
  rw [List.take_append_of_le_length (by omega), List.drop_append_of_le_length (by omega)]
  simp only [setSec, B, List.map_append, List.map_take, List.map_drop, List.append_assoc]
theorem s18 {w0 : World} {A : Asn} : Spec Try.prog w0 18 [] A (fun v' A' => ∃ p, v' = .pointer (some ⟨p, 0, none⟩) ∧ A' = A * pts p (.cells (B (List.replicate 512 0) ++ [Value.int .i64 (-1)]).toArray 95 (0, 0))) := by
  refine Spec.of_run [] Try.func18 rfl (Nat.le_of_ble_eq_true rfl) (by repeat (first | exact trivial | refine ⟨rfl, ?_⟩)) ?_
  refine Run.seq ?_
  refine Run.region ?_
  refine RunL.ok (OpOk.assign rfl) rfl ?_
  refine RunL.nil ?_
  refine Run.seq ?_
  refine Run.region ?_
  refine RunL.ok (OpOk.build (cells := #[.int (IntKind.u8) (0), .int (IntKind.u8) (0), .int (IntKind.u8) (0), .int (IntKind.u8) (0), .int (IntKind.u8) (0), .int (IntKind.u8) (0), .int (IntKind.u8) (0), .int (IntKind.u8) (0), .int (IntKind.u8) (0), .int (IntKind.u8) (0), .int (IntKind.u8) (0), .int (IntKind.u8) (0), .int (IntKind.u8) (0), .int (IntKind.u8) (0), .int (IntKind.u8) (0), .int (IntKind.u8) (0), .int (IntKind.u8) (0), .int (IntKind.u8) (0), .int (IntKind.u8) (0), .int (IntKind.u8) (0), .int (IntKind.u8) (0), .int (IntKind.u8) (0), .int (IntKind.u8) (0), .int (IntKind.u8) (0), .int (IntKind.u8) (0), .int (IntKind.u8) (0), .int (IntKind.u8) (0), .int (IntKind.u8) (0), .int (IntKind.u8) (0), .int (IntKind.u8) (0), .int (IntKind.u8) (0), .int (IntKind.u8) (0), .int (IntKind.u8) (0), .int (IntKind.u8) (0), .int (IntKind.u8) (0), .int (IntKind.u8) (0), .int (IntKind.u8) (0), .int (IntKind.u8) (0), .int (IntKind.u8) (0), .int (IntKind.u8) (0), .int (IntKind.u8) (0), .int (IntKind.u8) (0), .int (IntKind.u8) (0), .int (IntKind.u8) (0), .int (IntKind.u8) (0), .int (IntKind.u8) (0), .int (IntKind.u8) (0), .int (IntKind.u8) (0), .int (IntKind.u8) (0), .int (IntKind.u8) (0), .int (IntKind.u8) (0), .int (IntKind.u8) (0), .int (IntKind.u8) (0), .int (IntKind.u8) (0), .int (IntKind.u8) (0), .int (IntKind.u8) (0), .int (IntKind.u8) (0), .int (IntKind.u8) (0), .int (IntKind.u8) (0), .int (IntKind.u8) (0), .int (IntKind.u8) (0), .int (IntKind.u8) (0), .int (IntKind.u8) (0), .int (IntKind.u8) (0), .int (IntKind.u8) (0), .int (IntKind.u8) (0), .int (IntKind.u8) (0), .int (IntKind.u8) (0), .int (IntKind.u8) (0), .int (IntKind.u8) (0), .int (IntKind.u8) (0), .int (IntKind.u8) (0), .int (IntKind.u8) (0), .int (IntKind.u8) (0), .int (IntKind.u8) (0), .int (IntKind.u8) (0), .int (IntKind.u8) (0), .int (IntKind.u8) (0), .int (IntKind.u8) (0), .int (IntKind.u8) (0), .int (IntKind.u8) (0), .int (IntKind.u8) (0), .int (IntKind.u8) (0), .int (IntKind.u8) (0), .int (IntKind.u8) (0), .int (IntKind.u8) (0), .int (IntKind.u8) (0), .int (IntKind.u8) (0), .int (IntKind.u8) (0), .int (IntKind.u8) (0), .int (IntKind.u8) (0), .int (IntKind.u8) (0), .int (IntKind.u8) (0), .int (IntKind.u8) (0), .int (IntKind.u8) (0), .int (IntKind.u8) (0), .int (IntKind.u8) (0), .int (IntKind.u8) (0), .int (IntKind.u8) (0), .int (IntKind.u8) (0), .int (IntKind.u8) (0), .int (IntKind.u8) (0), .int (IntKind.u8) (0), .int (IntKind.u8) (0), .int (IntKind.u8) (0), .int (IntKind.u8) (0), .int (IntKind.u8) (0), .int (IntKind.u8) (0), .int (IntKind.u8) (0), .int (IntKind.u8) (0), .int (IntKind.u8) (0), .int (IntKind.u8) (0), .int (IntKind.u8) (0), .int (IntKind.u8) (0), .int (IntKind.u8) (0), .int (IntKind.u8) (0), .int (IntKind.u8) (0), .int (IntKind.u8) (0), .int (IntKind.u8) (0), .int (IntKind.u8) (0), .int (IntKind.u8) (0), .int (IntKind.u8) (0), .int (IntKind.u8) (0), .int (IntKind.u8) (0), .int (IntKind.u8) (0), .int (IntKind.u8) (0), .int (IntKind.u8) (0), .int (IntKind.u8) (0), .int (IntKind.u8) (0), .int (IntKind.u8) (0), .int (IntKind.u8) (0), .int (IntKind.u8) (0), .int (IntKind.u8) (0), .int (IntKind.u8) (0), .int (IntKind.u8) (0), .int (IntKind.u8) (0), .int (IntKind.u8) (0), .int (IntKind.u8) (0), .int (IntKind.u8) (0), .int (IntKind.u8) (0), .int (IntKind.u8) (0), .int (IntKind.u8) (0), .int (IntKind.u8) (0), .int (IntKind.u8) (0), .int (IntKind.u8) (0), .int (IntKind.u8) (0), .int (IntKind.u8) (0), .int (IntKind.u8) (0), .int (IntKind.u8) (0), .int (IntKind.u8) (0), .int (IntKind.u8) (0), .int (IntKind.u8) (0), .int (IntKind.u8) (0), .int (IntKind.u8) (0), .int (IntKind.u8) (0), .int (IntKind.u8) (0), .int (IntKind.u8) (0), .int (IntKind.u8) (0), .int (IntKind.u8) (0), .int (IntKind.u8) (0), .int (IntKind.u8) (0), .int (IntKind.u8) (0), .int (IntKind.u8) (0), .int (IntKind.u8) (0), .int (IntKind.u8) (0), .int (IntKind.u8) (0), .int (IntKind.u8) (0), .int (IntKind.u8) (0), .int (IntKind.u8) (0), .int (IntKind.u8) (0), .int (IntKind.u8) (0), .int (IntKind.u8) (0), .int (IntKind.u8) (0), .int (IntKind.u8) (0), .int (IntKind.u8) (0), .int (IntKind.u8) (0), .int (IntKind.u8) (0), .int (IntKind.u8) (0), .int (IntKind.u8) (0), .int (IntKind.u8) (0), .int (IntKind.u8) (0), .int (IntKind.u8) (0), .int (IntKind.u8) (0), .int (IntKind.u8) (0), .int (IntKind.u8) (0), .int (IntKind.u8) (0), .int (IntKind.u8) (0), .int (IntKind.u8) (0), .int (IntKind.u8) (0), .int (IntKind.u8) (0), .int (IntKind.u8) (0), .int (IntKind.u8) (0), .int (IntKind.u8) (0), .int (IntKind.u8) (0), .int (IntKind.u8) (0), .int (IntKind.u8) (0), .int (IntKind.u8) (0), .int (IntKind.u8) (0), .int (IntKind.u8) (0), .int (IntKind.u8) (0), .int (IntKind.u8) (0), .int (IntKind.u8) (0), .int (IntKind.u8) (0), .int (IntKind.u8) (0), .int (IntKind.u8) (0), .int (IntKind.u8) (0), .int (IntKind.u8) (0), .int (IntKind.u8) (0), .int (IntKind.u8) (0), .int (IntKind.u8) (0), .int (IntKind.u8) (0), .int (IntKind.u8) (0), .int (IntKind.u8) (0), .int (IntKind.u8) (0), .int (IntKind.u8) (0), .int (IntKind.u8) (0), .int (IntKind.u8) (0), .int (IntKind.u8) (0), .int (IntKind.u8) (0), .int (IntKind.u8) (0), .int (IntKind.u8) (0), .int (IntKind.u8) (0), .int (IntKind.u8) (0), .int (IntKind.u8) (0), .int (IntKind.u8) (0), .int (IntKind.u8) (0), .int (IntKind.u8) (0), .int (IntKind.u8) (0), .int (IntKind.u8) (0), .int (IntKind.u8) (0), .int (IntKind.u8) (0), .int (IntKind.u8) (0), .int (IntKind.u8) (0), .int (IntKind.u8) (0), .int (IntKind.u8) (0), .int (IntKind.u8) (0), .int (IntKind.u8) (0), .int (IntKind.u8) (0), .int (IntKind.u8) (0), .int (IntKind.u8) (0), .int (IntKind.u8) (0), .int (IntKind.u8) (0), .int (IntKind.u8) (0), .int (IntKind.u8) (0), .int (IntKind.u8) (0), .int (IntKind.u8) (0), .int (IntKind.u8) (0), .int (IntKind.u8) (0), .int (IntKind.u8) (0), .int (IntKind.u8) (0), .int (IntKind.u8) (0), .int (IntKind.u8) (0), .int (IntKind.u8) (0), .int (IntKind.u8) (0), .int (IntKind.u8) (0), .int (IntKind.u8) (0), .int (IntKind.u8) (0), .int (IntKind.u8) (0), .int (IntKind.u8) (0), .int (IntKind.u8) (0), .int (IntKind.u8) (0), .int (IntKind.u8) (0), .int (IntKind.u8) (0), .int (IntKind.u8) (0), .int (IntKind.u8) (0), .int (IntKind.u8) (0), .int (IntKind.u8) (0), .int (IntKind.u8) (0), .int (IntKind.u8) (0), .int (IntKind.u8) (0), .int (IntKind.u8) (0), .int (IntKind.u8) (0), .int (IntKind.u8) (0), .int (IntKind.u8) (0), .int (IntKind.u8) (0), .int (IntKind.u8) (0), .int (IntKind.u8) (0), .int (IntKind.u8) (0), .int (IntKind.u8) (0), .int (IntKind.u8) (0), .int (IntKind.u8) (0), .int (IntKind.u8) (0), .int (IntKind.u8) (0), .int (IntKind.u8) (0), .int (IntKind.u8) (0), .int (IntKind.u8) (0), .int (IntKind.u8) (0), .int (IntKind.u8) (0), .int (IntKind.u8) (0), .int (IntKind.u8) (0), .int (IntKind.u8) (0), .int (IntKind.u8) (0), .int (IntKind.u8) (0), .int (IntKind.u8) (0), .int (IntKind.u8) (0), .int (IntKind.u8) (0), .int (IntKind.u8) (0), .int (IntKind.u8) (0), .int (IntKind.u8) (0), .int (IntKind.u8) (0), .int (IntKind.u8) (0), .int (IntKind.u8) (0), .int (IntKind.u8) (0), .int (IntKind.u8) (0), .int (IntKind.u8) (0), .int (IntKind.u8) (0), .int (IntKind.u8) (0), .int (IntKind.u8) (0), .int (IntKind.u8) (0), .int (IntKind.u8) (0), .int (IntKind.u8) (0), .int (IntKind.u8) (0), .int (IntKind.u8) (0), .int (IntKind.u8) (0), .int (IntKind.u8) (0), .int (IntKind.u8) (0), .int (IntKind.u8) (0), .int (IntKind.u8) (0), .int (IntKind.u8) (0), .int (IntKind.u8) (0), .int (IntKind.u8) (0), .int (IntKind.u8) (0), .int (IntKind.u8) (0), .int (IntKind.u8) (0), .int (IntKind.u8) (0), .int (IntKind.u8) (0), .int (IntKind.u8) (0), .int (IntKind.u8) (0), .int (IntKind.u8) (0), .int (IntKind.u8) (0), .int (IntKind.u8) (0), .int (IntKind.u8) (0), .int (IntKind.u8) (0), .int (IntKind.u8) (0), .int (IntKind.u8) (0), .int (IntKind.u8) (0), .int (IntKind.u8) (0), .int (IntKind.u8) (0), .int (IntKind.u8) (0), .int (IntKind.u8) (0), .int (IntKind.u8) (0), .int (IntKind.u8) (0), .int (IntKind.u8) (0), .int (IntKind.u8) (0), .int (IntKind.u8) (0), .int (IntKind.u8) (0), .int (IntKind.u8) (0), .int (IntKind.u8) (0), .int (IntKind.u8) (0), .int (IntKind.u8) (0), .int (IntKind.u8) (0), .int (IntKind.u8) (0), .int (IntKind.u8) (0), .int (IntKind.u8) (0), .int (IntKind.u8) (0), .int (IntKind.u8) (0), .int (IntKind.u8) (0), .int (IntKind.u8) (0), .int (IntKind.u8) (0), .int (IntKind.u8) (0), .int (IntKind.u8) (0), .int (IntKind.u8) (0), .int (IntKind.u8) (0), .int (IntKind.u8) (0), .int (IntKind.u8) (0), .int (IntKind.u8) (0), .int (IntKind.u8) (0), .int (IntKind.u8) (0), .int (IntKind.u8) (0), .int (IntKind.u8) (0), .int (IntKind.u8) (0), .int (IntKind.u8) (0), .int (IntKind.u8) (0), .int (IntKind.u8) (0), .int (IntKind.u8) (0), .int (IntKind.u8) (0), .int (IntKind.u8) (0), .int (IntKind.u8) (0), .int (IntKind.u8) (0), .int (IntKind.u8) (0), .int (IntKind.u8) (0), .int (IntKind.u8) (0), .int (IntKind.u8) (0), .int (IntKind.u8) (0), .int (IntKind.u8) (0), .int (IntKind.u8) (0), .int (IntKind.u8) (0), .int (IntKind.u8) (0), .int (IntKind.u8) (0), .int (IntKind.u8) (0), .int (IntKind.u8) (0), .int (IntKind.u8) (0), .int (IntKind.u8) (0), .int (IntKind.u8) (0), .int (IntKind.u8) (0), .int (IntKind.u8) (0), .int (IntKind.u8) (0), .int (IntKind.u8) (0), .int (IntKind.u8) (0), .int (IntKind.u8) (0), .int (IntKind.u8) (0), .int (IntKind.u8) (0), .int (IntKind.u8) (0), .int (IntKind.u8) (0), .int (IntKind.u8) (0), .int (IntKind.u8) (0), .int (IntKind.u8) (0), .int (IntKind.u8) (0), .int (IntKind.u8) (0), .int (IntKind.u8) (0), .int (IntKind.u8) (0), .int (IntKind.u8) (0), .int (IntKind.u8) (0), .int (IntKind.u8) (0), .int (IntKind.u8) (0), .int (IntKind.u8) (0), .int (IntKind.u8) (0), .int (IntKind.u8) (0), .int (IntKind.u8) (0), .int (IntKind.u8) (0), .int (IntKind.u8) (0), .int (IntKind.u8) (0), .int (IntKind.u8) (0), .int (IntKind.u8) (0), .int (IntKind.u8) (0), .int (IntKind.u8) (0), .int (IntKind.u8) (0), .int (IntKind.u8) (0), .int (IntKind.u8) (0), .int (IntKind.u8) (0), .int (IntKind.u8) (0), .int (IntKind.u8) (0), .int (IntKind.u8) (0), .int (IntKind.u8) (0), .int (IntKind.u8) (0), .int (IntKind.u8) (0), .int (IntKind.u8) (0), .int (IntKind.u8) (0), .int (IntKind.u8) (0), .int (IntKind.u8) (0), .int (IntKind.u8) (0), .int (IntKind.u8) (0), .int (IntKind.u8) (0), .int (IntKind.u8) (0), .int (IntKind.u8) (0), .int (IntKind.u8) (0), .int (IntKind.u8) (0), .int (IntKind.u8) (0), .int (IntKind.u8) (0), .int (IntKind.u8) (0), .int (IntKind.u8) (0), .int (IntKind.u8) (0), .int (IntKind.u8) (0), .int (IntKind.u8) (0), .int (IntKind.u8) (0), .int (IntKind.u8) (0), .int (IntKind.u8) (0), .int (IntKind.u8) (0), .int (IntKind.u8) (0), .int (IntKind.u8) (0), .int (IntKind.u8) (0), .int (IntKind.u8) (0), .int (IntKind.u8) (0), .int (IntKind.u8) (0), .int (IntKind.u8) (0), .int (IntKind.u8) (0), .int (IntKind.u8) (0), .int (IntKind.u8) (0), .int (IntKind.u8) (0), .int (IntKind.u8) (0), .int (IntKind.u8) (0), .int (IntKind.u8) (0), .int (IntKind.u8) (0), .int (IntKind.u8) (0), .int (IntKind.u8) (0), .int (IntKind.u8) (0), .int (IntKind.u8) (0), .int (IntKind.u8) (0), .int (IntKind.u8) (0), .int (IntKind.u8) (0), .int (IntKind.u8) (0), .int (IntKind.u8) (0), .int (IntKind.u8) (0), .int (IntKind.u8) (0), .int (IntKind.u8) (0), .int (IntKind.u8) (0), .int (IntKind.u8) (0), .int (IntKind.u8) (0), .int (IntKind.u8) (0), .int (IntKind.u8) (0), .int (IntKind.u8) (0), .int (IntKind.u8) (0), .int (IntKind.u8) (0), .int (IntKind.u8) (0), .int (IntKind.u8) (0), .int (IntKind.u8) (0), .int (IntKind.u8) (0), .int (IntKind.u8) (0), .int (IntKind.u8) (0), .int (IntKind.u8) (0), .int (IntKind.u8) (0), .int (IntKind.u8) (0), .int (IntKind.u8) (0), .int (IntKind.u8) (0), .int (IntKind.u8) (0), .int (IntKind.u8) (0), .int (IntKind.u8) (0), .int (IntKind.u8) (0), .int (IntKind.u8) (0), .int (IntKind.u8) (0), .int (IntKind.u8) (0), .int (IntKind.u8) (0), .int (IntKind.i64) (-1)]) rfl (fun w => run_build w 95 _ _ (by rfl))) rfl ?_
  refine RunL.box rfl rfl (fun bx1 => ?_)
  refine RunL.ok (OpOk.assign rfl) rfl ?_
  refine RunL.nil ?_
  refine Run.ret1 Try.func18 rfl rfl ?_
  exact ⟨_, rfl, (frc rfl rfl)⟩
section
variable {w0 : World} {A : Asn} {p : Nat} {xs : List UInt8} {w : Int}
theorem s19 {n : Int} (hx : xs.length = 512) : Spec Try.prog w0 19 [.pointer (some ⟨p, 0, none⟩), .int .i64 n] (A * pts p (.cells (B (xs) ++ [Value.int .i64 (w)]).toArray 95 (0, 0))) (fun v' A' => v' = .tuple #[] ∧ A' = A * pts p (.cells (B (xs) ++ [Value.int .i64 (max n (-1))]).toArray 95 (0, 0))) := by
  refine Spec.of_run [(0, .pointer (some ⟨p, 0, none⟩)), (1, .int .i64 n)] Try.func19 rfl (Nat.le_of_ble_eq_true rfl) (by repeat (first | exact trivial | refine ⟨rfl, ?_⟩)) ?_
  refine Run.region ?_
  refine RunL.ok (OpOk.move rfl) rfl ?_
  refine RunL.ok (OpOk.move rfl) rfl ?_
  refine RunL.ok (OpOk.max2 rfl rfl rfl) rfl ?_
  refine RunL.ok (OpOk.nilOk rfl) rfl ?_
  refine RunL.ok (OpOk.fieldAddr fld95_1 rfl) rfl ?_
  refine RunL.storeCrd ti3 rfl rfl rfl hx ?_
  refine RunL.nil ?_
  refine Run.fall0 Try.func19 rfl ?_
  exact ⟨rfl, rfl⟩
theorem s26 (hx : xs.length = 512) : Spec Try.prog w0 26 [.pointer (some ⟨p, 0, none⟩)] (A * pts p (.cells (B (xs) ++ [Value.int .i64 (w)]).toArray 95 (0, 0))) (fun v' A' => A' = A * pts p (.cells (B (xs) ++ [Value.int .i64 (w)]).toArray 95 (0, 0)) * own 5 1 v' 512 (B xs)) := by
  have rdA := crd_all (w0 := w0) (A := A) (p := p) (w := w) hx
  refine Spec.of_run [(0, .pointer (some ⟨p, 0, none⟩))] Try.func26 rfl (Nat.le_of_ble_eq_true rfl) (by repeat (first | exact trivial | refine ⟨rfl, ?_⟩)) ?_
  refine Run.seq ?_
  refine Run.region ?_
  refine RunL.ok (OpOk.assign rfl) rfl ?_
  refine RunL.nil ?_
  refine Run.seq ?_
  refine Run.region ?_
  refine RunL.ok (OpOk.move rfl) rfl ?_
  refine RunL.ok (OpOk.nilOk rfl) rfl ?_
  refine RunL.ok (OpOk.fieldAddr fld95_0 rfl) rfl ?_
  refine RunL.ok (OpOk.cutArrA rfl ti5 rfl (by decide)) rfl ?_
  refine RunL.call cal43 rfl (s43 rdA (by omega)) rfl (fun vx1 Ax1 hx1 => ?_)
  obtain rfl := hx1
  refine RunL.ok (OpOk.assign rfl) rfl ?_
  refine RunL.nil ?_
  refine Run.ret1 Try.func26 rfl rfl ?_
  exact rfl
theorem s21a {i : Int} (h : i < 0 ∨ 15 < i) : Spec Try.prog w0 21 [.pointer (some ⟨p, 0, none⟩), .int .i64 i] (A * pts p (.cells (B (xs) ++ [Value.int .i64 (w)]).toArray 95 (0, 0))) (fun v' A' => v' = .tuple #[.slice none 0 0, .int .i64 2] ∧ A' = A * pts p (.cells (B (xs) ++ [Value.int .i64 (w)]).toArray 95 (0, 0))) := by
  refine Spec.of_run [(0, .pointer (some ⟨p, 0, none⟩)), (1, .int .i64 i)] Try.func21 rfl (Nat.le_of_ble_eq_true rfl) (by repeat (first | exact trivial | refine ⟨rfl, ?_⟩)) ?_
  refine Run.seq ?_
  refine Run.region ?_
  refine RunL.ok (OpOk.assign rfl) rfl ?_
  refine RunL.ok (OpOk.assign rfl) rfl ?_
  refine RunL.nil ?_
  refine Run.seq ?_
  refine Run.region ?_
  refine RunL.ok (OpOk.move rfl) rfl ?_
  refine RunL.ok (OpOk.move rfl) rfl ?_
  refine RunL.call cal41 rfl (s41a (by assumption)) rfl (fun vx1 Ax1 hx1 => ?_)
  obtain ⟨rfl, rfl⟩ := hx1
  refine RunL.ok (OpOk.assign rfl) rfl ?_
  refine RunL.nil ?_
  refine Run.seq ?_
  refine Run.seq ?_
  refine Run.region ?_
  refine RunL.ok (OpOk.move rfl) rfl ?_
  refine RunL.ok (OpOk.eqlNil rfl rfl) rfl ?_
  refine RunL.nil ?_
  refine Run.condT rfl ?_
  refine Run.seq ?_
  refine Run.region ?_
  refine RunL.ok (OpOk.assign rfl) rfl ?_
  refine RunL.ok (OpOk.assign rfl) rfl ?_
  refine RunL.nil ?_
  refine Run.ret2 Try.func21 rfl rfl rfl ?_
  exact ⟨rfl, rfl⟩
theorem s21b {i : Int} (h0 : 0 ≤ i) (h : i ≤ 15) (hx : xs.length = 512) : Spec Try.prog w0 21 [.pointer (some ⟨p, 0, none⟩), .int .i64 i] (A * pts p (.cells (B (xs) ++ [Value.int .i64 (w)]).toArray 95 (0, 0))) (fun v' A' => ∃ u, v' = .tuple #[u, .int .i64 0] ∧ A' = A * pts p (.cells (B (xs) ++ [Value.int .i64 (w)]).toArray 95 (0, 0)) * own 5 1 u 32 (B (secOf xs i.toNat))) := by
  obtain ⟨i, rfl⟩ := Int.eq_ofNat_of_zero_le h0
  rw [Int.toNat_natCast]
  have rdA := crd_rd (w0 := w0) (A := A) (p := p) (w := w) hx (i := i) (by omega)
  refine Spec.of_run [(0, .pointer (some ⟨p, 0, none⟩)), (1, .int .i64 (i : Int))] Try.func21 rfl (Nat.le_of_ble_eq_true rfl) (by repeat (first | exact trivial | refine ⟨rfl, ?_⟩)) ?_
  refine Run.seq ?_
  refine Run.region ?_
  refine RunL.ok (OpOk.assign rfl) rfl ?_
  refine RunL.ok (OpOk.assign rfl) rfl ?_
  refine RunL.nil ?_
  refine Run.seq ?_
  refine Run.region ?_
  refine RunL.ok (OpOk.move rfl) rfl ?_
  refine RunL.ok (OpOk.move rfl) rfl ?_
  refine RunL.call cal41 rfl (s41b (by omega)) rfl (fun vx2 Ax2 hx2 => ?_)
  obtain ⟨rfl, rfl⟩ := hx2
  refine RunL.ok (OpOk.assign rfl) rfl ?_
  refine RunL.nil ?_
  refine Run.seq ?_
  refine Run.seq ?_
  refine Run.region ?_
  refine RunL.ok (OpOk.move rfl) rfl ?_
  refine RunL.ok (OpOk.eqlNil rfl rfl) rfl ?_
  refine RunL.nil ?_
  refine Run.condF rfl ?_
  refine Run.skip ?_
  refine Run.seq ?_
  refine Run.region ?_
  refine RunL.ok (OpOk.move rfl) rfl ?_
  refine RunL.call cal43 rfl (s43 rdA (by omega)) rfl (fun vx3 Ax3 hx3 => ?_)
  obtain rfl := hx3
  refine RunL.ok (OpOk.assign rfl) rfl ?_
  refine RunL.ok (OpOk.assign rfl) rfl ?_
  refine RunL.nil ?_
  refine Run.ret2 Try.func21 rfl rfl rfl ?_
  exact ⟨_, rfl, rfl⟩
section
variable {u : Value} {m : Nat} {bs : List UInt8}
theorem s22a (rd : Rd w0 A u 1 m (B bs)) (h : m < 512) : Spec Try.prog w0 22 [.pointer (some ⟨p, 0, none⟩), u] (A * pts p (.cells (B (xs) ++ [Value.int .i64 (w)]).toArray 95 (0, 0))) (fun v' A' => v' = .int .i64 10 ∧ A' = A * pts p (.cells (B (xs) ++ [Value.int .i64 (w)]).toArray 95 (0, 0))) := by
  refine Spec.of_run [(0, .pointer (some ⟨p, 0, none⟩)), (1, u)] Try.func22 rfl (Nat.le_of_ble_eq_true rfl) (by repeat (first | exact trivial | refine ⟨rfl, ?_⟩)) ?_
  refine Run.seq ?_
  refine Run.region ?_
  refine RunL.ok (OpOk.assign rfl) rfl ?_
  refine RunL.nil ?_
  refine Run.seq ?_
  refine Run.seq ?_
  refine Run.region ?_
  refine RunL.ok (OpOk.move rfl) rfl ?_
  refine RunL.call cal42 rfl (s42a rd.left (by assumption)) rfl (fun vx1 Ax1 hx1 => ?_)
  obtain ⟨rfl, rfl⟩ := hx1
  refine RunL.ok (OpOk.assign rfl) rfl ?_
  refine RunL.nil ?_
  refine Run.seq ?_
  refine Run.region ?_
  refine RunL.ok (OpOk.move rfl) rfl ?_
  refine RunL.ok (OpOk.as (c := true) (OpOk.neq rfl rfl) (by rw [decide_eq_false (by omega)]; rfl)) rfl ?_
  refine RunL.nil ?_
  refine Run.condT rfl ?_
  refine Run.seq ?_
  refine Run.region ?_
  refine RunL.ok (OpOk.move rfl) rfl ?_
  refine RunL.ok (OpOk.assign rfl) rfl ?_
  refine RunL.nil ?_
  refine Run.ret1 Try.func22 rfl rfl ?_
  exact ⟨rfl, rfl⟩
theorem s22b (rd : Rd w0 A u 1 m (B bs)) (h : 512 < m) : Spec Try.prog w0 22 [.pointer (some ⟨p, 0, none⟩), u] (A * pts p (.cells (B (xs) ++ [Value.int .i64 (w)]).toArray 95 (0, 0))) (fun v' A' => v' = .int .i64 11 ∧ A' = A * pts p (.cells (B (xs) ++ [Value.int .i64 (w)]).toArray 95 (0, 0))) := by
  refine Spec.of_run [(0, .pointer (some ⟨p, 0, none⟩)), (1, u)] Try.func22 rfl (Nat.le_of_ble_eq_true rfl) (by repeat (first | exact trivial | refine ⟨rfl, ?_⟩)) ?_
  refine Run.seq ?_
  refine Run.region ?_
  refine RunL.ok (OpOk.assign rfl) rfl ?_
  refine RunL.nil ?_
  refine Run.seq ?_
  refine Run.seq ?_
  refine Run.region ?_
  refine RunL.ok (OpOk.move rfl) rfl ?_
  refine RunL.call cal42 rfl (s42b rd.left (by assumption)) rfl (fun vx2 Ax2 hx2 => ?_)
  obtain ⟨rfl, rfl⟩ := hx2
  refine RunL.ok (OpOk.assign rfl) rfl ?_
  refine RunL.nil ?_
  refine Run.seq ?_
  refine Run.region ?_
  refine RunL.ok (OpOk.move rfl) rfl ?_
  refine RunL.ok (OpOk.as (c := true) (OpOk.neq rfl rfl) (by rw [decide_eq_false (by omega)]; rfl)) rfl ?_
  refine RunL.nil ?_
  refine Run.condT rfl ?_
  refine Run.seq ?_
  refine Run.region ?_
  refine RunL.ok (OpOk.move rfl) rfl ?_
  refine RunL.ok (OpOk.assign rfl) rfl ?_
  refine RunL.nil ?_
  refine Run.ret1 Try.func22 rfl rfl ?_
  exact ⟨rfl, rfl⟩
theorem s22c (rd : Rd w0 A u 1 m (B bs)) (h : m = 512) (hx : xs.length = 512) : Spec Try.prog w0 22 [.pointer (some ⟨p, 0, none⟩), u] (A * pts p (.cells (B (xs) ++ [Value.int .i64 (w)]).toArray 95 (0, 0))) (fun v' A' => v' = .int .i64 0 ∧ A' = A * pts p (.cells (B (bs) ++ [Value.int .i64 (w)]).toArray 95 (0, 0))) := by
  have hfit : 0 + 0 + 512 ≤ (B xs ++ [Value.int .i64 w]).length := by rw [List.length_append, B_length, hx]; simp
  refine Spec.of_run [(0, .pointer (some ⟨p, 0, none⟩)), (1, u)] Try.func22 rfl (Nat.le_of_ble_eq_true rfl) (by repeat (first | exact trivial | refine ⟨rfl, ?_⟩)) ?_
  refine Run.seq ?_
  refine Run.region ?_
  refine RunL.ok (OpOk.assign rfl) rfl ?_
  refine RunL.nil ?_
  refine Run.seq ?_
  refine Run.seq ?_
  refine Run.region ?_
  refine RunL.ok (OpOk.move rfl) rfl ?_
  refine RunL.call cal42 rfl (s42c rd.left (by assumption)) rfl (fun vx3 Ax3 hx3 => ?_)
  obtain ⟨rfl, rfl⟩ := hx3
  refine RunL.ok (OpOk.assign rfl) rfl ?_
  refine RunL.nil ?_
  refine Run.seq ?_
  refine Run.region ?_
  refine RunL.ok (OpOk.move rfl) rfl ?_
  refine RunL.ok (OpOk.as (c := false) (OpOk.neq rfl rfl) (by rw [decide_eq_true (by omega)]; rfl)) rfl ?_
  refine RunL.nil ?_
  refine Run.condF rfl ?_
  refine Run.skip ?_
  refine Run.seq ?_
  refine Run.region ?_
  refine RunL.ok (OpOk.move rfl) rfl ?_
  refine RunL.ok (OpOk.nilOk rfl) rfl ?_
  refine RunL.ok (OpOk.fieldAddr fld95_0 rfl) rfl ?_
  refine RunL.ok (OpOk.cutArrA rfl ti5 rfl (by decide)) rfl ?_
  refine RunL.ok (OpOk.move rfl) rfl ?_
  refine RunL.copyAt rfl ti5 rfl rfl rfl rfl rd.left (by first | exact B_one _ | assumption) (by first | omega | assumption) (by omega) rfl ?_
  refine RunL.nil ?_
  refine Run.seq ?_
  refine Run.region ?_
  refine RunL.ok (OpOk.assign rfl) rfl ?_
  refine RunL.nil ?_
  refine Run.ret1 Try.func22 rfl rfl ?_
  rw [List.drop_append_of_le_length (by rw [B_length, hx]; omega), List.drop_of_length_le (by rw [B_length, hx]; omega), show 0 + 0 = 0 from rfl, List.take_zero, List.nil_append, List.nil_append]
  exact ⟨rfl, rfl⟩
theorem s20a {i : Int} (h : i < 0 ∨ 15 < i) : Spec Try.prog w0 20 [.pointer (some ⟨p, 0, none⟩), .int .i64 i, u] (A * pts p (.cells (B (xs) ++ [Value.int .i64 (w)]).toArray 95 (0, 0))) (fun v' A' => v' = .int .i64 2 ∧ A' = A * pts p (.cells (B (xs) ++ [Value.int .i64 (w)]).toArray 95 (0, 0))) := by
  refine Spec.of_run [(0, .pointer (some ⟨p, 0, none⟩)), (1, .int .i64 i), (2, u)] Try.func20 rfl (Nat.le_of_ble_eq_true rfl) (by repeat (first | exact trivial | refine ⟨rfl, ?_⟩)) ?_
  refine Run.seq ?_
  refine Run.region ?_
  refine RunL.ok (OpOk.assign rfl) rfl ?_
  refine RunL.nil ?_
  refine Run.seq ?_
  refine Run.region ?_
  refine RunL.ok (OpOk.move rfl) rfl ?_
  refine RunL.ok (OpOk.move rfl) rfl ?_
  refine RunL.call cal41 rfl (s41a (by assumption)) rfl (fun vx1 Ax1 hx1 => ?_)
  obtain ⟨rfl, rfl⟩ := hx1
  refine RunL.ok (OpOk.assign rfl) rfl ?_
  refine RunL.nil ?_
  refine Run.seq ?_
  refine Run.seq ?_
  refine Run.region ?_
  refine RunL.ok (OpOk.move rfl) rfl ?_
  refine RunL.ok (OpOk.eqlNil rfl rfl) rfl ?_
  refine RunL.nil ?_
  refine Run.condT rfl ?_
  refine Run.seq ?_
  refine Run.region ?_
  refine RunL.ok (OpOk.assign rfl) rfl ?_
  refine RunL.nil ?_
  refine Run.ret1 Try.func20 rfl rfl ?_
  exact ⟨rfl, rfl⟩
theorem s20b (rd : Rd w0 A u 1 m (B bs)) {i : Int} (h0 : 0 ≤ i) (h : i ≤ 15) (hm : m < 32) : Spec Try.prog w0 20 [.pointer (some ⟨p, 0, none⟩), .int .i64 i, u] (A * pts p (.cells (B (xs) ++ [Value.int .i64 (w)]).toArray 95 (0, 0))) (fun v' A' => v' = .int .i64 10 ∧ A' = A * pts p (.cells (B (xs) ++ [Value.int .i64 (w)]).toArray 95 (0, 0))) := by
  obtain ⟨i, rfl⟩ := Int.eq_ofNat_of_zero_le h0
  refine Spec.of_run [(0, .pointer (some ⟨p, 0, none⟩)), (1, .int .i64 (i : Int)), (2, u)] Try.func20 rfl (Nat.le_of_ble_eq_true rfl) (by repeat (first | exact trivial | refine ⟨rfl, ?_⟩)) ?_
  refine Run.seq ?_
  refine Run.region ?_
  refine RunL.ok (OpOk.assign rfl) rfl ?_
  refine RunL.nil ?_
  refine Run.seq ?_
  refine Run.region ?_
  refine RunL.ok (OpOk.move rfl) rfl ?_
  refine RunL.ok (OpOk.move rfl) rfl ?_
  refine RunL.call cal41 rfl (s41b (by omega)) rfl (fun vx2 Ax2 hx2 => ?_)
  obtain ⟨rfl, rfl⟩ := hx2
  refine RunL.ok (OpOk.assign rfl) rfl ?_
  refine RunL.nil ?_
  refine Run.seq ?_
  refine Run.seq ?_
  refine Run.region ?_
  refine RunL.ok (OpOk.move rfl) rfl ?_
  refine RunL.ok (OpOk.eqlNil rfl rfl) rfl ?_
  refine RunL.nil ?_
  refine Run.condF rfl ?_
  refine Run.skip ?_
  refine Run.seq ?_
  refine Run.seq ?_
  refine Run.region ?_
  refine RunL.ok (OpOk.move rfl) rfl ?_
  refine RunL.ok (OpOk.move rfl) rfl ?_
  refine RunL.ok (OpOk.lenV rfl rfl rfl) rfl ?_
  refine RunL.call cal42 rfl (s42a rd.left (by assumption)) rfl (fun vx3 Ax3 hx3 => ?_)
  obtain ⟨rfl, rfl⟩ := hx3
  refine RunL.ok (OpOk.assign rfl) rfl ?_
  refine RunL.nil ?_
  refine Run.seq ?_
  refine Run.region ?_
  refine RunL.ok (OpOk.move rfl) rfl ?_
  refine RunL.ok (OpOk.as (c := true) (OpOk.neq rfl rfl) (by rw [decide_eq_false (by omega)]; rfl)) rfl ?_
  refine RunL.nil ?_
  refine Run.condT rfl ?_
  refine Run.seq ?_
  refine Run.region ?_
  refine RunL.ok (OpOk.move rfl) rfl ?_
  refine RunL.ok (OpOk.assign rfl) rfl ?_
  refine RunL.nil ?_
  refine Run.ret1 Try.func20 rfl rfl ?_
  exact ⟨rfl, rfl⟩
theorem s20c (rd : Rd w0 A u 1 m (B bs)) {i : Int} (h0 : 0 ≤ i) (h : i ≤ 15) (hm : 32 < m) : Spec Try.prog w0 20 [.pointer (some ⟨p, 0, none⟩), .int .i64 i, u] (A * pts p (.cells (B (xs) ++ [Value.int .i64 (w)]).toArray 95 (0, 0))) (fun v' A' => v' = .int .i64 11 ∧ A' = A * pts p (.cells (B (xs) ++ [Value.int .i64 (w)]).toArray 95 (0, 0))) := by
  obtain ⟨i, rfl⟩ := Int.eq_ofNat_of_zero_le h0
  refine Spec.of_run [(0, .pointer (some ⟨p, 0, none⟩)), (1, .int .i64 (i : Int)), (2, u)] Try.func20 rfl (Nat.le_of_ble_eq_true rfl) (by repeat (first | exact trivial | refine ⟨rfl, ?_⟩)) ?_
  refine Run.seq ?_
  refine Run.region ?_
  refine RunL.ok (OpOk.assign rfl) rfl ?_
  refine RunL.nil ?_
  refine Run.seq ?_
  refine Run.region ?_
  refine RunL.ok (OpOk.move rfl) rfl ?_
  refine RunL.ok (OpOk.move rfl) rfl ?_
  refine RunL.call cal41 rfl (s41b (by omega)) rfl (fun vx2 Ax2 hx2 => ?_)
  obtain ⟨rfl, rfl⟩ := hx2
  refine RunL.ok (OpOk.assign rfl) rfl ?_
  refine RunL.nil ?_
  refine Run.seq ?_
  refine Run.seq ?_
  refine Run.region ?_
  refine RunL.ok (OpOk.move rfl) rfl ?_
  refine RunL.ok (OpOk.eqlNil rfl rfl) rfl ?_
  refine RunL.nil ?_
  refine Run.condF rfl ?_
  refine Run.skip ?_
  refine Run.seq ?_
  refine Run.seq ?_
  refine Run.region ?_
  refine RunL.ok (OpOk.move rfl) rfl ?_
  refine RunL.ok (OpOk.move rfl) rfl ?_
  refine RunL.ok (OpOk.lenV rfl rfl rfl) rfl ?_
  refine RunL.call cal42 rfl (s42b rd.left (by assumption)) rfl (fun vx4 Ax4 hx4 => ?_)
  obtain ⟨rfl, rfl⟩ := hx4
  refine RunL.ok (OpOk.assign rfl) rfl ?_
  refine RunL.nil ?_
  refine Run.seq ?_
  refine Run.region ?_
  refine RunL.ok (OpOk.move rfl) rfl ?_
  refine RunL.ok (OpOk.as (c := true) (OpOk.neq rfl rfl) (by rw [decide_eq_false (by omega)]; rfl)) rfl ?_
  refine RunL.nil ?_
  refine Run.condT rfl ?_
  refine Run.seq ?_
  refine Run.region ?_
  refine RunL.ok (OpOk.move rfl) rfl ?_
  refine RunL.ok (OpOk.assign rfl) rfl ?_
  refine RunL.nil ?_
  refine Run.ret1 Try.func20 rfl rfl ?_
  exact ⟨rfl, rfl⟩
theorem s20d (rd : Rd w0 A u 1 m (B bs)) {i : Int} (h0 : 0 ≤ i) (h : i ≤ 15) (hm : m = 32) (hx : xs.length = 512) (hw : w = 0) : Spec Try.prog w0 20 [.pointer (some ⟨p, 0, none⟩), .int .i64 i, u] (A * pts p (.cells (B (xs) ++ [Value.int .i64 (w)]).toArray 95 (0, 0))) (fun v' A' => v' = .int .i64 30 ∧ A' = A * pts p (.cells (B (xs) ++ [Value.int .i64 (w)]).toArray 95 (0, 0))) := by
  obtain ⟨i, rfl⟩ := Int.eq_ofNat_of_zero_le h0
  have hpw := crd_power xs w hx
  refine Spec.of_run [(0, .pointer (some ⟨p, 0, none⟩)), (1, .int .i64 (i : Int)), (2, u)] Try.func20 rfl (Nat.le_of_ble_eq_true rfl) (by repeat (first | exact trivial | refine ⟨rfl, ?_⟩)) ?_
  refine Run.seq ?_
  refine Run.region ?_
  refine RunL.ok (OpOk.assign rfl) rfl ?_
  refine RunL.nil ?_
  refine Run.seq ?_
  refine Run.region ?_
  refine RunL.ok (OpOk.move rfl) rfl ?_
  refine RunL.ok (OpOk.move rfl) rfl ?_
  refine RunL.call cal41 rfl (s41b (by omega)) rfl (fun vx2 Ax2 hx2 => ?_)
  obtain ⟨rfl, rfl⟩ := hx2
  refine RunL.ok (OpOk.assign rfl) rfl ?_
  refine RunL.nil ?_
  refine Run.seq ?_
  refine Run.seq ?_
  refine Run.region ?_
  refine RunL.ok (OpOk.move rfl) rfl ?_
  refine RunL.ok (OpOk.eqlNil rfl rfl) rfl ?_
  refine RunL.nil ?_
  refine Run.condF rfl ?_
  refine Run.skip ?_
  refine Run.seq ?_
  refine Run.seq ?_
  refine Run.region ?_
  refine RunL.ok (OpOk.move rfl) rfl ?_
  refine RunL.ok (OpOk.move rfl) rfl ?_
  refine RunL.ok (OpOk.lenV rfl rfl rfl) rfl ?_
  refine RunL.call cal42 rfl (s42c rd.left (by assumption)) rfl (fun vx5 Ax5 hx5 => ?_)
  obtain ⟨rfl, rfl⟩ := hx5
  refine RunL.ok (OpOk.assign rfl) rfl ?_
  refine RunL.nil ?_
  refine Run.seq ?_
  refine Run.region ?_
  refine RunL.ok (OpOk.move rfl) rfl ?_
  refine RunL.ok (OpOk.as (c := false) (OpOk.neq rfl rfl) (by rw [decide_eq_true (by omega)]; rfl)) rfl ?_
  refine RunL.nil ?_
  refine Run.condF rfl ?_
  refine Run.skip ?_
  refine Run.seq ?_
  refine Run.seq ?_
  refine Run.region ?_
  refine RunL.ok (OpOk.move rfl) rfl ?_
  refine RunL.ok (OpOk.nilOk rfl) rfl ?_
  refine RunL.ok (OpOk.fieldAddr fld95_1 rfl) rfl ?_
  refine RunL.ok (OpOk.load rfl rfl rfl (Blk.out Blk.pts _ _ (by first | rfl | assumption))) rfl ?_
  refine RunL.ok (OpOk.asT (OpOk.eql rfl rfl) (by omega)) rfl ?_
  refine RunL.nil ?_
  refine Run.condT rfl ?_
  refine Run.seq ?_
  refine Run.region ?_
  refine RunL.ok (OpOk.assign rfl) rfl ?_
  refine RunL.nil ?_
  refine Run.ret1 Try.func20 rfl rfl ?_
  exact ⟨rfl, rfl⟩
theorem s20e (rd : Rd w0 A u 1 m (B bs)) {i : Int} (h0 : 0 ≤ i) (h : i ≤ 15) (hm : m = 32) (hx : xs.length = 512) (hw : w < 0) : Spec Try.prog w0 20 [.pointer (some ⟨p, 0, none⟩), .int .i64 i, u] (A * pts p (.cells (B (xs) ++ [Value.int .i64 (w)]).toArray 95 (0, 0))) (fun v' A' => v' = .int .i64 0 ∧ A' = A * pts p (.cells (B (setSec xs i.toNat bs) ++ [Value.int .i64 (w)]).toArray 95 (0, 0))) := by
  obtain ⟨i, rfl⟩ := Int.eq_ofNat_of_zero_le h0
  have hpw := crd_power xs w hx
  have hfit : 32 * i + 32 ≤ (B xs ++ [Value.int .i64 w]).length := by rw [List.length_append, B_length, hx]; simp; omega
  rw [Int.toNat_natCast]
  refine Spec.of_run [(0, .pointer (some ⟨p, 0, none⟩)), (1, .int .i64 (i : Int)), (2, u)] Try.func20 rfl (Nat.le_of_ble_eq_true rfl) (by repeat (first | exact trivial | refine ⟨rfl, ?_⟩)) ?_
  refine Run.seq ?_
  refine Run.region ?_
  refine RunL.ok (OpOk.assign rfl) rfl ?_
  refine RunL.nil ?_
  refine Run.seq ?_
  refine Run.region ?_
  refine RunL.ok (OpOk.move rfl) rfl ?_
  refine RunL.ok (OpOk.move rfl) rfl ?_
  refine RunL.call cal41 rfl (s41b (by omega)) rfl (fun vx2 Ax2 hx2 => ?_)
  obtain ⟨rfl, rfl⟩ := hx2
  refine RunL.ok (OpOk.assign rfl) rfl ?_
  refine RunL.nil ?_
  refine Run.seq ?_
  refine Run.seq ?_
  refine Run.region ?_
  refine RunL.ok (OpOk.move rfl) rfl ?_
  refine RunL.ok (OpOk.eqlNil rfl rfl) rfl ?_
  refine RunL.nil ?_
  refine Run.condF rfl ?_
  refine Run.skip ?_
  refine Run.seq ?_
  refine Run.seq ?_
  refine Run.region ?_
  refine RunL.ok (OpOk.move rfl) rfl ?_
  refine RunL.ok (OpOk.move rfl) rfl ?_
  refine RunL.ok (OpOk.lenV rfl rfl rfl) rfl ?_
  refine RunL.call cal42 rfl (s42c rd.left (by assumption)) rfl (fun vx5 Ax5 hx5 => ?_)
  obtain ⟨rfl, rfl⟩ := hx5
  refine RunL.ok (OpOk.assign rfl) rfl ?_
  refine RunL.nil ?_
  refine Run.seq ?_
  refine Run.region ?_
  refine RunL.ok (OpOk.move rfl) rfl ?_
  refine RunL.ok (OpOk.as (c := false) (OpOk.neq rfl rfl) (by rw [decide_eq_true (by omega)]; rfl)) rfl ?_
  refine RunL.nil ?_
  refine Run.condF rfl ?_
  refine Run.skip ?_
  refine Run.seq ?_
  refine Run.seq ?_
  refine Run.region ?_
  refine RunL.ok (OpOk.move rfl) rfl ?_
  refine RunL.ok (OpOk.nilOk rfl) rfl ?_
  refine RunL.ok (OpOk.fieldAddr fld95_1 rfl) rfl ?_
  refine RunL.ok (OpOk.load rfl rfl rfl (Blk.out Blk.pts _ _ (by first | rfl | assumption))) rfl ?_
  refine RunL.ok (OpOk.asF (OpOk.eql rfl rfl) (by omega)) rfl ?_
  refine RunL.nil ?_
  refine Run.condF rfl ?_
  refine Run.skip ?_
  refine Run.seq ?_
  refine Run.seq ?_
  refine Run.region ?_
  refine RunL.ok (OpOk.move rfl) rfl ?_
  refine RunL.ok (OpOk.nilOk rfl) rfl ?_
  refine RunL.ok (OpOk.fieldAddr fld95_1 rfl) rfl ?_
  refine RunL.ok (OpOk.load rfl rfl rfl (Blk.out Blk.pts _ _ (by first | rfl | assumption))) rfl ?_
  refine RunL.ok (OpOk.asF (OpOk.gtr rfl rfl) (by omega)) rfl ?_
  refine RunL.nil ?_
  refine Run.condF rfl ?_
  refine Run.skip ?_
  refine Run.seq ?_
  refine Run.region ?_
  refine RunL.ok (OpOk.move rfl) rfl ?_
  refine RunL.ok (OpOk.move rfl) rfl ?_
  refine RunL.copyAt rfl ti5 rfl rfl rfl rfl rd.left (by first | exact B_one _ | assumption) (by first | omega | assumption) (by omega) rfl ?_
  refine RunL.nil ?_
  refine Run.seq ?_
  refine Run.region ?_
  refine RunL.ok (OpOk.assign rfl) rfl ?_
  refine RunL.nil ?_
  refine Run.ret1 Try.func20 rfl rfl ?_
  rw [crd_set hx (by omega)]
  exact ⟨rfl, rfl⟩
theorem s20f (rd : Rd w0 A u 1 m (B bs)) {i : Int} (h0 : 0 ≤ i) (h : i ≤ 15) (hm : m = 32) (hx : xs.length = 512) (hw : 0 < w) (hw2 : w ≤ 9223372036854775807) : Spec Try.prog w0 20 [.pointer (some ⟨p, 0, none⟩), .int .i64 i, u] (A * pts p (.cells (B (xs) ++ [Value.int .i64 (w)]).toArray 95 (0, 0))) (fun v' A' => v' = .int .i64 0 ∧ A' = A * pts p (.cells (B (setSec xs i.toNat bs) ++ [Value.int .i64 (w - 1)]).toArray 95 (0, 0))) := by
  obtain ⟨i, rfl⟩ := Int.eq_ofNat_of_zero_le h0
  have hpw := crd_power xs w hx
  have hfit : ∀ w', 32 * i + 32 ≤ (B xs ++ [Value.int .i64 w']).length := fun w' => by rw [List.length_append, B_length, hx]; simp; omega
  rw [Int.toNat_natCast]
  refine Spec.of_run [(0, .pointer (some ⟨p, 0, none⟩)), (1, .int .i64 (i : Int)), (2, u)] Try.func20 rfl (Nat.le_of_ble_eq_true rfl) (by repeat (first | exact trivial | refine ⟨rfl, ?_⟩)) ?_
  refine Run.seq ?_
  refine Run.region ?_
  refine RunL.ok (OpOk.assign rfl) rfl ?_
  refine RunL.nil ?_
  refine Run.seq ?_
  refine Run.region ?_
  refine RunL.ok (OpOk.move rfl) rfl ?_
  refine RunL.ok (OpOk.move rfl) rfl ?_
  refine RunL.call cal41 rfl (s41b (by omega)) rfl (fun vx2 Ax2 hx2 => ?_)
  obtain ⟨rfl, rfl⟩ := hx2
  refine RunL.ok (OpOk.assign rfl) rfl ?_
  refine RunL.nil ?_
  refine Run.seq ?_
  refine Run.seq ?_
  refine Run.region ?_
  refine RunL.ok (OpOk.move rfl) rfl ?_
  refine RunL.ok (OpOk.eqlNil rfl rfl) rfl ?_
  refine RunL.nil ?_
  refine Run.condF rfl ?_
  refine Run.skip ?_
  refine Run.seq ?_
  refine Run.seq ?_
  refine Run.region ?_
  refine RunL.ok (OpOk.move rfl) rfl ?_
  refine RunL.ok (OpOk.move rfl) rfl ?_
  refine RunL.ok (OpOk.lenV rfl rfl rfl) rfl ?_
  refine RunL.call cal42 rfl (s42c rd.left (by assumption)) rfl (fun vx5 Ax5 hx5 => ?_)
  obtain ⟨rfl, rfl⟩ := hx5
  refine RunL.ok (OpOk.assign rfl) rfl ?_
  refine RunL.nil ?_
  refine Run.seq ?_
  refine Run.region ?_
  refine RunL.ok (OpOk.move rfl) rfl ?_
  refine RunL.ok (OpOk.as (c := false) (OpOk.neq rfl rfl) (by rw [decide_eq_true (by omega)]; rfl)) rfl ?_
  refine RunL.nil ?_
  refine Run.condF rfl ?_
  refine Run.skip ?_
  refine Run.seq ?_
  refine Run.seq ?_
  refine Run.region ?_
  refine RunL.ok (OpOk.move rfl) rfl ?_
  refine RunL.ok (OpOk.nilOk rfl) rfl ?_
  refine RunL.ok (OpOk.fieldAddr fld95_1 rfl) rfl ?_
  refine RunL.ok (OpOk.load rfl rfl rfl (Blk.out Blk.pts _ _ (by first | rfl | assumption))) rfl ?_
  refine RunL.ok (OpOk.asF (OpOk.eql rfl rfl) (by omega)) rfl ?_
  refine RunL.nil ?_
  refine Run.condF rfl ?_
  refine Run.skip ?_
  refine Run.seq ?_
  refine Run.seq ?_
  refine Run.region ?_
  refine RunL.ok (OpOk.move rfl) rfl ?_
  refine RunL.ok (OpOk.nilOk rfl) rfl ?_
  refine RunL.ok (OpOk.fieldAddr fld95_1 rfl) rfl ?_
  refine RunL.ok (OpOk.load rfl rfl rfl (Blk.out Blk.pts _ _ (by first | rfl | assumption))) rfl ?_
  refine RunL.ok (OpOk.asT (OpOk.gtr rfl rfl) (by omega)) rfl ?_
  refine RunL.nil ?_
  refine Run.condT rfl ?_
  refine Run.region ?_
  refine RunL.ok (OpOk.move rfl) rfl ?_
  refine RunL.ok (OpOk.nilOk rfl) rfl ?_
  refine RunL.ok (OpOk.fieldAddr fld95_1 rfl) rfl ?_
  refine RunL.ok (OpOk.load rfl rfl rfl (Blk.out Blk.pts _ _ (by first | rfl | assumption))) rfl ?_
  refine RunL.ok (OpOk.sub rfl rfl (wrapI (by omega) (by omega))) rfl ?_
  refine RunL.ok (OpOk.nilOk rfl) rfl ?_
  refine RunL.ok (OpOk.fieldAddr fld95_1 rfl) rfl ?_
  refine RunL.storeCrd ti3 rfl rfl rfl hx ?_
  have hf2 := hfit (w - 1)
  refine RunL.nil ?_
  refine Run.seq ?_
  refine Run.region ?_
  refine RunL.ok (OpOk.move rfl) rfl ?_
  refine RunL.ok (OpOk.move rfl) rfl ?_
  refine RunL.copyAt rfl ti5 rfl rfl rfl rfl rd.left (by first | exact B_one _ | assumption) (by first | omega | assumption) (by omega) rfl ?_
  refine RunL.nil ?_
  refine Run.seq ?_
  refine Run.region ?_
  refine RunL.ok (OpOk.assign rfl) rfl ?_
  refine RunL.nil ?_
  refine Run.ret1 Try.func20 rfl rfl ?_
  rw [crd_set hx (by omega)]
  exact ⟨rfl, rfl⟩
end
end
end Go.Proofs.Ytlmehpjcmdipmaa
