/- Points of time: Right, Add, far, Between. -/
import Derived.Test.YtajjmephfoaiaaaTy
import Derived.Test.YtajjmephfoaiaaaWk
import Derived.Laws.Tables
namespace Go.Proofs.Ytajjmephfoaiaaa
open Go Go.Proofs
set_option maxRecDepth 100000
set_option maxHeartbeats 4000000
def Stv (d m : Int) : Value := .agg #[.int .i64 d, .int .i64 m]
abbrev right (d m : Int) : Bool := decide (0 ≤ d ∧ d ≤ 65535 ∧ 0 ≤ m ∧ m < 1440)
theorem s29 {w0 : World} {A : Asn} {d m : Int} : Spec Try.prog w0 29 [.agg #[.int .i64 d, .int .i64 m]] A (fun v' A' => v' = .bool (right d m) ∧ A' = A) := by
  refine Spec.of_run [(0, .agg #[.int .i64 d, .int .i64 m])] Try.func29 rfl (Nat.le_of_ble_eq_true rfl) (by repeat (first | exact trivial | refine ⟨rfl, ?_⟩)) ?_
  refine Run.seq ?_
  refine Run.region ?_
  refine RunL.box rfl rfl (fun bx1 => ?_)
  refine RunL.ok (OpOk.assign rfl) rfl ?_
  refine RunL.nil ?_
  refine Run.seq ?_
  refine Run.region ?_
  refine RunL.ok (OpOk.fieldAddr fld29_0 rfl) rfl ?_
  refine RunL.ok (OpOk.load rfl rfl rfl (Blk.out Blk.pts _ _ rfl)) rfl ?_
  refine RunL.ok (OpOk.geq rfl rfl) rfl ?_
  refine RunL.ok (OpOk.move rfl) rfl ?_
  refine RunL.splitD (t := 6) rfl (fun x2 => ?_) (fun x2 => ?_)
  · refine RunL.on rfl rfl ?_
    refine RunL.ok (OpOk.fieldAddr fld29_0 rfl) rfl ?_
    refine RunL.on rfl rfl ?_
    refine RunL.ok (OpOk.load rfl rfl rfl (Blk.out Blk.pts _ _ rfl)) rfl ?_
    refine RunL.on rfl rfl ?_
    refine RunL.ok (OpOk.leq rfl rfl) rfl ?_
    refine RunL.ok (OpOk.pickT rfl rfl) rfl ?_
    refine RunL.ok (OpOk.move rfl) rfl ?_
    refine RunL.splitD (t := 11) rfl (fun x3 => ?_) (fun x3 => ?_)
    · refine RunL.on rfl rfl ?_
      refine RunL.ok (OpOk.fieldAddr fld29_1 rfl) rfl ?_
      refine RunL.on rfl rfl ?_
      refine RunL.ok (OpOk.load rfl rfl rfl (Blk.out Blk.pts _ _ rfl)) rfl ?_
      refine RunL.on rfl rfl ?_
      refine RunL.ok (OpOk.geq rfl rfl) rfl ?_
      refine RunL.ok (OpOk.pickT rfl rfl) rfl ?_
      refine RunL.ok (OpOk.move rfl) rfl ?_
      refine RunL.splitD (t := 16) rfl (fun x4 => ?_) (fun x4 => ?_)
      · refine RunL.on rfl rfl ?_
        refine RunL.ok (OpOk.fieldAddr fld29_1 rfl) rfl ?_
        refine RunL.on rfl rfl ?_
        refine RunL.ok (OpOk.load rfl rfl rfl (Blk.out Blk.pts _ _ rfl)) rfl ?_
        refine RunL.on rfl rfl ?_
        refine RunL.ok (OpOk.lss rfl rfl) rfl ?_
        refine RunL.ok (OpOk.pickT rfl rfl) rfl ?_
        refine RunL.ok (OpOk.assign rfl) rfl ?_
        refine RunL.nil ?_
        refine Run.keep (A) ((Grew.mul (Grew.refl _) _)) ?_
        refine Run.ret1 Try.func29 rfl rfl ?_
        refine ⟨?_, rfl⟩
        unfold right
        first | (refine congrArg Value.bool (decide_eq_decide.2 ?_); omega) | (refine congrArg Value.bool (decide_eq_true ?_).symm; omega) | (refine congrArg Value.bool (decide_eq_false ?_).symm; omega)
      refine RunL.off rfl rfl rfl rfl ?_
      refine RunL.off rfl rfl rfl rfl ?_
      refine RunL.off rfl rfl rfl rfl ?_
      refine RunL.ok (OpOk.pickF rfl rfl) rfl ?_
      refine RunL.ok (OpOk.assign rfl) rfl ?_
      refine RunL.nil ?_
      refine Run.keep (A) ((Grew.mul (Grew.refl _) _)) ?_
      refine Run.ret1 Try.func29 rfl rfl ?_
      refine ⟨?_, rfl⟩
      unfold right
      first | (refine congrArg Value.bool (decide_eq_decide.2 ?_); omega) | (refine congrArg Value.bool (decide_eq_true ?_).symm; omega) | (refine congrArg Value.bool (decide_eq_false ?_).symm; omega)
    refine RunL.off rfl rfl rfl rfl ?_
    refine RunL.off rfl rfl rfl rfl ?_
    refine RunL.off rfl rfl rfl rfl ?_
    refine RunL.ok (OpOk.pickF rfl rfl) rfl ?_
    refine RunL.ok (OpOk.move rfl) rfl ?_
    refine RunL.off rfl rfl rfl rfl ?_
    refine RunL.off rfl rfl rfl rfl ?_
    refine RunL.off rfl rfl rfl rfl ?_
    refine RunL.ok (OpOk.pickF rfl rfl) rfl ?_
    refine RunL.ok (OpOk.assign rfl) rfl ?_
    refine RunL.nil ?_
    refine Run.keep (A) ((Grew.mul (Grew.refl _) _)) ?_
    refine Run.ret1 Try.func29 rfl rfl ?_
    refine ⟨?_, rfl⟩
    unfold right
    first | (refine congrArg Value.bool (decide_eq_decide.2 ?_); omega) | (refine congrArg Value.bool (decide_eq_true ?_).symm; omega) | (refine congrArg Value.bool (decide_eq_false ?_).symm; omega)
  refine RunL.off rfl rfl rfl rfl ?_
  refine RunL.off rfl rfl rfl rfl ?_
  refine RunL.off rfl rfl rfl rfl ?_
  refine RunL.ok (OpOk.pickF rfl rfl) rfl ?_
  refine RunL.ok (OpOk.move rfl) rfl ?_
  refine RunL.off rfl rfl rfl rfl ?_
  refine RunL.off rfl rfl rfl rfl ?_
  refine RunL.off rfl rfl rfl rfl ?_
  refine RunL.ok (OpOk.pickF rfl rfl) rfl ?_
  refine RunL.ok (OpOk.move rfl) rfl ?_
  refine RunL.off rfl rfl rfl rfl ?_
  refine RunL.off rfl rfl rfl rfl ?_
  refine RunL.off rfl rfl rfl rfl ?_
  refine RunL.ok (OpOk.pickF rfl rfl) rfl ?_
  refine RunL.ok (OpOk.assign rfl) rfl ?_
  refine RunL.nil ?_
  refine Run.keep (A) ((Grew.mul (Grew.refl _) _)) ?_
  refine Run.ret1 Try.func29 rfl rfl ?_
  refine ⟨?_, rfl⟩
  unfold right
  first | (refine congrArg Value.bool (decide_eq_decide.2 ?_); omega) | (refine congrArg Value.bool (decide_eq_true ?_).symm; omega) | (refine congrArg Value.bool (decide_eq_false ?_).symm; omega)
theorem s23 {w0 : World} {A : Asn} {d m : Int} : Spec Try.prog w0 23 [.agg #[.int .i64 d, .int .i64 m]] A (fun v' A' => v' = .bool (right d m) ∧ A' = A) := by
  refine Spec.of_run [(0, .agg #[.int .i64 d, .int .i64 m])] Try.func23 rfl (Nat.le_of_ble_eq_true rfl) (by repeat (first | exact trivial | refine ⟨rfl, ?_⟩)) ?_
  refine Run.seq ?_
  refine Run.region ?_
  refine RunL.box rfl rfl (fun bx1 => ?_)
  refine RunL.ok (OpOk.assign rfl) rfl ?_
  refine RunL.nil ?_
  refine Run.seq ?_
  refine Run.region ?_
  refine RunL.ok (OpOk.fieldAddr fld29_0 rfl) rfl ?_
  refine RunL.ok (OpOk.load rfl rfl rfl (Blk.out Blk.pts _ _ rfl)) rfl ?_
  refine RunL.ok (OpOk.geq rfl rfl) rfl ?_
  refine RunL.ok (OpOk.move rfl) rfl ?_
  refine RunL.splitD (t := 6) rfl (fun x2 => ?_) (fun x2 => ?_)
  · refine RunL.on rfl rfl ?_
    refine RunL.ok (OpOk.fieldAddr fld29_0 rfl) rfl ?_
    refine RunL.on rfl rfl ?_
    refine RunL.ok (OpOk.load rfl rfl rfl (Blk.out Blk.pts _ _ rfl)) rfl ?_
    refine RunL.on rfl rfl ?_
    refine RunL.ok (OpOk.lss rfl rfl) rfl ?_
    refine RunL.ok (OpOk.pickT rfl rfl) rfl ?_
    refine RunL.ok (OpOk.move rfl) rfl ?_
    refine RunL.splitD (t := 11) rfl (fun x3 => ?_) (fun x3 => ?_)
    · refine RunL.on rfl rfl ?_
      refine RunL.ok (OpOk.fieldAddr fld29_1 rfl) rfl ?_
      refine RunL.on rfl rfl ?_
      refine RunL.ok (OpOk.load rfl rfl rfl (Blk.out Blk.pts _ _ rfl)) rfl ?_
      refine RunL.on rfl rfl ?_
      refine RunL.ok (OpOk.geq rfl rfl) rfl ?_
      refine RunL.ok (OpOk.pickT rfl rfl) rfl ?_
      refine RunL.ok (OpOk.move rfl) rfl ?_
      refine RunL.splitD (t := 16) rfl (fun x4 => ?_) (fun x4 => ?_)
      · refine RunL.on rfl rfl ?_
        refine RunL.ok (OpOk.fieldAddr fld29_1 rfl) rfl ?_
        refine RunL.on rfl rfl ?_
        refine RunL.ok (OpOk.load rfl rfl rfl (Blk.out Blk.pts _ _ rfl)) rfl ?_
        refine RunL.on rfl rfl ?_
        refine RunL.ok (OpOk.lss rfl rfl) rfl ?_
        refine RunL.ok (OpOk.pickT rfl rfl) rfl ?_
        refine RunL.ok (OpOk.assign rfl) rfl ?_
        refine RunL.nil ?_
        refine Run.keep (A) ((Grew.mul (Grew.refl _) _)) ?_
        refine Run.ret1 Try.func23 rfl rfl ?_
        refine ⟨?_, rfl⟩
        unfold right
        first | (refine congrArg Value.bool (decide_eq_decide.2 ?_); omega) | (refine congrArg Value.bool (decide_eq_true ?_).symm; omega) | (refine congrArg Value.bool (decide_eq_false ?_).symm; omega)
      refine RunL.off rfl rfl rfl rfl ?_
      refine RunL.off rfl rfl rfl rfl ?_
      refine RunL.off rfl rfl rfl rfl ?_
      refine RunL.ok (OpOk.pickF rfl rfl) rfl ?_
      refine RunL.ok (OpOk.assign rfl) rfl ?_
      refine RunL.nil ?_
      refine Run.keep (A) ((Grew.mul (Grew.refl _) _)) ?_
      refine Run.ret1 Try.func23 rfl rfl ?_
      refine ⟨?_, rfl⟩
      unfold right
      first | (refine congrArg Value.bool (decide_eq_decide.2 ?_); omega) | (refine congrArg Value.bool (decide_eq_true ?_).symm; omega) | (refine congrArg Value.bool (decide_eq_false ?_).symm; omega)
    refine RunL.off rfl rfl rfl rfl ?_
    refine RunL.off rfl rfl rfl rfl ?_
    refine RunL.off rfl rfl rfl rfl ?_
    refine RunL.ok (OpOk.pickF rfl rfl) rfl ?_
    refine RunL.ok (OpOk.move rfl) rfl ?_
    refine RunL.off rfl rfl rfl rfl ?_
    refine RunL.off rfl rfl rfl rfl ?_
    refine RunL.off rfl rfl rfl rfl ?_
    refine RunL.ok (OpOk.pickF rfl rfl) rfl ?_
    refine RunL.ok (OpOk.assign rfl) rfl ?_
    refine RunL.nil ?_
    refine Run.keep (A) ((Grew.mul (Grew.refl _) _)) ?_
    refine Run.ret1 Try.func23 rfl rfl ?_
    refine ⟨?_, rfl⟩
    unfold right
    first | (refine congrArg Value.bool (decide_eq_decide.2 ?_); omega) | (refine congrArg Value.bool (decide_eq_true ?_).symm; omega) | (refine congrArg Value.bool (decide_eq_false ?_).symm; omega)
  refine RunL.off rfl rfl rfl rfl ?_
  refine RunL.off rfl rfl rfl rfl ?_
  refine RunL.off rfl rfl rfl rfl ?_
  refine RunL.ok (OpOk.pickF rfl rfl) rfl ?_
  refine RunL.ok (OpOk.move rfl) rfl ?_
  refine RunL.off rfl rfl rfl rfl ?_
  refine RunL.off rfl rfl rfl rfl ?_
  refine RunL.off rfl rfl rfl rfl ?_
  refine RunL.ok (OpOk.pickF rfl rfl) rfl ?_
  refine RunL.ok (OpOk.move rfl) rfl ?_
  refine RunL.off rfl rfl rfl rfl ?_
  refine RunL.off rfl rfl rfl rfl ?_
  refine RunL.off rfl rfl rfl rfl ?_
  refine RunL.ok (OpOk.pickF rfl rfl) rfl ?_
  refine RunL.ok (OpOk.assign rfl) rfl ?_
  refine RunL.nil ?_
  refine Run.keep (A) ((Grew.mul (Grew.refl _) _)) ?_
  refine Run.ret1 Try.func23 rfl rfl ?_
  refine ⟨?_, rfl⟩
  unfold right
  first | (refine congrArg Value.bool (decide_eq_decide.2 ?_); omega) | (refine congrArg Value.bool (decide_eq_true ?_).symm; omega) | (refine congrArg Value.bool (decide_eq_false ?_).symm; omega)
/-- What Add answers. -/
structure Added (d m k d' m' e : Int) : Prop where
  out : (¬(0 ≤ d ∧ d ≤ 65535 ∧ 0 ≤ m ∧ m < 1440) ∧ d' = 0 ∧ m' = 0 ∧ e = 2) ∨ ((0 ≤ d ∧ d ≤ 65535 ∧ 0 ≤ m ∧ m < 1440) ∧ (k < -(d * 1440 + m) ∨ 94371839 - (d * 1440 + m) < k) ∧ d' = 0 ∧ m' = 0 ∧ e = 29) ∨
    ((0 ≤ d ∧ d ≤ 65535 ∧ 0 ≤ m ∧ m < 1440) ∧ -(d * 1440 + m) ≤ k ∧ k ≤ 94371839 - (d * 1440 + m) ∧ d' = (d * 1440 + m + k) / 1440 ∧ m' = (d * 1440 + m + k) % 1440 ∧ e = 0)
theorem right_true {d m : Int} : right d m = true ↔ 0 ≤ d ∧ d ≤ 65535 ∧ 0 ≤ m ∧ m < 1440 := by simp [right]
theorem s20 {w0 : World} {A : Asn} {d m k : Int} : Spec Try.prog w0 20 [.agg #[.int .i64 d, .int .i64 m], .int .i64 k] A (fun v' A' => (∃ d' m' e, v' = .tuple #[.agg #[.int .i64 d', .int .i64 m'], .int .i64 e] ∧ Added d m k d' m' e) ∧ A' = A) := by
  refine Spec.of_run [(0, .agg #[.int .i64 d, .int .i64 m]), (1, .int .i64 k)] Try.func20 rfl (Nat.le_of_ble_eq_true rfl) (by repeat (first | exact trivial | refine ⟨rfl, ?_⟩)) ?_
  refine Run.seq ?_
  refine Run.region ?_
  refine RunL.box rfl rfl (fun bx1 => ?_)
  refine RunL.alloc ti29 rfl (fun bx2 => ?_)
  refine RunL.ok (OpOk.assign rfl) rfl ?_
  refine RunL.nil ?_
  refine Run.seq ?_
  refine Run.seq ?_
  refine Run.region ?_
  refine RunL.ok (OpOk.loadS rfl rfl ti29 rfl Blk.pts.left rfl) rfl ?_
  refine RunL.call cal29 rfl (s29) rfl (fun vx3 Ax3 hx3 => ?_)
  obtain ⟨rfl, rfl⟩ := hx3
  refine RunL.ok (OpOk.not rfl) rfl ?_
  refine RunL.nil ?_
  refine Run.condN rfl (fun x4 => ?_) (fun x4 => ?_)
  · refine Run.seq ?_
    refine Run.region ?_
    refine RunL.ok (OpOk.build rfl (fun w => run_build w 29 _ _ (by rfl))) rfl ?_
    refine RunL.storeAll ti29 rfl rfl rfl (ones rfl) rfl rfl ?_
    refine RunL.ok (OpOk.assign rfl) rfl ?_
    refine RunL.nil ?_
    refine Run.retC2 (A' := A) Try.func20 rfl rfl rfl ti29 rfl rfl Blk.pts rfl ((Grew.mul (Grew.mul (Grew.refl _) _) _)) ?_
    exact ⟨⟨_, _, _, rfl, ⟨by omega⟩⟩, rfl⟩
  refine Run.skip ?_
  refine Run.seq ?_
  refine Run.region ?_
  refine RunL.ok (OpOk.fieldAddr fld29_0 rfl) rfl ?_
  refine RunL.ok (OpOk.load rfl rfl rfl (Blk.out Blk.pts.left _ _ rfl)) rfl ?_
  refine RunL.ok (OpOk.mul rfl rfl (wrapI (by omega) (by omega))) rfl ?_
  refine RunL.ok (OpOk.fieldAddr fld29_1 rfl) rfl ?_
  refine RunL.ok (OpOk.load rfl rfl rfl (Blk.out Blk.pts.left _ _ rfl)) rfl ?_
  refine RunL.ok (OpOk.add rfl rfl (wrapI (by omega) (by omega))) rfl ?_
  refine RunL.ok (OpOk.assign rfl) rfl ?_
  refine RunL.nil ?_
  refine Run.seq ?_
  refine Run.seq ?_
  refine Run.region ?_
  refine RunL.ok (OpOk.move rfl) rfl ?_
  refine RunL.ok (OpOk.move rfl) rfl ?_
  refine RunL.ok (OpOk.neg rfl (wrapI (by omega) (by omega))) rfl ?_
  refine RunL.ok (OpOk.lss rfl rfl) rfl ?_
  refine RunL.ok (OpOk.move rfl) rfl ?_
  refine RunL.splitD (t := 21) rfl (fun x5 => ?_) (fun x5 => ?_)
  · refine RunL.off rfl rfl rfl rfl ?_
    refine RunL.off rfl rfl rfl rfl ?_
    refine RunL.off rfl rfl rfl rfl ?_
    refine RunL.off rfl rfl rfl rfl ?_
    refine RunL.ok (OpOk.pickT rfl rfl) rfl ?_
    refine RunL.nil ?_
    refine Run.condT rfl ?_
    refine Run.seq ?_
    refine Run.region ?_
    refine RunL.ok (OpOk.build rfl (fun w => run_build w 29 _ _ (by rfl))) rfl ?_
    refine RunL.storeAll ti29 rfl rfl rfl (ones rfl) rfl rfl ?_
    refine RunL.ok (OpOk.assign rfl) rfl ?_
    refine RunL.nil ?_
    refine Run.retC2 (A' := A) Try.func20 rfl rfl rfl ti29 rfl rfl Blk.pts rfl ((Grew.mul (Grew.mul (Grew.refl _) _) _)) ?_
    exact ⟨⟨_, _, _, rfl, ⟨by omega⟩⟩, rfl⟩
  refine RunL.on rfl rfl ?_
  refine RunL.ok (OpOk.move rfl) rfl ?_
  refine RunL.on rfl rfl ?_
  refine RunL.ok (OpOk.move rfl) rfl ?_
  refine RunL.on rfl rfl ?_
  refine RunL.ok (OpOk.sub rfl rfl (wrapI (by omega) (by omega))) rfl ?_
  refine RunL.on rfl rfl ?_
  refine RunL.ok (OpOk.gtr rfl rfl) rfl ?_
  refine RunL.ok (OpOk.pickF rfl rfl) rfl ?_
  refine RunL.nil ?_
  refine Run.condD rfl (fun x6 => ?_) (fun x6 => ?_)
  · refine Run.seq ?_
    refine Run.region ?_
    refine RunL.ok (OpOk.build rfl (fun w => run_build w 29 _ _ (by rfl))) rfl ?_
    refine RunL.storeAll ti29 rfl rfl rfl (ones rfl) rfl rfl ?_
    refine RunL.ok (OpOk.assign rfl) rfl ?_
    refine RunL.nil ?_
    refine Run.retC2 (A' := A) Try.func20 rfl rfl rfl ti29 rfl rfl Blk.pts rfl ((Grew.mul (Grew.mul (Grew.refl _) _) _)) ?_
    exact ⟨⟨_, _, _, rfl, ⟨by omega⟩⟩, rfl⟩
  refine Run.skip ?_
  refine Run.seq ?_
  refine Run.region ?_
  refine RunL.ok (OpOk.move rfl) rfl ?_
  refine RunL.ok (OpOk.move rfl) rfl ?_
  refine RunL.ok (OpOk.add rfl rfl (wrapI (by omega) (by omega))) rfl ?_
  refine RunL.ok (OpOk.assign rfl) rfl ?_
  refine RunL.nil ?_
  refine Run.seq ?_
  refine Run.region ?_
  refine RunL.ok (OpOk.move rfl) rfl ?_
  refine RunL.ok (OpOk.quo rfl rfl (by decide) (quoI (by omega) (by omega) (by omega))) rfl ?_
  refine RunL.ok (OpOk.move rfl) rfl ?_
  refine RunL.ok (OpOk.rem rfl rfl (by decide) (tmodI (by omega))) rfl ?_
  refine RunL.ok (OpOk.build (cells := #[.int (IntKind.i64) ((d * 1440 + m + k) / 1440), .int (IntKind.i64) ((d * 1440 + m + k) % 1440)]) rfl (fun w => run_build w 29 _ _ (by rfl))) rfl ?_
  refine RunL.storeAll ti29 rfl rfl rfl (ones rfl) rfl rfl ?_
  refine RunL.ok (OpOk.assign rfl) rfl ?_
  refine RunL.nil ?_
  refine Run.retC2 (A' := A) Try.func20 rfl rfl rfl ti29 rfl rfl Blk.pts rfl ((Grew.mul (Grew.mul (Grew.refl _) _) _)) ?_
  exact ⟨⟨_, _, _, rfl, ⟨by omega⟩⟩, rfl⟩
/-- Between. -/
def farN (n : Int) : Bool := decide (n < -1099511627776 ∨ 1099511627776 < n)
theorem s38 {w0 : World} {A : Asn} {v : Value} {m : Nat} {ns : List Int} (rd : Rd w0 A v 1 m (I ns)) : Spec Try.prog w0 38 [v] A (fun v' A' => v' = .bool (ns.any farN) ∧ A' = A) := by
  have hm := rd.max
  have hl : ns.length = m := by have := rd.len; rw [I_length] at this; omega
  subst hl
  refine Spec.of_run [(0, v)] Try.func38 rfl (Nat.le_of_ble_eq_true rfl) (by repeat (first | exact trivial | refine ⟨rfl, ?_⟩)) ?_
  refine Run.seq ?_
  refine Run.region ?_
  refine RunL.ok (OpOk.assign rfl) rfl ?_
  refine RunL.nil ?_
  refine Run.seq ?_
  refine Run.seq ?_
  refine Run.region ?_
  refine RunL.ok (OpOk.move rfl) rfl ?_
  refine RunL.ok (OpOk.lenR rfl rfl rd rfl) rfl ?_
  refine RunL.ok (OpOk.move rfl) rfl ?_
  refine RunL.nil ?_
  refine Run.block ?_
  refine Run.loop (X := Nat) (fun i => [(5, v), (6, .int .i64 (ns.length : Int)), (7, .int .i64 i)]) (fun _ => A) (fun i => i ≤ ns.length ∧ (ns.take i).any farN = false) (fun i => ns.length - i) 0 ⟨rfl, rfl, rfl, trivial⟩ rfl ⟨by omega, by simp⟩ (fun i hi ih => ?_)
  obtain ⟨hi, hn⟩ := hi
  rcases Nat.lt_or_ge i ns.length with hlt | hge
  · have ht : ns.take (i + 1) = ns.take i ++ [ns.getD i 0] := by rw [List.take_succ_eq_append_getElem hlt, List.getD_eq_getElem?_getD, List.getElem?_eq_getElem hlt]; rfl
    have hz : ns.any farN = (farN (ns.getD i 0) || (ns.drop (i + 1)).any farN) := by
      have e : ns.drop i = ns.getD i 0 :: ns.drop (i + 1) := by rw [List.getD_eq_getElem?_getD, List.getElem?_eq_getElem hlt]; exact List.drop_eq_getElem_cons hlt
      have h0 : ns.any farN = ((ns.take i).any farN || (ns.drop i).any farN) := by rw [← List.any_append, List.take_append_drop]
      rw [h0, hn, Bool.false_or, e, List.any_cons]
    have ha : (ns.take (i + 1)).any farN = farN (ns.getD i 0) := by rw [ht, List.any_append, hn]; simp
    generalize hx : ns.getD i 0 = x at *
    rcases Decidable.em (x < -1099511627776 ∨ 1099511627776 < x) with h3 | h3
    · have hf : farN x = true := by simp [farN, h3]
      rw [hz, hf]
      rcases Int.lt_or_le x (-1099511627776) with h4 | h4
      · refine Run.seq ?_
        refine Run.region ?_
        refine RunL.ok (OpOk.asT (OpOk.lss rfl rfl) (by omega)) rfl ?_
        refine RunL.nil ?_
        refine Run.seq ?_
        refine Run.condT rfl ?_
        refine Run.skip ?_
        refine Run.seq ?_
        refine Run.block ?_
        refine Run.seq ?_
        refine Run.region ?_
        refine RunL.ok (OpOk.idx1N rfl ti3 rfl rd rfl (by omega)) rfl ?_
        refine RunL.ok (OpOk.load rfl rfl rfl (Rd.getIE (by assumption) rd (by omega))) rfl ?_
        refine RunL.ok (OpOk.assign rfl) rfl ?_
        refine RunL.nil ?_
        refine Run.seq ?_
        refine Run.region ?_
        refine RunL.ok (OpOk.move rfl) rfl ?_
        refine RunL.ok (OpOk.asT (OpOk.lss rfl rfl) (by omega)) rfl ?_
        refine RunL.ok (OpOk.move rfl) rfl ?_
        refine RunL.off rfl rfl rfl rfl ?_
        refine RunL.off rfl rfl rfl rfl ?_
        refine RunL.ok (OpOk.pickT rfl rfl) rfl ?_
        refine RunL.nil ?_
        refine Run.condT rfl ?_
        refine Run.seq ?_
        refine Run.region ?_
        refine RunL.ok (OpOk.assign rfl) rfl ?_
        refine RunL.nil ?_
        refine Run.ret1 Try.func38 rfl rfl ?_
        exact ⟨rfl, rfl⟩
      · refine Run.seq ?_
        refine Run.region ?_
        refine RunL.ok (OpOk.asT (OpOk.lss rfl rfl) (by omega)) rfl ?_
        refine RunL.nil ?_
        refine Run.seq ?_
        refine Run.condT rfl ?_
        refine Run.skip ?_
        refine Run.seq ?_
        refine Run.block ?_
        refine Run.seq ?_
        refine Run.region ?_
        refine RunL.ok (OpOk.idx1N rfl ti3 rfl rd rfl (by omega)) rfl ?_
        refine RunL.ok (OpOk.load rfl rfl rfl (Rd.getIE (by assumption) rd (by omega))) rfl ?_
        refine RunL.ok (OpOk.assign rfl) rfl ?_
        refine RunL.nil ?_
        refine Run.seq ?_
        refine Run.region ?_
        refine RunL.ok (OpOk.move rfl) rfl ?_
        refine RunL.ok (OpOk.asF (OpOk.lss rfl rfl) (by omega)) rfl ?_
        refine RunL.ok (OpOk.move rfl) rfl ?_
        refine RunL.on rfl rfl ?_
        refine RunL.ok (OpOk.move rfl) rfl ?_
        refine RunL.on rfl rfl ?_
        refine RunL.ok (OpOk.asT (OpOk.gtr rfl rfl) (by omega)) rfl ?_
        refine RunL.ok (OpOk.pickF rfl rfl) rfl ?_
        refine RunL.nil ?_
        refine Run.condT rfl ?_
        refine Run.seq ?_
        refine Run.region ?_
        refine RunL.ok (OpOk.assign rfl) rfl ?_
        refine RunL.nil ?_
        refine Run.ret1 Try.func38 rfl rfl ?_
        exact ⟨rfl, rfl⟩
    · have hf : farN x = false := by simp [farN, h3]
      refine Run.seq ?_
      refine Run.region ?_
      refine RunL.ok (OpOk.asT (OpOk.lss rfl rfl) (by omega)) rfl ?_
      refine RunL.nil ?_
      refine Run.seq ?_
      refine Run.condT rfl ?_
      refine Run.skip ?_
      refine Run.seq ?_
      refine Run.block ?_
      refine Run.seq ?_
      refine Run.region ?_
      refine RunL.ok (OpOk.idx1N rfl ti3 rfl rd rfl (by omega)) rfl ?_
      refine RunL.ok (OpOk.load rfl rfl rfl (Rd.getIE (by assumption) rd (by omega))) rfl ?_
      refine RunL.ok (OpOk.assign rfl) rfl ?_
      refine RunL.nil ?_
      refine Run.seq ?_
      refine Run.region ?_
      refine RunL.ok (OpOk.move rfl) rfl ?_
      refine RunL.ok (OpOk.asF (OpOk.lss rfl rfl) (by omega)) rfl ?_
      refine RunL.ok (OpOk.move rfl) rfl ?_
      refine RunL.on rfl rfl ?_
      refine RunL.ok (OpOk.move rfl) rfl ?_
      refine RunL.on rfl rfl ?_
      refine RunL.ok (OpOk.asF (OpOk.gtr rfl rfl) (by omega)) rfl ?_
      refine RunL.ok (OpOk.pickF rfl rfl) rfl ?_
      refine RunL.nil ?_
      refine Run.condF rfl ?_
      refine Run.skip ?_
      refine Run.inBlock ?_
      refine Run.region ?_
      refine RunL.ok (OpOk.addN _ 1 rfl rfl rfl rfl (by omega)) rfl ?_
      refine RunL.ok (OpOk.move rfl) rfl ?_
      refine RunL.nil ?_
      refine Run.jump ((ih (i + 1) ⟨by omega, by rw [ha, hf]⟩ (by omega))) ⟨rfl, rfl, rfl, trivial⟩ ((Grew.refl _))
  · obtain rfl : i = ns.length := by omega
    rw [List.take_length] at hn
    rw [hn]
    refine Run.seq ?_
    refine Run.region ?_
    refine RunL.ok (OpOk.asF (OpOk.lss rfl rfl) (by omega)) rfl ?_
    refine RunL.nil ?_
    refine Run.seq ?_
    refine Run.condF rfl ?_
    refine Run.exit rfl ?_
    refine Run.seq ?_
    refine Run.region ?_
    refine RunL.ok (OpOk.assign rfl) rfl ?_
    refine RunL.nil ?_
    refine Run.ret1 Try.func38 rfl rfl ?_
    exact ⟨rfl, rfl⟩
def btw (d m d' m' : Int) : Int := if d < -1099511627776 ∨ 1099511627776 < d ∨ m < -1099511627776 ∨ 1099511627776 < m ∨ d' < -1099511627776 ∨ 1099511627776 < d' ∨ m' < -1099511627776 ∨ 1099511627776 < m' then 0 else (d' - d) * 1440 + m' - m
theorem btw_fact (d m d' m' : Int) : ((d < -1099511627776 ∨ 1099511627776 < d ∨ m < -1099511627776 ∨ 1099511627776 < m ∨ d' < -1099511627776 ∨ 1099511627776 < d' ∨ m' < -1099511627776 ∨ 1099511627776 < m') ∧ btw d m d' m' = 0) ∨
    ((-1099511627776 ≤ d ∧ d ≤ 1099511627776 ∧ -1099511627776 ≤ m ∧ m ≤ 1099511627776 ∧ -1099511627776 ≤ d' ∧ d' ≤ 1099511627776 ∧ -1099511627776 ≤ m' ∧ m' ≤ 1099511627776) ∧ btw d m d' m' = (d' - d) * 1440 + m' - m) := by
  unfold btw
  split
  · exact .inl ⟨by assumption, rfl⟩
  · exact .inr ⟨by omega, rfl⟩
theorem s24 {w0 : World} {A : Asn} {d m d' m' : Int} : Spec Try.prog w0 24 [.agg #[.int .i64 d, .int .i64 m], .agg #[.int .i64 d', .int .i64 m']] A (fun v' A' => v' = .int .i64 (btw d m d' m') ∧ A' = A) := by
  refine Spec.of_run [(0, .agg #[.int .i64 d, .int .i64 m]), (1, .agg #[.int .i64 d', .int .i64 m'])] Try.func24 rfl (Nat.le_of_ble_eq_true rfl) (by repeat (first | exact trivial | refine ⟨rfl, ?_⟩)) ?_
  have hb := btw_fact d m d' m'
  cases hf : [d, m, d', m'].any farN with
  | true =>
    have hf2 := hf
    simp [farN] at hf2
    rw [show btw d m d' m' = 0 by omega]
    refine Run.seq ?_
    refine Run.region ?_
    refine RunL.box rfl rfl (fun bx1 => ?_)
    refine RunL.box rfl rfl (fun bx2 => ?_)
    refine RunL.ok (OpOk.assign rfl) rfl ?_
    refine RunL.nil ?_
    refine Run.seq ?_
    refine Run.seq ?_
    refine Run.region ?_
    refine RunL.ok (OpOk.fieldAddr fld29_0 rfl) rfl ?_
    refine RunL.ok (OpOk.load rfl rfl rfl (Blk.out Blk.pts.left _ _ rfl)) rfl ?_
    refine RunL.ok (OpOk.fieldAddr fld29_1 rfl) rfl ?_
    refine RunL.ok (OpOk.load rfl rfl rfl (Blk.out Blk.pts.left _ _ rfl)) rfl ?_
    refine RunL.ok (OpOk.fieldAddr fld29_0 rfl) rfl ?_
    refine RunL.ok (OpOk.load rfl rfl rfl (Blk.out Blk.pts _ _ rfl)) rfl ?_
    refine RunL.ok (OpOk.fieldAddr fld29_1 rfl) rfl ?_
    refine RunL.ok (OpOk.load rfl rfl rfl (Blk.out Blk.pts _ _ rfl)) rfl ?_
    refine RunL.litI (xs := [d, m, d', m']) rfl ti3 rfl rfl rfl (by decide) rfl (fun vx3 rdx3 => ?_)
    refine RunL.know (fun w s => (s.conv rfl).ownRd0) (fun rdx4 => ?_)
    refine RunL.call cal38 rfl (s38 (Rd.right rdx4)) rfl (fun vx5 Ax5 hx5 => ?_)
    obtain ⟨rfl, rfl⟩ := hx5
    refine RunL.nil ?_
    refine Run.condBT rfl hf ?_
    refine Run.seq ?_
    refine Run.region ?_
    refine RunL.ok (OpOk.assign rfl) rfl ?_
    refine RunL.nil ?_
    refine Run.keep (A) ((Grew.mul (Grew.mul (Grew.mul (Grew.refl _) _) _) _)) ?_
    refine Run.ret1 Try.func24 rfl rfl ?_
    exact ⟨rfl, rfl⟩
  | false =>
    have hf2 := hf
    simp [farN] at hf2
    rw [show btw d m d' m' = (d' - d) * 1440 + m' - m by omega]
    refine Run.seq ?_
    refine Run.region ?_
    refine RunL.box rfl rfl (fun bx1 => ?_)
    refine RunL.box rfl rfl (fun bx2 => ?_)
    refine RunL.ok (OpOk.assign rfl) rfl ?_
    refine RunL.nil ?_
    refine Run.seq ?_
    refine Run.seq ?_
    refine Run.region ?_
    refine RunL.ok (OpOk.fieldAddr fld29_0 rfl) rfl ?_
    refine RunL.ok (OpOk.load rfl rfl rfl (Blk.out Blk.pts.left _ _ rfl)) rfl ?_
    refine RunL.ok (OpOk.fieldAddr fld29_1 rfl) rfl ?_
    refine RunL.ok (OpOk.load rfl rfl rfl (Blk.out Blk.pts.left _ _ rfl)) rfl ?_
    refine RunL.ok (OpOk.fieldAddr fld29_0 rfl) rfl ?_
    refine RunL.ok (OpOk.load rfl rfl rfl (Blk.out Blk.pts _ _ rfl)) rfl ?_
    refine RunL.ok (OpOk.fieldAddr fld29_1 rfl) rfl ?_
    refine RunL.ok (OpOk.load rfl rfl rfl (Blk.out Blk.pts _ _ rfl)) rfl ?_
    refine RunL.litI (xs := [d, m, d', m']) rfl ti3 rfl rfl rfl (by decide) rfl (fun vx3 rdx3 => ?_)
    refine RunL.know (fun w s => (s.conv rfl).ownRd0) (fun rdx4 => ?_)
    refine RunL.call cal38 rfl (s38 (Rd.right rdx4)) rfl (fun vx5 Ax5 hx5 => ?_)
    obtain ⟨rfl, rfl⟩ := hx5
    refine RunL.nil ?_
    refine Run.condBF rfl hf ?_
    refine Run.skip ?_
    refine Run.seq ?_
    refine Run.region ?_
    refine RunL.ok (OpOk.fieldAddr fld29_0 rfl) rfl ?_
    refine RunL.ok (OpOk.load rfl rfl rfl (Blk.out Blk.pts.left _ _ rfl)) rfl ?_
    refine RunL.ok (OpOk.fieldAddr fld29_0 rfl) rfl ?_
    refine RunL.ok (OpOk.load rfl rfl rfl (Blk.out Blk.pts.left.left _ _ rfl)) rfl ?_
    refine RunL.ok (OpOk.sub rfl rfl (wrapI (by omega) (by omega))) rfl ?_
    refine RunL.ok (OpOk.mul rfl rfl (wrapI (by omega) (by omega))) rfl ?_
    refine RunL.ok (OpOk.fieldAddr fld29_1 rfl) rfl ?_
    refine RunL.ok (OpOk.load rfl rfl rfl (Blk.out Blk.pts.left _ _ rfl)) rfl ?_
    refine RunL.ok (OpOk.add rfl rfl (wrapI (by omega) (by omega))) rfl ?_
    refine RunL.ok (OpOk.fieldAddr fld29_1 rfl) rfl ?_
    refine RunL.ok (OpOk.load rfl rfl rfl (Blk.out Blk.pts.left.left _ _ rfl)) rfl ?_
    refine RunL.ok (OpOk.sub rfl rfl (wrapI (by omega) (by omega))) rfl ?_
    refine RunL.ok (OpOk.assign rfl) rfl ?_
    refine RunL.nil ?_
    refine Run.keep (A) ((Grew.mul (Grew.mul (Grew.mul (Grew.refl _) _) _) _)) ?_
    refine Run.ret1 Try.func24 rfl rfl ?_
    exact ⟨rfl, rfl⟩
end Go.Proofs.Ytajjmephfoaiaaa
