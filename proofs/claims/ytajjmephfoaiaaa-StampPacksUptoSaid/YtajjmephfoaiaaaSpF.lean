/- Stamps as bytes: Four, Unpack, one by one. -/
import Derived.Test.YtajjmephfoaiaaaSpE
import Derived.Test.YtajjmephfoaiaaaSpB
namespace Go.Proofs.Ytajjmephfoaiaaa
open Go Go.Proofs
set_option maxRecDepth 100000
set_option maxHeartbeats 4000000
theorem u8w (z : Int) : z % 256 = ((UInt8.ofNat (z % 256).toNat).toNat : Int) := by
  rw [UInt8.toNat_ofNat']
  have := Int.emod_nonneg z (show (256 : Int) ≠ 0 by decide)
  have := Int.emod_lt_of_pos z (show (0 : Int) < 256 by decide)
  omega
theorem s30 {w0 : World} {A : Asn} {d m : Int} : Spec Try.prog w0 30 [.agg #[.int .i64 d, .int .i64 m]] A (fun v' A' => ∃ J zs, A' = A * J * own 5 1 v' 4 (B zs) ∧ zs.length = 4 ∧ (rightS (d, m) = true → zs = fourB (d, m))) := by
  refine Spec.of_run [(0, .agg #[.int .i64 d, .int .i64 m])] Try.func30 rfl (Nat.le_of_ble_eq_true rfl) (by repeat (first | exact trivial | refine ⟨rfl, ?_⟩)) ?_
  rcases Bool.eq_false_or_eq_true (rightS (d, m)) with hr | hr
  · have h := hr
    simp only [rightS, decide_eq_true_eq] at h
    obtain ⟨d, rfl⟩ := Int.eq_ofNat_of_zero_le h.1
    obtain ⟨m, rfl⟩ := Int.eq_ofNat_of_zero_le h.2.2.1
    refine Run.seq ?_
    refine Run.region ?_
    refine RunL.box rfl rfl (fun bx1 => ?_)
    refine RunL.ok (OpOk.assign rfl) rfl ?_
    refine RunL.nil ?_
    refine Run.seq ?_
    refine Run.region ?_
    refine RunL.ok (OpOk.fieldAddr fld29_0 rfl) rfl ?_
    refine RunL.ok (OpOk.load rfl rfl rfl (Blk.out Blk.pts _ _ rfl)) rfl ?_
    refine RunL.ok (OpOk.mulN _ 65536 rfl rfl rfl rfl (by omega)) rfl ?_
    refine RunL.ok (OpOk.fieldAddr fld29_1 rfl) rfl ?_
    refine RunL.ok (OpOk.load rfl rfl rfl (Blk.out Blk.pts _ _ rfl)) rfl ?_
    refine RunL.ok (OpOk.mulN _ 32 rfl rfl rfl rfl (by omega)) rfl ?_
    refine RunL.ok (OpOk.addN _ _ rfl rfl rfl rfl (by omega)) rfl ?_
    refine RunL.ok (OpOk.assign rfl) rfl ?_
    refine RunL.nil ?_
    refine Run.seq ?_
    refine Run.region ?_
    refine RunL.ok (OpOk.move rfl) rfl ?_
    refine RunL.ok (OpOk.quoN _ 16777216 rfl rfl rfl rfl (by omega) (by omega)) rfl ?_
    refine RunL.ok (OpOk.convInt rfl rfl rfl (wrapU8 (by omega) (by omega))) rfl ?_
    refine RunL.ok (OpOk.move rfl) rfl ?_
    refine RunL.ok (OpOk.quoN _ 65536 rfl rfl rfl rfl (by omega) (by omega)) rfl ?_
    refine RunL.ok (OpOk.convInt rfl rfl rfl (wrapU8m _)) rfl ?_
    refine RunL.ok (OpOk.move rfl) rfl ?_
    refine RunL.ok (OpOk.quoN _ 256 rfl rfl rfl rfl (by omega) (by omega)) rfl ?_
    refine RunL.ok (OpOk.convInt rfl rfl rfl (wrapU8m _)) rfl ?_
    refine RunL.ok (OpOk.move rfl) rfl ?_
    refine RunL.ok (OpOk.convInt rfl rfl rfl (wrapU8m _)) rfl ?_
    refine RunL.lits rfl ti5 rfl rfl rfl (by simp [Value.cells]) (by decide) rfl (fun vx2 rdx2 => ?_)
    refine RunL.ok (OpOk.assign rfl) rfl ?_
    refine RunL.nil ?_
    refine Run.ret1 Try.func30 rfl rfl ?_
    refine ⟨pts bx1 (.cells (Value.agg #[.int .i64 d, .int .i64 m]).cells 29 (0, 0)), fourB (d, m), ?_, rfl, fun _ => rfl⟩
    have e : B (fourB ((d : Int), (m : Int))) = [.int .u8 (((d * 65536 + m * 32) / 16777216 : Nat) : Int), .int .u8 ((((d * 65536 + m * 32) / 65536 : Nat) : Int) % 256), .int .u8 ((((d * 65536 + m * 32) / 256 : Nat) : Int) % 256), .int .u8 (((d * 65536 + m * 32 : Nat) : Int) % 256)] := by
      simp only [fourB, B, List.map_cons, List.map_nil, UInt8.toNat_ofNat', Int.toNat_natCast, List.cons.injEq, Value.int.injEq, true_and, and_true]
      omega
    rw [e]
  · refine Run.seq ?_
    refine Run.region ?_
    refine RunL.box rfl rfl (fun bx1 => ?_)
    refine RunL.ok (OpOk.assign rfl) rfl ?_
    refine RunL.nil ?_
    refine Run.seq ?_
    refine Run.region ?_
    refine RunL.ok (OpOk.fieldAddr fld29_0 rfl) rfl ?_
    refine RunL.ok (OpOk.load rfl rfl rfl (Blk.out Blk.pts _ _ rfl)) rfl ?_
    refine RunL.ok (OpOk.mul rfl rfl rfl) rfl ?_
    refine RunL.ok (OpOk.fieldAddr fld29_1 rfl) rfl ?_
    refine RunL.ok (OpOk.load rfl rfl rfl (Blk.out Blk.pts _ _ rfl)) rfl ?_
    refine RunL.ok (OpOk.mul rfl rfl rfl) rfl ?_
    refine RunL.ok (OpOk.add rfl rfl rfl) rfl ?_
    refine RunL.ok (OpOk.assign rfl) rfl ?_
    refine RunL.nil ?_
    refine Run.seq ?_
    refine Run.region ?_
    refine RunL.ok (OpOk.move rfl) rfl ?_
    refine RunL.ok (OpOk.quo rfl rfl (by decide) rfl) rfl ?_
    refine RunL.ok (OpOk.convInt rfl rfl rfl (wrapU8m _)) rfl ?_
    refine RunL.ok (OpOk.move rfl) rfl ?_
    refine RunL.ok (OpOk.quo rfl rfl (by decide) rfl) rfl ?_
    refine RunL.ok (OpOk.convInt rfl rfl rfl (wrapU8m _)) rfl ?_
    refine RunL.ok (OpOk.move rfl) rfl ?_
    refine RunL.ok (OpOk.quo rfl rfl (by decide) rfl) rfl ?_
    refine RunL.ok (OpOk.convInt rfl rfl rfl (wrapU8m _)) rfl ?_
    refine RunL.ok (OpOk.move rfl) rfl ?_
    refine RunL.ok (OpOk.convInt rfl rfl rfl (wrapU8m _)) rfl ?_
    refine RunL.lits rfl ti5 rfl rfl rfl (by simp [Value.cells]) (by decide) rfl (fun vx2 rdx2 => ?_)
    refine RunL.ok (OpOk.assign rfl) rfl ?_
    refine RunL.nil ?_
    refine Run.ret1 Try.func30 rfl rfl ?_
    refine ⟨pts bx1 (.cells (Value.agg #[.int .i64 d, .int .i64 m]).cells 29 (0, 0)), [UInt8.ofNat (IntKind.i64.wrap ((IntKind.i64.wrap (IntKind.i64.wrap (d * 65536) + IntKind.i64.wrap (m * 32))).tdiv 16777216) % 256).toNat, UInt8.ofNat (IntKind.i64.wrap ((IntKind.i64.wrap (IntKind.i64.wrap (d * 65536) + IntKind.i64.wrap (m * 32))).tdiv 65536) % 256).toNat, UInt8.ofNat (IntKind.i64.wrap ((IntKind.i64.wrap (IntKind.i64.wrap (d * 65536) + IntKind.i64.wrap (m * 32))).tdiv 256) % 256).toNat, UInt8.ofNat (IntKind.i64.wrap (IntKind.i64.wrap (d * 65536) + IntKind.i64.wrap (m * 32)) % 256).toNat], ?_, rfl, fun h => by rw [hr] at h; cases h⟩
    simp only [B, List.map_cons, List.map_nil, ← u8w]
theorem s33 {w0 : World} {A : Asn} {v u : Value} {m q : Nat} {xs ys : List (Int × Int)} (rd : Rd w0 A v 2 m (Fl encF xs)) (rd2 : Rd w0 A u 2 q (Fl encF ys)) :
    Spec Try.prog w0 33 [v, u] A (fun v' A' => v' = .bool (decide (xs = ys)) ∧ A' = A) := by
  have hx := rd.lenFl (fun _ => rfl) (by decide)
  have hy := rd2.lenFl (fun _ => rfl) (by decide)
  have hm := rd.max
  subst hx hy
  refine Spec.of_run [(0, v), (1, u)] Try.func33 rfl (Nat.le_of_ble_eq_true rfl) (by repeat (first | exact trivial | refine ⟨rfl, ?_⟩)) ?_
  refine Run.seq ?_
  refine Run.region ?_
  refine RunL.ok (OpOk.assign rfl) rfl ?_
  refine RunL.nil ?_
  refine Run.seq ?_
  refine Run.seq ?_
  refine Run.region ?_
  refine RunL.ok (OpOk.move rfl) rfl ?_
  refine RunL.ok (OpOk.lenR rfl rfl rd rfl) rfl ?_
  refine RunL.ok (OpOk.move rfl) rfl ?_
  refine RunL.ok (OpOk.lenR rfl rfl rd2 rfl) rfl ?_
  refine RunL.ok (OpOk.neq rfl rfl) rfl ?_
  refine RunL.nil ?_
  refine Run.condN rfl (fun x1 => ?_) (fun x1 => ?_)
  · refine Run.seq ?_
    refine Run.region ?_
    refine RunL.ok (OpOk.assign rfl) rfl ?_
    refine RunL.nil ?_
    refine Run.ret1 Try.func33 rfl rfl ?_
    refine ⟨?_, rfl⟩
    have : xs ≠ ys := fun e => x1 (by subst e; omega)
    simp [this]
  refine Run.skip ?_
  refine Run.seq ?_
  refine Run.seq ?_
  refine Run.region ?_
  refine RunL.ok (OpOk.assign rfl) rfl ?_
  refine RunL.nil ?_
  refine Run.block ?_
  refine Run.jump ((Run.loopJ (X := Nat) (fun i => [(0, v), (1, u), (5, .int .i64 i)]) (fun _ => A) (fun i => i ≤ xs.length ∧ xs.take i = ys.take i) (fun i => xs.length - i) 0 ⟨by omega, by simp⟩ (fun i hi ih => ?_))) ⟨rfl, rfl, rfl, trivial⟩ ((Grew.refl _))
  obtain ⟨hi1, hi2⟩ := hi
  rcases Nat.lt_or_ge i xs.length with hlt | hge
  · refine Run.seq ?_
    refine Run.seq ?_
    refine Run.region ?_
    refine RunL.ok (OpOk.move rfl) rfl ?_
    refine RunL.ok (OpOk.move rfl) rfl ?_
    refine RunL.ok (OpOk.lenR rfl rfl rd rfl) rfl ?_
    refine RunL.ok (OpOk.asT (OpOk.lss rfl rfl) (by omega)) rfl ?_
    refine RunL.nil ?_
    refine Run.condT rfl ?_
    refine Run.skip ?_
    refine Run.seq ?_
    refine Run.block ?_
    refine Run.seq ?_
    (apply Run.drawD [] (by rfl) (sep_emp _).symm; case hchk => kernel_rfl)
    refine Sd.quiet 0 _ _ rfl rfl rfl rfl rfl (QOp.ok (fun X => OpOk.move rfl)) ?_
    refine Sd.quiet 1 _ _ rfl rfl rfl rfl rfl (QOp.ok (fun X => OpOk.move rfl)) ?_
    refine Sd.quiet 2 _ _ rfl rfl rfl rfl rfl (QOp.ok (fun X => OpOk.idxN rfl ti29 rfl rd.left.left rfl (by omega))) ?_
    refine Sd.quiet 3 _ _ rfl rfl rfl rfl rfl (QOp.ok (fun X => OpOk.loadFl default rfl rfl ti29 rfl rd.left.left (fun _ => rfl) rfl (by omega))) ?_
    refine Sd.quiet 4 _ _ rfl rfl rfl rfl rfl (QOp.ok (fun X => OpOk.move rfl)) ?_
    refine Sd.quiet 5 _ _ rfl rfl rfl rfl rfl (QOp.ok (fun X => OpOk.move rfl)) ?_
    refine Sd.quiet 6 _ _ rfl rfl rfl rfl rfl (QOp.ok (fun X => OpOk.idxN rfl ti29 rfl rd2.left.left rfl (by omega))) ?_
    refine Sd.quiet 7 _ _ rfl rfl rfl rfl rfl (QOp.ok (fun X => OpOk.loadFl default rfl rfl ti29 rfl rd2.left.left (fun _ => rfl) rfl (by omega))) ?_
    refine Sd.quiet 8 _ _ rfl rfl rfl rfl rfl (QOp.ok (fun X => OpOk.neqTwo two29 rfl rfl)) ?_
    (apply Sd.tail; case hall => kernel_rfl)
    refine RunL.mem (fl2 (sep_emp _) (sep_emp _)) ?_
    refine RunL.nil ?_
    refine Run.condN rfl (fun y1 => ?_) (fun y1 => ?_)
    · refine Run.seq ?_
      refine Run.region ?_
      refine RunL.ok (OpOk.assign rfl) rfl ?_
      refine RunL.nil ?_
      refine Run.ret1 Try.func33 rfl rfl ?_
      refine ⟨?_, rfl⟩
      have : xs ≠ ys := fun e => y1 (by subst e; exact ⟨rfl, rfl⟩)
      simp [this]
    refine Run.skip ?_
    refine Run.inBlock ?_
    refine Run.region ?_
    refine RunL.ok (OpOk.move rfl) rfl ?_
    refine RunL.ok (OpOk.addN _ 1 rfl rfl rfl rfl (by omega)) rfl ?_
    refine RunL.ok (OpOk.assign rfl) rfl ?_
    refine RunL.nil ?_
    refine Run.jump ((ih (i + 1) ⟨by omega, by rw [take_next (by omega), take_next (by omega), hi2, Prod.ext y1.1 y1.2]⟩ (by omega))) ⟨rfl, rfl, rfl, trivial⟩ ((Grew.refl _))
  · obtain rfl : i = xs.length := by omega
    rw [List.take_of_length_le (by omega), List.take_of_length_le (by omega)] at hi2
    refine Run.seq ?_
    refine Run.seq ?_
    refine Run.region ?_
    refine RunL.ok (OpOk.move rfl) rfl ?_
    refine RunL.ok (OpOk.move rfl) rfl ?_
    refine RunL.ok (OpOk.lenR rfl rfl rd rfl) rfl ?_
    refine RunL.ok (OpOk.asF (OpOk.lss rfl rfl) (by omega)) rfl ?_
    refine RunL.nil ?_
    refine Run.condF rfl ?_
    refine Run.exit rfl ?_
    refine Run.seq ?_
    refine Run.region ?_
    refine RunL.ok (OpOk.assign rfl) rfl ?_
    refine RunL.nil ?_
    refine Run.ret1 Try.func33 rfl rfl ?_
    rw [decide_eq_true (by first | omega | with_reducible rfl)]
    exact ⟨rfl, rfl⟩
theorem rangeAll {p : Nat → Bool} {i n : Nat} (hi : i < n) (h : p i = false) : (List.range n).all p = false := by
  rw [List.all_eq_false]
  exact ⟨i, List.mem_range.2 hi, by simp [h]⟩
theorem rangeNext {p : Nat → Bool} {i : Nat} (h : (List.range i).all p = true) (h2 : p i = true) : (List.range (i + 1)).all p = true := by
  rw [List.range_succ, List.all_append, h]
  simp [h2]
theorem s34 {w0 : World} {A : Asn} {u : Value} {m : Nat} {bs : List UInt8} (rd : Rd w0 A u 1 m (B bs)) (hlim : m ≤ 35184372088832) :
    Spec Try.prog w0 34 [u] A (fun v' A' => ∃ z J, v' = .tuple #[z, .int .i64 (unpE bs)] ∧ A' = A * J * own 29 2 z (unpL bs).length (Fl encF (unpL bs))) := by
  have hl := rd.lenB
  subst hl
  refine Spec.of_run [(0, u)] Try.func34 rfl (Nat.le_of_ble_eq_true rfl) (by repeat (first | exact trivial | refine ⟨rfl, ?_⟩)) ?_
  rcases Decidable.em (bs.length % 4 = 0) with h4 | h4
  · refine Run.seq ?_
    refine Run.region ?_
    refine RunL.ok (OpOk.assign rfl) rfl ?_
    refine RunL.ok (OpOk.assign rfl) rfl ?_
    refine RunL.nil ?_
    refine Run.seq ?_
    refine Run.seq ?_
    refine Run.region ?_
    refine RunL.ok (OpOk.move rfl) rfl ?_
    refine RunL.ok (OpOk.lenR rfl rfl rd rfl) rfl ?_
    refine RunL.ok (OpOk.remN _ 4 rfl rfl rfl rfl (by omega)) rfl ?_
    refine RunL.ok (OpOk.as (c := false) (OpOk.neq rfl rfl) (by rw [decide_eq_true (by omega)]; rfl)) rfl ?_
    refine RunL.nil ?_
    refine Run.condF rfl ?_
    refine Run.skip ?_
    refine Run.seq ?_
    refine Run.region ?_
    refine RunL.ok (OpOk.assign rfl) rfl ?_
    refine RunL.nil ?_
    refine Run.seq ?_
    refine Run.seq ?_
    refine Run.region ?_
    refine RunL.ok (OpOk.assign rfl) rfl ?_
    refine RunL.nil ?_
    refine Run.block ?_
    refine Run.ent (Ent.ownNil' _ 29 2 (Fl encF []) rfl) ?_
    refine Run.mem (A' := A * emp * own 29 2 (.slice none 0 0) 0 (Fl encF [])) (by rw [sep_emp]) ?_
    refine Run.jump ((Run.loopJ (X := Nat × Value × Asn) (fun x => [(0, u), (4, x.2.1), (5, .int .i64 ((4 * x.1 : Nat) : Int))]) (fun x => A * x.2.2 * own 29 2 x.2.1 x.1 (Fl encF ((List.range x.1).map (stp bs)))) (fun x => x.1 ≤ bs.length / 4 ∧ (List.range x.1).all (okS bs) = true) (fun x => bs.length / 4 - x.1) (0, .slice none 0 0, emp) ⟨Nat.zero_le _, rfl⟩ (fun x hx ih => ?_))) ⟨rfl, rfl, rfl, trivial⟩ (Grew.of (frc rfl rfl) (Grew.refl _))
    obtain ⟨i, v1, J⟩ := x
    simp only at hx ih ⊢
    obtain ⟨hi, hall⟩ := hx
    rcases Nat.lt_or_ge i (bs.length / 4) with hlt | hge
    · have b0 := (bs.getD (4 * i) 0).toNat_lt
      have b1 := (bs.getD (4 * i + 1) 0).toNat_lt
      have b2 := (bs.getD (4 * i + 2) 0).toNat_lt
      have b3 := (bs.getD (4 * i + 3) 0).toNat_lt
      have hst : stp bs i = ((((bs.getD (4 * i) 0).toNat * 256 + (bs.getD (4 * i + 1) 0).toNat : Nat) : Int), ((((bs.getD (4 * i + 2) 0).toNat * 256 + (bs.getD (4 * i + 3) 0).toNat) / 32 : Nat) : Int)) := by
        simp only [stp, lowS, byN, Nat.mul_comm 256]
      have hok : okS bs i = decide (((bs.getD (4 * i + 2) 0).toNat * 256 + (bs.getD (4 * i + 3) 0).toNat) % 32 = 0 ∧ ((bs.getD (4 * i + 2) 0).toNat * 256 + (bs.getD (4 * i + 3) 0).toNat) / 32 < 1440) := by
        simp only [okS, lowS, byN, Nat.mul_comm 256]
      have hbad : okS bs i = false → unpE bs = 12 ∧ unpL bs = [] := fun h => by
        have e : unpE bs = 12 := by unfold unpE; rw [if_pos h4, rangeAll hlt h]; rfl
        exact ⟨e, by unfold unpL; rw [e]; rfl⟩
      refine Run.seq ?_
      refine Run.seq ?_
      refine Run.region ?_
      refine RunL.ok (OpOk.move rfl) rfl ?_
      refine RunL.ok (OpOk.move rfl) rfl ?_
      refine RunL.ok (OpOk.lenR rfl rfl rd.left.left rfl) rfl ?_
      refine RunL.ok (OpOk.asT (OpOk.lss rfl rfl) (by omega)) rfl ?_
      refine RunL.nil ?_
      refine Run.condT rfl ?_
      refine Run.skip ?_
      refine Run.seq ?_
      refine Run.block ?_
      refine Run.seq ?_
      refine Run.know (fun w s => (s.conv rfl).ownRd0) (fun rdy1 => ?_)
      (apply Run.drawD [] (by rfl) (sep_emp _).symm; case hchk => kernel_rfl)
      refine Sd.quiet 0 _ _ rfl rfl rfl rfl rfl (QOp.ok (fun X => OpOk.move rfl)) ?_
      refine Sd.quiet 1 _ _ rfl rfl rfl rfl rfl (QOp.ok (fun X => OpOk.move rfl)) ?_
      refine Sd.quiet 2 _ _ rfl rfl rfl rfl rfl (QOp.ok (fun X => OpOk.addN _ 2 rfl rfl rfl rfl (by omega))) ?_
      refine Sd.quiet 3 _ _ rfl rfl rfl rfl rfl (QOp.ok (fun X => OpOk.idx1N rfl ti5 rfl rd.left.left.left.left rfl (by omega))) ?_
      refine Sd.quiet 4 _ _ rfl rfl rfl rfl rfl (QOp.ok (fun X => OpOk.load rfl rfl rfl (Rd.getB rd.left.left.left.left (by omega)))) ?_
      refine Sd.quiet 5 _ _ rfl rfl rfl rfl rfl (QOp.ok (fun X => OpOk.convInt rfl rfl rfl (wrapI (by omega) (by omega)))) ?_
      refine Sd.quiet 6 _ _ rfl rfl rfl rfl rfl (QOp.ok (fun X => OpOk.mulN _ 256 rfl rfl rfl rfl (by omega))) ?_
      refine Sd.quiet 7 _ _ rfl rfl rfl rfl rfl (QOp.ok (fun X => OpOk.move rfl)) ?_
      refine Sd.quiet 8 _ _ rfl rfl rfl rfl rfl (QOp.ok (fun X => OpOk.move rfl)) ?_
      refine Sd.quiet 9 _ _ rfl rfl rfl rfl rfl (QOp.ok (fun X => OpOk.addN _ 3 rfl rfl rfl rfl (by omega))) ?_
      refine Sd.quiet 10 _ _ rfl rfl rfl rfl rfl (QOp.ok (fun X => OpOk.idx1N rfl ti5 rfl rd.left.left.left.left rfl (by omega))) ?_
      refine Sd.quiet 11 _ _ rfl rfl rfl rfl rfl (QOp.ok (fun X => OpOk.load rfl rfl rfl (Rd.getB rd.left.left.left.left (by omega)))) ?_
      refine Sd.quiet 12 _ _ rfl rfl rfl rfl rfl (QOp.ok (fun X => OpOk.convInt rfl rfl rfl (wrapI (by omega) (by omega)))) ?_
      refine Sd.quiet 13 _ _ rfl rfl rfl rfl rfl (QOp.ok (fun X => OpOk.addN _ _ rfl rfl rfl rfl (by omega))) ?_
      refine Sd.quiet 14 _ _ rfl rfl rfl rfl rfl (QOp.ok (fun X => OpOk.assign rfl)) ?_
      (apply Sd.tail; case hall => kernel_rfl)
      refine RunL.mem (fl2 (sep_emp _) (sep_emp _)) ?_
      refine RunL.nil ?_
      refine Run.seq ?_
      (apply Run.drawD [17] (by rfl) (sep_emp _).symm; case hchk => kernel_rfl)
      refine Sd.quiet 0 _ _ rfl rfl rfl rfl rfl (QOp.ok (fun X => OpOk.move rfl)) ?_
      refine Sd.quiet 1 _ _ rfl rfl rfl rfl rfl (QOp.ok (fun X => OpOk.move rfl)) ?_
      refine Sd.quiet 2 _ _ rfl rfl rfl rfl rfl (QOp.ok (fun X => OpOk.idx1N rfl ti5 rfl rd.left.left.left.left rfl (by omega))) ?_
      refine Sd.quiet 3 _ _ rfl rfl rfl rfl rfl (QOp.ok (fun X => OpOk.load rfl rfl rfl (Rd.getB rd.left.left.left.left (by omega)))) ?_
      refine Sd.quiet 4 _ _ rfl rfl rfl rfl rfl (QOp.ok (fun X => OpOk.convInt rfl rfl rfl (wrapI (by omega) (by omega)))) ?_
      refine Sd.quiet 5 _ _ rfl rfl rfl rfl rfl (QOp.ok (fun X => OpOk.mulN _ 256 rfl rfl rfl rfl (by omega))) ?_
      refine Sd.quiet 6 _ _ rfl rfl rfl rfl rfl (QOp.ok (fun X => OpOk.move rfl)) ?_
      refine Sd.quiet 7 _ _ rfl rfl rfl rfl rfl (QOp.ok (fun X => OpOk.move rfl)) ?_
      refine Sd.quiet 8 _ _ rfl rfl rfl rfl rfl (QOp.ok (fun X => OpOk.addN _ 1 rfl rfl rfl rfl (by omega))) ?_
      refine Sd.quiet 9 _ _ rfl rfl rfl rfl rfl (QOp.ok (fun X => OpOk.idx1N rfl ti5 rfl rd.left.left.left.left rfl (by omega))) ?_
      refine Sd.quiet 10 _ _ rfl rfl rfl rfl rfl (QOp.ok (fun X => OpOk.load rfl rfl rfl (Rd.getB rd.left.left.left.left (by omega)))) ?_
      refine Sd.quiet 11 _ _ rfl rfl rfl rfl rfl (QOp.ok (fun X => OpOk.convInt rfl rfl rfl (wrapI (by omega) (by omega)))) ?_
      refine Sd.quiet 12 _ _ rfl rfl rfl rfl rfl (QOp.ok (fun X => OpOk.addN _ _ rfl rfl rfl rfl (by omega))) ?_
      refine Sd.quiet 13 _ _ rfl rfl rfl rfl rfl (QOp.ok (fun X => OpOk.move rfl)) ?_
      refine Sd.quiet 14 _ _ rfl rfl rfl rfl rfl (QOp.ok (fun X => OpOk.quoN _ 32 rfl rfl rfl rfl (by omega) (by omega))) ?_
      refine Sd.quiet 15 _ _ rfl rfl rfl rfl rfl (QOp.ok (fun X => OpOk.build (cells := #[.int (IntKind.i64) (↑((bs.getD (4 * i) 0).toNat * 256 + (bs.getD (4 * i + 1) 0).toNat)), .int (IntKind.i64) (↑(((bs.getD (4 * i + 2) 0).toNat * 256 + (bs.getD (4 * i + 3) 0).toNat) / 32))]) rfl (fun w => run_build w 29 _ _ (by rfl)))) ?_
      (refine Sd.exec 16 rfl rfl rfl rfl rfl ?hrest (by rfl) (fun Xy2 Ky2 hKy2 => ?_); case hrest => kernel_rfl)
      refine RunL.mem (fl2 (sep_emp _) (sep_emp _)) ?_
      refine RunL.alloc ti29 rfl (fun by3 => ?_)
      refine Sd.ret hKy2 (Eq.trans rfl (gp2 (sep_emp _).symm rfl)) ⟨_, (emp_sep _).symm⟩ ?_
      (apply Sd.tail; case hall => kernel_rfl)
      refine RunL.mem (fl2 rfl (sep_emp _)) ?_
      refine RunL.storeAll ti29 rfl rfl rfl (ones rfl) rfl rfl ?_
      refine RunL.nil ?_
      refine Run.seq ?_
      refine Run.seq ?_
      refine Run.region ?_
      refine RunL.ok (OpOk.move rfl) rfl ?_
      refine RunL.ok (OpOk.remN _ 32 rfl rfl rfl rfl (by omega)) rfl ?_
      refine RunL.ok (OpOk.neq rfl rfl) rfl ?_
      refine RunL.ok (OpOk.move rfl) rfl ?_
      refine RunL.splitN (t := 51) rfl (fun y4 => ?_) (fun y4 => ?_)
      · refine RunL.off rfl rfl rfl rfl ?_
        refine RunL.off rfl rfl rfl rfl ?_
        refine RunL.off rfl rfl rfl rfl ?_
        refine RunL.ok (OpOk.pickT rfl rfl) rfl ?_
        refine RunL.nil ?_
        refine Run.condT rfl ?_
        refine Run.seq ?_
        refine Run.region ?_
        refine RunL.ok (OpOk.assign rfl) rfl ?_
        refine RunL.ok (OpOk.assign rfl) rfl ?_
        refine RunL.nil ?_
        refine Run.ent (Ent.ownNil' _ 29 2 (Fl encF []) rfl) ?_
        refine Run.ret2 Try.func34 rfl rfl rfl ?_
        obtain ⟨e1, e2⟩ := hbad (by rw [hok]; exact decide_eq_false (by omega))
        rw [e1, e2]
        exact ⟨_, _, rfl, (Eq.trans (frc rfl rfl) (congrArg (· * _) (asg (asg as1))))⟩
      refine RunL.on rfl rfl ?_
      refine RunL.ok (OpOk.loadS rfl rfl ti29 rfl Blk.pts rfl) rfl ?_
      refine RunL.on rfl rfl ?_
      refine RunL.call cal23 rfl (s23) rfl (fun vy5 Ay5 hy5 => ?_)
      obtain ⟨rfl, rfl⟩ := hy5
      refine RunL.on rfl rfl ?_
      refine RunL.ok (OpOk.not rfl) rfl ?_
      refine RunL.ok (OpOk.pickF rfl rfl) rfl ?_
      refine RunL.nil ?_
      refine Run.condN rfl (fun y6 => ?_) (fun y6 => ?_)
      · refine Run.seq ?_
        refine Run.region ?_
        refine RunL.ok (OpOk.assign rfl) rfl ?_
        refine RunL.ok (OpOk.assign rfl) rfl ?_
        refine RunL.nil ?_
        refine Run.ent (Ent.ownNil' _ 29 2 (Fl encF []) rfl) ?_
        refine Run.ret2 Try.func34 rfl rfl rfl ?_
        obtain ⟨e1, e2⟩ := hbad (by rw [hok]; exact decide_eq_false (by omega))
        rw [e1, e2]
        exact ⟨_, _, rfl, (Eq.trans (frc rfl rfl) (congrArg (· * _) (asg (asg as1))))⟩
      refine Run.skip ?_
      refine Run.region ?_
      refine RunL.ok (OpOk.move rfl) rfl ?_
      refine RunL.ok (OpOk.loadS rfl rfl ti29 rfl Blk.pts rfl) rfl ?_
      refine RunL.litFl (enc := encT29) [(↑((bs.getD (4 * i) 0).toNat * 256 + (bs.getD (4 * i + 1) 0).toNat), ↑(((bs.getD (4 * i + 2) 0).toNat * 256 + (bs.getD (4 * i + 3) 0).toNat) / 32))] rfl ti29 rfl (fun _ => rfl) rfl rfl (by decide) (by decide) rfl (fun vy7 rdy7 => ?_)
      refine RunL.know (fun w s => (s.conv rfl).ownRd0) (fun rdy9 => ?_)
      refine RunL.appendF rfl ti29 rfl rfl rfl (frl (frl rfl)) (Rd.right rdy9) rfl (by decide) (by omega) (by simp only [maxLen]; omega) rfl (fun vy8 rdy8 => ?_)
      refine RunL.ok (OpOk.assign rfl) rfl ?_
      refine RunL.nil ?_
      refine Run.inBlock ?_
      refine Run.region ?_
      refine RunL.ok (OpOk.move rfl) rfl ?_
      refine RunL.ok (OpOk.addN _ 4 rfl rfl rfl rfl (by omega)) rfl ?_
      refine RunL.ok (OpOk.assign rfl) rfl ?_
      refine RunL.nil ?_
      rw [← hst, show List.map (stp bs) (List.range i) ++ [stp bs i] = List.map (stp bs) (List.range (i + 1)) by rw [List.range_succ, List.map_append]; rfl]
      refine Run.jump ((ih (i + 1, _, _) ⟨by simp; omega, rangeNext hall (by rw [hok]; exact decide_eq_true (by omega))⟩ (by simp; omega))) ⟨rfl, rfl, rfl, trivial⟩ (Grew.of (congrArg (· * _) (asg (asg as1))) (Grew.refl _))
    · obtain rfl : i = bs.length / 4 := by omega
      have e1 : unpE bs = 0 := by unfold unpE; rw [if_pos h4, if_pos hall]
      have e2 : unpL bs = List.map (stp bs) (List.range (bs.length / 4)) := by unfold unpL; rw [e1]; rfl
      have e3 : (List.map (stp bs) (List.range (bs.length / 4))).length = bs.length / 4 := by simp
      refine Run.seq ?_
      refine Run.seq ?_
      refine Run.region ?_
      refine RunL.ok (OpOk.move rfl) rfl ?_
      refine RunL.ok (OpOk.move rfl) rfl ?_
      refine RunL.ok (OpOk.lenR rfl rfl rd.left.left rfl) rfl ?_
      refine RunL.ok (OpOk.asF (OpOk.lss rfl rfl) (by omega)) rfl ?_
      refine RunL.nil ?_
      refine Run.condF rfl ?_
      refine Run.exit rfl ?_
      refine Run.seq ?_
      refine Run.region ?_
      refine RunL.ok (OpOk.move rfl) rfl ?_
      refine RunL.ok (OpOk.assign rfl) rfl ?_
      refine RunL.ok (OpOk.assign rfl) rfl ?_
      refine RunL.nil ?_
      refine Run.ret2 Try.func34 rfl rfl rfl ?_
      rw [e1, e2, e3]
      exact ⟨_, _, rfl, (congrArg (· * _) as1)⟩
  · have e1 : unpE bs = 10 := by unfold unpE; rw [if_neg h4]
    have e2 : unpL bs = [] := by unfold unpL; rw [e1]; rfl
    refine Run.seq ?_
    refine Run.region ?_
    refine RunL.ok (OpOk.assign rfl) rfl ?_
    refine RunL.ok (OpOk.assign rfl) rfl ?_
    refine RunL.nil ?_
    refine Run.seq ?_
    refine Run.seq ?_
    refine Run.region ?_
    refine RunL.ok (OpOk.move rfl) rfl ?_
    refine RunL.ok (OpOk.lenR rfl rfl rd rfl) rfl ?_
    refine RunL.ok (OpOk.remN _ 4 rfl rfl rfl rfl (by omega)) rfl ?_
    refine RunL.ok (OpOk.as (c := true) (OpOk.neq rfl rfl) (by rw [decide_eq_false (by omega)]; rfl)) rfl ?_
    refine RunL.nil ?_
    refine Run.condT rfl ?_
    refine Run.seq ?_
    refine Run.region ?_
    refine RunL.ok (OpOk.assign rfl) rfl ?_
    refine RunL.ok (OpOk.assign rfl) rfl ?_
    refine RunL.nil ?_
    refine Run.ent (Ent.ownNil' _ 29 2 (Fl encF []) rfl) ?_
    refine Run.ret2 Try.func34 rfl rfl rfl ?_
    rw [e1, e2]
    refine ⟨_, emp, rfl, ?_⟩
    rw [sep_emp]
    rfl
end Go.Proofs.Ytajjmephfoaiaaa
