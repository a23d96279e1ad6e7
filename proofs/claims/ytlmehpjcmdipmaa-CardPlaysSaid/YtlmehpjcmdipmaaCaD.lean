/- The law of power that fails, walked. -/
import Derived.Test.YtlmehpjcmdipmaaCaC
import Derived.Test.YtlmehpjcmdipmaaNst
namespace Go.Proofs.Ytlmehpjcmdipmaa
open Go Go.Proofs
set_option maxRecDepth 100000
set_option maxHeartbeats 4000000
theorem tmod_lt (a : Int) : -20 < a.tmod 20 ∧ a.tmod 20 < 20 := by
  have h1 := Int.tmod_lt_of_pos a (show (0 : Int) < 20 by decide)
  have h2 := Int.lt_tmod_of_pos a (show (0 : Int) < 20 by decide)
  omega
theorem secOf_zero (j : Nat) (hj : j ≤ 15) : secOf (List.replicate 512 0) j = List.replicate 32 0 := by
  unfold secOf
  rw [List.drop_replicate, List.take_replicate, show min 32 (512 - 32 * j) = 32 by omega]
theorem cardTears_spec {w0 : World} {u1 : Value} {ls : List (Value × List UInt8)} {n : Int} (rd : Rd w0 (old w0) u1 1 ls.length (Fl encV ls)) (al : Alls (GB w0) (old w0) ls) :
    Spec Try.prog w0 4 [u1, .int .i64 n] (old w0) (fun v' A' => v' = .bool true ∧ Grew (old w0) A') := by
  have hmax := rd.max
  have ht1 := tmod_lt n
  refine Spec.of_run [(0, u1), (1, .int .i64 n)] Try.func4 rfl (Nat.le_of_ble_eq_true rfl) (by repeat (first | exact trivial | refine ⟨rfl, ?_⟩)) ?_
  refine Run.seq ?_
  refine Run.region ?_
  refine RunL.ok (OpOk.assign rfl) rfl ?_
  refine RunL.nil ?_
  refine Run.seq ?_
  refine Run.seq ?_
  refine Run.region ?_
  refine RunL.call cal17 rfl (s17) rfl (fun vx1 Ax1 hx1 => ?_)
  obtain ⟨x2, ⟨rfl, rfl⟩⟩ := hx1
  refine RunL.ok (OpOk.not rfl) rfl ?_
  refine RunL.ok (OpOk.move rfl) rfl ?_
  refine RunL.on rfl rfl ?_
  refine RunL.ok (OpOk.move rfl) rfl ?_
  refine RunL.on rfl rfl ?_
  refine RunL.ok (OpOk.lenR rfl rfl rd.left rfl) rfl ?_
  refine RunL.on rfl rfl ?_
  refine RunL.ok (OpOk.gtr rfl rfl) rfl ?_
  refine RunL.ok (OpOk.pickF rfl rfl) rfl ?_
  refine RunL.nil ?_
  refine Run.condD rfl (fun x3 => ?_) (fun x3 => ?_)
  · refine Run.seq ?_
    refine Run.region ?_
    refine RunL.call cal17 rfl (s17) rfl (fun vx4 Ax4 hx4 => ?_)
    obtain ⟨x5, ⟨rfl, rfl⟩⟩ := hx4
    refine RunL.ok (OpOk.assign rfl) rfl ?_
    refine RunL.nil ?_
    refine Run.ret1 Try.func4 rfl rfl ?_
    exact ⟨rfl, ⟨_, (asg as1)⟩⟩
  refine Run.skip ?_
  refine Run.seq ?_
  refine Run.region ?_
  refine RunL.call cal18 rfl (s18) rfl (fun vx6 Ax6 hx6 => ?_)
  obtain ⟨x7, ⟨rfl, rfl⟩⟩ := hx6
  refine RunL.ok (OpOk.assign rfl) rfl ?_
  refine RunL.nil ?_
  refine Run.seq ?_
  refine Run.seq ?_
  refine Run.region ?_
  refine RunL.ok (OpOk.move rfl) rfl ?_
  refine RunL.ok (OpOk.eqlPN rfl rfl) rfl ?_
  refine RunL.nil ?_
  refine Run.condF rfl ?_
  refine Run.skip ?_
  refine Run.seq ?_
  refine Run.region ?_
  refine RunL.ok (OpOk.move rfl) rfl ?_
  refine RunL.ok (OpOk.rem rfl rfl (by decide) rfl) rfl ?_
  refine RunL.ok (OpOk.add rfl rfl (wrapI (by omega) (by omega))) rfl ?_
  refine RunL.ok (OpOk.rem rfl rfl (by decide) (tmodI (by omega))) rfl ?_
  refine RunL.ok (OpOk.assign rfl) rfl ?_
  refine RunL.nil ?_
  refine Run.seq ?_
  refine Run.region ?_
  refine RunL.ok (OpOk.move rfl) rfl ?_
  refine RunL.ok (OpOk.move rfl) rfl ?_
  refine RunL.call cal19 rfl (s19 rfl) rfl (fun vx8 Ax8 hx8 => ?_)
  obtain ⟨rfl, rfl⟩ := hx8
  refine RunL.nil ?_
  refine Run.seq ?_
  refine Run.seq ?_
  refine Run.region ?_
  refine RunL.ok (OpOk.assign rfl) rfl ?_
  refine RunL.nil ?_
  refine Run.block ?_
  obtain ⟨k, hk⟩ : ∃ k : Nat, (n.tmod 20 + 20) % 20 = (k : Int) := ⟨((n.tmod 20 + 20) % 20).toNat, by omega⟩
  rw [hk, show max (k : Int) (-1) = k by omega]
  have hk2 : k < 20 := by omega
  clear hk ht1
  refine Run.jump ((Run.loopJ (X := Nat × Asn × List UInt8 × Int) (fun x => [(7, .int .i64 (x.1 : Int)), (6, .int .i64 (k : Int)), (5, .pointer (some ⟨x7, 0, none⟩)), (0, u1)]) (fun x => old w0 * x.2.1 * pts x7 (.cells (B (x.2.2.1) ++ [Value.int .i64 (x.2.2.2)]).toArray 95 (0, 0))) (fun x => x.1 ≤ ls.length ∧ x.2.2.1.length = 512 ∧ x.2.2.2 = max ((k : Int) - x.1) 0 ∧ ∀ j, j ≤ 15 → secOf x.2.2.1 j = if j < k ∧ j < x.1 then laid (ls.getD j default).2 (List.replicate 32 0) else List.replicate 32 0) (fun x => ls.length - x.1) (0, x2, List.replicate 512 0, (k : Int)) ⟨Nat.zero_le _, List.length_replicate, by dsimp only; omega, fun j hj => by rw [if_neg (by dsimp only; omega)]; exact secOf_zero j hj⟩ (fun x hx ih => ?_))) ⟨rfl, rfl, rfl, rfl, trivial⟩ ((Grew.refl _))
  obtain ⟨i, J, xs, w⟩ := x
  simp only at hx ih ⊢
  obtain ⟨hi, hx, hw, hsec⟩ := hx
  rcases Nat.lt_or_ge i ls.length with hlt | hge
  · have rdi : Rd w0 (old w0) (ls.getD i default).1 1 (ls.getD i default).2.length (B (ls.getD i default).2) := al.get hlt
    have hv := Fl_V ls i hlt
    have hll := laid_length (ls.getD i default).2 (List.replicate 32 0)
    rw [List.length_replicate] at hll
    rcases Nat.lt_or_ge i k with hik | hik
    · refine Run.seq ?_
      refine Run.seq ?_
      refine Run.region ?_
      refine RunL.ok (OpOk.move rfl) rfl ?_
      refine RunL.ok (OpOk.move rfl) rfl ?_
      refine RunL.ok (OpOk.lenR rfl rfl rd.left.left rfl) rfl ?_
      refine RunL.ok (OpOk.asT (OpOk.lss rfl rfl) (by omega)) rfl ?_
      refine RunL.nil ?_
      refine Run.condT rfl ?_
      refine Run.skip ?_
      refine Run.seq ?_
      refine Run.block ?_
      refine Run.seq ?_
      refine Run.region ?_
      refine RunL.makeB (m := 32) rfl ti5 rfl rfl (by omega) rfl (fun vy1 rdy1 => ?_)
      refine RunL.ok (OpOk.assign rfl) rfl ?_
      refine RunL.nil ?_
      refine Run.seq ?_
      refine Run.region ?_
      refine RunL.ok (OpOk.move rfl) rfl ?_
      refine RunL.ok (OpOk.move rfl) rfl ?_
      refine RunL.ok (OpOk.move rfl) rfl ?_
      refine RunL.ok (OpOk.idx1N rfl ti37 rfl rd.left.left.left rfl (by omega)) rfl ?_
      refine RunL.ok (OpOk.load rfl rfl rfl (Rd.cell rd.left.left.left (by first | assumption | rfl))) rfl ?_
      refine RunL.copyB rfl ti5 rfl rfl rfl rfl rdi.left.left.left rfl (fun rdy2 => ?_)
      refine RunL.nil ?_
      refine Run.seq ?_
      refine Run.region ?_
      refine RunL.ok (OpOk.move rfl) rfl ?_
      refine RunL.ok (OpOk.move rfl) rfl ?_
      refine RunL.ok (OpOk.move rfl) rfl ?_
      refine RunL.know (fun w s => (s.conv rfl).ownRd0) (fun rdy3 => ?_)
      refine RunL.mem (frc (frl rfl) rfl) ?_
      refine RunL.call cal20 rfl (s20f (Rd.right rdy3) (by omega) (by omega) rfl (by assumption) (by omega) (by omega)) rfl (fun vy9 Ay9 hy9 => ?_)
      obtain ⟨rfl, rfl⟩ := hy9
      refine RunL.ok (OpOk.assign rfl) rfl ?_
      refine RunL.nil ?_
      refine Run.seq ?_
      refine Run.region ?_
      refine RunL.ok (OpOk.move rfl) rfl ?_
      refine RunL.ok (OpOk.asT (OpOk.eql rfl rfl) (by omega)) rfl ?_
      refine RunL.ok (OpOk.move rfl) rfl ?_
      refine RunL.ok (OpOk.move rfl) rfl ?_
      refine RunL.ok (OpOk.asT (OpOk.lss rfl rfl) (by omega)) rfl ?_
      refine RunL.ok (OpOk.neqB rfl rfl rfl) rfl ?_
      refine RunL.ok (OpOk.move rfl) rfl ?_
      refine RunL.on rfl rfl ?_
      refine RunL.ok (OpOk.move rfl) rfl ?_
      refine RunL.on rfl rfl ?_
      refine RunL.ok (OpOk.move rfl) rfl ?_
      refine RunL.on rfl rfl ?_
      refine RunL.ok (OpOk.asF (OpOk.geq rfl rfl) (by omega)) rfl ?_
      refine RunL.on rfl rfl ?_
      refine RunL.ok (OpOk.move rfl) rfl ?_
      refine RunL.off rfl rfl rfl rfl ?_
      refine RunL.off rfl rfl rfl rfl ?_
      refine RunL.on rfl rfl ?_
      refine RunL.ok (OpOk.pickF rfl rfl) rfl ?_
      refine RunL.ok (OpOk.pickF rfl rfl) rfl ?_
      refine RunL.nil ?_
      refine Run.condF rfl ?_
      refine Run.skip ?_
      refine Run.inBlock ?_
      refine Run.region ?_
      refine RunL.ok (OpOk.move rfl) rfl ?_
      refine RunL.ok (OpOk.addN _ 1 rfl rfl rfl rfl (by omega)) rfl ?_
      refine RunL.ok (OpOk.assign rfl) rfl ?_
      refine RunL.nil ?_
      have hsl := setSec_length (ys := laid (ls.getD i default).2 (List.replicate 32 0)) hx (show i ≤ 15 by omega) hll
      have hnx : ∀ j, j ≤ 15 → secOf (setSec xs i (laid (ls.getD i default).2 (List.replicate 32 0))) j = if j < k ∧ j < i + 1 then laid (ls.getD j default).2 (List.replicate 32 0) else List.replicate 32 0 := fun j hj => by
        rcases Decidable.em (j = i) with rfl | hne
        · rw [secOf_same hx hj hll, if_pos (by omega)]
        · rw [secOf_other hx (by omega) hll hne, hsec j hj]
          by_cases h1 : j < k ∧ j < i
          · rw [if_pos h1, if_pos (by omega)]
          · rw [if_neg h1, if_neg (by omega)]
      refine Run.jump ((ih (i + 1, _, setSec xs i (laid (ls.getD i default).2 (List.replicate 32 0)), w - 1) ⟨by dsimp only; omega, hsl, by dsimp only; omega, hnx⟩ (by dsimp only; omega))) ⟨rfl, rfl, rfl, rfl, trivial⟩ (Grew.of (Eq.trans (frc rfl rfl) (congrArg (· * _) (asg as1))) (Grew.refl _))
    · refine Run.seq ?_
      refine Run.seq ?_
      refine Run.region ?_
      refine RunL.ok (OpOk.move rfl) rfl ?_
      refine RunL.ok (OpOk.move rfl) rfl ?_
      refine RunL.ok (OpOk.lenR rfl rfl rd.left.left rfl) rfl ?_
      refine RunL.ok (OpOk.asT (OpOk.lss rfl rfl) (by omega)) rfl ?_
      refine RunL.nil ?_
      refine Run.condT rfl ?_
      refine Run.skip ?_
      refine Run.seq ?_
      refine Run.block ?_
      refine Run.seq ?_
      refine Run.region ?_
      refine RunL.makeB (m := 32) rfl ti5 rfl rfl (by omega) rfl (fun vy1 rdy1 => ?_)
      refine RunL.ok (OpOk.assign rfl) rfl ?_
      refine RunL.nil ?_
      refine Run.seq ?_
      refine Run.region ?_
      refine RunL.ok (OpOk.move rfl) rfl ?_
      refine RunL.ok (OpOk.move rfl) rfl ?_
      refine RunL.ok (OpOk.move rfl) rfl ?_
      refine RunL.ok (OpOk.idx1N rfl ti37 rfl rd.left.left.left rfl (by omega)) rfl ?_
      refine RunL.ok (OpOk.load rfl rfl rfl (Rd.cell rd.left.left.left (by first | assumption | rfl))) rfl ?_
      refine RunL.copyB rfl ti5 rfl rfl rfl rfl rdi.left.left.left rfl (fun rdy2 => ?_)
      refine RunL.nil ?_
      refine Run.seq ?_
      refine Run.region ?_
      refine RunL.ok (OpOk.move rfl) rfl ?_
      refine RunL.ok (OpOk.move rfl) rfl ?_
      refine RunL.ok (OpOk.move rfl) rfl ?_
      refine RunL.know (fun w s => (s.conv rfl).ownRd0) (fun rdy3 => ?_)
      refine RunL.mem (frc (frl rfl) rfl) ?_
      refine RunL.call cal20 rfl (s20d (Rd.right rdy3) (by omega) (by omega) rfl (by assumption) (by omega)) rfl (fun vy7 Ay7 hy7 => ?_)
      obtain ⟨rfl, rfl⟩ := hy7
      refine RunL.ok (OpOk.assign rfl) rfl ?_
      refine RunL.nil ?_
      refine Run.seq ?_
      refine Run.region ?_
      refine RunL.ok (OpOk.move rfl) rfl ?_
      refine RunL.ok (OpOk.asF (OpOk.eql rfl rfl) (by omega)) rfl ?_
      refine RunL.ok (OpOk.move rfl) rfl ?_
      refine RunL.ok (OpOk.move rfl) rfl ?_
      refine RunL.ok (OpOk.asF (OpOk.lss rfl rfl) (by omega)) rfl ?_
      refine RunL.ok (OpOk.neqB rfl rfl rfl) rfl ?_
      refine RunL.ok (OpOk.move rfl) rfl ?_
      refine RunL.on rfl rfl ?_
      refine RunL.ok (OpOk.move rfl) rfl ?_
      refine RunL.on rfl rfl ?_
      refine RunL.ok (OpOk.move rfl) rfl ?_
      refine RunL.on rfl rfl ?_
      refine RunL.ok (OpOk.asT (OpOk.geq rfl rfl) (by omega)) rfl ?_
      refine RunL.on rfl rfl ?_
      refine RunL.ok (OpOk.move rfl) rfl ?_
      refine RunL.on rfl rfl ?_
      refine RunL.ok (OpOk.move rfl) rfl ?_
      refine RunL.on rfl rfl ?_
      refine RunL.ok (OpOk.as (c := false) (OpOk.neq rfl rfl) (by rw [decide_eq_true (by omega)]; rfl)) rfl ?_
      refine RunL.on rfl rfl ?_
      refine RunL.ok (OpOk.pickT rfl rfl) rfl ?_
      refine RunL.ok (OpOk.pickF rfl rfl) rfl ?_
      refine RunL.nil ?_
      refine Run.condF rfl ?_
      refine Run.skip ?_
      refine Run.inBlock ?_
      refine Run.region ?_
      refine RunL.ok (OpOk.move rfl) rfl ?_
      refine RunL.ok (OpOk.addN _ 1 rfl rfl rfl rfl (by omega)) rfl ?_
      refine RunL.ok (OpOk.assign rfl) rfl ?_
      refine RunL.nil ?_
      have hnx : ∀ j, j ≤ 15 → secOf xs j = if j < k ∧ j < i + 1 then laid (ls.getD j default).2 (List.replicate 32 0) else List.replicate 32 0 := fun j hj => by
        rw [hsec j hj]
        by_cases h1 : j < k ∧ j < i
        · rw [if_pos h1, if_pos (by omega)]
        · rw [if_neg h1, if_neg (by omega)]
      refine Run.jump ((ih (i + 1, _, xs, w) ⟨by dsimp only; omega, hx, by dsimp only; omega, hnx⟩ (by dsimp only; omega))) ⟨rfl, rfl, rfl, rfl, trivial⟩ (Grew.of (congrArg (· * _) (asg as1)) (Grew.refl _))
  · obtain rfl : i = ls.length := by omega
    clear ih
    refine Run.seq ?_
    refine Run.seq ?_
    refine Run.region ?_
    refine RunL.ok (OpOk.move rfl) rfl ?_
    refine RunL.ok (OpOk.move rfl) rfl ?_
    refine RunL.ok (OpOk.lenR rfl rfl rd.left.left rfl) rfl ?_
    refine RunL.ok (OpOk.asF (OpOk.lss rfl rfl) (by omega)) rfl ?_
    refine RunL.nil ?_
    refine Run.condF rfl ?_
    refine Run.exit rfl ?_
    refine Run.seq ?_
    refine Run.seq ?_
    refine Run.region ?_
    refine RunL.ok (OpOk.assign rfl) rfl ?_
    refine RunL.nil ?_
    refine Run.block ?_
    refine Run.jump ((Run.loopJ (X := Nat × Asn) (fun x => [(10, .int .i64 (x.1 : Int)), (6, .int .i64 (k : Int)), (5, .pointer (some ⟨x7, 0, none⟩)), (0, u1)]) (fun x => old w0 * x.2 * pts x7 (.cells (B (xs) ++ [Value.int .i64 (w)]).toArray 95 (0, 0))) (fun x => x.1 ≤ 16) (fun x => 16 - x.1) (0, J) (Nat.zero_le _) (fun x hx ih => ?_))) ⟨rfl, rfl, rfl, rfl, trivial⟩ ((Grew.refl _))
    obtain ⟨i, J2⟩ := x
    simp only at hx ih ⊢
    rcases Nat.lt_or_ge i 16 with hlt | hge
    · have h1 := hsec i (by omega)
      rcases Decidable.em (i < k ∧ i < ls.length) with hc | hc
      · rw [if_pos hc] at h1
        have hs : secOf xs (Int.toNat (i : Int)) = laid (ls.getD i default).2 (List.replicate 32 0) := by rw [Int.toNat_natCast]; exact h1
        have rdi : Rd w0 (old w0) (ls.getD i default).1 1 (ls.getD i default).2.length (B (ls.getD i default).2) := al.get hc.2
        have hv := Fl_V ls i hc.2
        refine Run.seq ?_
        refine Run.seq ?_
        refine Run.region ?_
        refine RunL.ok (OpOk.move rfl) rfl ?_
        refine RunL.ok (OpOk.asT (OpOk.lss rfl rfl) (by omega)) rfl ?_
        refine RunL.nil ?_
        refine Run.condT rfl ?_
        refine Run.skip ?_
        refine Run.seq ?_
        refine Run.block ?_
        refine Run.seq ?_
        refine Run.region ?_
        refine RunL.ok (OpOk.move rfl) rfl ?_
        refine RunL.ok (OpOk.move rfl) rfl ?_
        refine RunL.call cal21 rfl (s21b (by omega) (by omega) (by assumption)) rfl (fun vz2 Az2 hz2 => ?_)
        obtain ⟨z3, ⟨rfl, rfl⟩⟩ := hz2
        refine RunL.ok (OpOk.move rfl) rfl ?_
        refine RunL.ok (OpOk.ext20 rfl) rfl ?_
        refine RunL.ok (OpOk.ext21 rfl) rfl ?_
        refine RunL.ok (OpOk.assign rfl) rfl ?_
        refine RunL.ok (OpOk.assign rfl) rfl ?_
        refine RunL.nil ?_
        refine Run.seq ?_
        refine Run.region ?_
        refine RunL.makeB (m := 32) rfl ti5 rfl rfl (by omega) rfl (fun vz4 rdz4 => ?_)
        refine RunL.ok (OpOk.assign rfl) rfl ?_
        refine RunL.nil ?_
        refine Run.seq ?_
        refine Run.seq ?_
        refine Run.region ?_
        refine RunL.ok (OpOk.move rfl) rfl ?_
        refine RunL.ok (OpOk.move rfl) rfl ?_
        refine RunL.ok (OpOk.asT (OpOk.lss rfl rfl) (by omega)) rfl ?_
        refine RunL.ok (OpOk.move rfl) rfl ?_
        refine RunL.on rfl rfl ?_
        refine RunL.ok (OpOk.move rfl) rfl ?_
        refine RunL.on rfl rfl ?_
        refine RunL.ok (OpOk.move rfl) rfl ?_
        refine RunL.on rfl rfl ?_
        refine RunL.ok (OpOk.lenR rfl rfl rd.left.left.left.left rfl) rfl ?_
        refine RunL.on rfl rfl ?_
        refine RunL.ok (OpOk.asT (OpOk.lss rfl rfl) (by omega)) rfl ?_
        refine RunL.ok (OpOk.pickT rfl rfl) rfl ?_
        refine RunL.nil ?_
        refine Run.condT rfl ?_
        refine Run.region ?_
        refine RunL.ok (OpOk.move rfl) rfl ?_
        refine RunL.ok (OpOk.move rfl) rfl ?_
        refine RunL.ok (OpOk.move rfl) rfl ?_
        refine RunL.ok (OpOk.idx1N rfl ti37 rfl rd.left.left.left.left rfl (by omega)) rfl ?_
        refine RunL.ok (OpOk.load rfl rfl rfl (Rd.cell rd.left.left.left.left (by first | assumption | rfl))) rfl ?_
        refine RunL.copyB rfl ti5 rfl rfl rfl rfl rdi.left.left.left.left rfl (fun rdz5 => ?_)
        refine RunL.nil ?_
        refine Run.seq ?_
        refine Run.region ?_
        refine RunL.ok (OpOk.move rfl) rfl ?_
        refine RunL.ok (OpOk.as (c := false) (OpOk.neq rfl rfl) (by rw [decide_eq_true (by omega)]; rfl)) rfl ?_
        refine RunL.ok (OpOk.move rfl) rfl ?_
        refine RunL.on rfl rfl ?_
        refine RunL.ok (OpOk.move rfl) rfl ?_
        refine RunL.on rfl rfl ?_
        refine RunL.know (fun w s => (s.conv (frl rfl)).ownRd0) (fun rdz6 => ?_)
        refine RunL.ok (OpOk.strOf rfl rfl rfl rfl (Rd.right rdz6).left) rfl ?_
        refine RunL.on rfl rfl ?_
        refine RunL.ok (OpOk.move rfl) rfl ?_
        refine RunL.on rfl rfl ?_
        refine RunL.know (fun w s => (s.conv rfl).ownRd0) (fun rdz7 => ?_)
        refine RunL.ok (OpOk.strOf rfl rfl rfl rfl (Rd.right rdz7)) rfl ?_
        refine RunL.on rfl rfl ?_
        refine RunL.ok (OpOk.as (c := false) (OpOk.neqSS rfl rfl) (by rw [decide_eq_true (by omega)]; rfl)) rfl ?_
        refine RunL.ok (OpOk.pickF rfl rfl) rfl ?_
        refine RunL.nil ?_
        refine Run.condF rfl ?_
        refine Run.skip ?_
        refine Run.inBlock ?_
        refine Run.region ?_
        refine RunL.ok (OpOk.move rfl) rfl ?_
        refine RunL.ok (OpOk.addN _ 1 rfl rfl rfl rfl (by omega)) rfl ?_
        refine RunL.ok (OpOk.assign rfl) rfl ?_
        refine RunL.nil ?_
        refine Run.jump ((ih (i + 1, _) (by dsimp only; omega) (by dsimp only; omega))) ⟨rfl, rfl, rfl, rfl, trivial⟩ (Grew.of (Eq.trans (frc (frl (frl rfl)) rfl) (congrArg (· * _) (asg (asg as1)))) (Grew.refl _))
      · rw [if_neg hc] at h1
        have hs : secOf xs (Int.toNat (i : Int)) = List.replicate 32 0 := by rw [Int.toNat_natCast]; exact h1
        refine Run.seq ?_
        refine Run.seq ?_
        refine Run.region ?_
        refine RunL.ok (OpOk.move rfl) rfl ?_
        refine RunL.ok (OpOk.asT (OpOk.lss rfl rfl) (by omega)) rfl ?_
        refine RunL.nil ?_
        refine Run.condT rfl ?_
        refine Run.skip ?_
        refine Run.seq ?_
        refine Run.block ?_
        refine Run.seq ?_
        refine Run.region ?_
        refine RunL.ok (OpOk.move rfl) rfl ?_
        refine RunL.ok (OpOk.move rfl) rfl ?_
        refine RunL.call cal21 rfl (s21b (by omega) (by omega) (by assumption)) rfl (fun vz2 Az2 hz2 => ?_)
        obtain ⟨z3, ⟨rfl, rfl⟩⟩ := hz2
        refine RunL.ok (OpOk.move rfl) rfl ?_
        refine RunL.ok (OpOk.ext20 rfl) rfl ?_
        refine RunL.ok (OpOk.ext21 rfl) rfl ?_
        refine RunL.ok (OpOk.assign rfl) rfl ?_
        refine RunL.ok (OpOk.assign rfl) rfl ?_
        refine RunL.nil ?_
        refine Run.seq ?_
        refine Run.region ?_
        refine RunL.makeB (m := 32) rfl ti5 rfl rfl (by omega) rfl (fun vz4 rdz4 => ?_)
        refine RunL.ok (OpOk.assign rfl) rfl ?_
        refine RunL.nil ?_
        refine Run.seq ?_
        refine Run.seq ?_
        refine Run.region ?_
        refine RunL.ok (OpOk.move rfl) rfl ?_
        refine RunL.ok (OpOk.move rfl) rfl ?_
        refine RunL.ok (OpOk.lss rfl rfl) rfl ?_
        refine RunL.ok (OpOk.move rfl) rfl ?_
        refine RunL.splitD (t := 78) rfl (fun z5 => ?_) (fun z5 => ?_)
        · refine RunL.on rfl rfl ?_
          refine RunL.ok (OpOk.move rfl) rfl ?_
          refine RunL.on rfl rfl ?_
          refine RunL.ok (OpOk.move rfl) rfl ?_
          refine RunL.on rfl rfl ?_
          refine RunL.ok (OpOk.lenR rfl rfl rd.left.left.left.left rfl) rfl ?_
          refine RunL.on rfl rfl ?_
          refine RunL.ok (OpOk.asF (OpOk.lss rfl rfl) (by omega)) rfl ?_
          refine RunL.ok (OpOk.pickT rfl rfl) rfl ?_
          refine RunL.nil ?_
          refine Run.condF rfl ?_
          refine Run.skip ?_
          refine Run.seq ?_
          refine Run.region ?_
          refine RunL.ok (OpOk.move rfl) rfl ?_
          refine RunL.ok (OpOk.as (c := false) (OpOk.neq rfl rfl) (by rw [decide_eq_true (by omega)]; rfl)) rfl ?_
          refine RunL.ok (OpOk.move rfl) rfl ?_
          refine RunL.on rfl rfl ?_
          refine RunL.ok (OpOk.move rfl) rfl ?_
          refine RunL.on rfl rfl ?_
          refine RunL.know (fun w s => (s.conv (frl rfl)).ownRd0) (fun rdz6 => ?_)
          refine RunL.ok (OpOk.strOf rfl rfl rfl rfl (Rd.right rdz6).left) rfl ?_
          refine RunL.on rfl rfl ?_
          refine RunL.ok (OpOk.move rfl) rfl ?_
          refine RunL.on rfl rfl ?_
          refine RunL.know (fun w s => (s.conv rfl).ownRd0) (fun rdz7 => ?_)
          refine RunL.ok (OpOk.strOf rfl rfl rfl rfl (Rd.right rdz7)) rfl ?_
          refine RunL.on rfl rfl ?_
          refine RunL.ok (OpOk.as (c := false) (OpOk.neqSS rfl rfl) (by rw [decide_eq_true (by omega)]; rfl)) rfl ?_
          refine RunL.ok (OpOk.pickF rfl rfl) rfl ?_
          refine RunL.nil ?_
          refine Run.condF rfl ?_
          refine Run.skip ?_
          refine Run.inBlock ?_
          refine Run.region ?_
          refine RunL.ok (OpOk.move rfl) rfl ?_
          refine RunL.ok (OpOk.addN _ 1 rfl rfl rfl rfl (by omega)) rfl ?_
          refine RunL.ok (OpOk.assign rfl) rfl ?_
          refine RunL.nil ?_
          refine Run.jump ((ih (i + 1, _) (by dsimp only; omega) (by dsimp only; omega))) ⟨rfl, rfl, rfl, rfl, trivial⟩ (Grew.of (Eq.trans (frc (frl (frl rfl)) rfl) (congrArg (· * _) (asg (asg as1)))) (Grew.refl _))
        refine RunL.off rfl rfl rfl rfl ?_
        refine RunL.off rfl rfl rfl rfl ?_
        refine RunL.off rfl rfl rfl rfl ?_
        refine RunL.off rfl rfl rfl rfl ?_
        refine RunL.ok (OpOk.pickF rfl rfl) rfl ?_
        refine RunL.nil ?_
        refine Run.condF rfl ?_
        refine Run.skip ?_
        refine Run.seq ?_
        refine Run.region ?_
        refine RunL.ok (OpOk.move rfl) rfl ?_
        refine RunL.ok (OpOk.as (c := false) (OpOk.neq rfl rfl) (by rw [decide_eq_true (by omega)]; rfl)) rfl ?_
        refine RunL.ok (OpOk.move rfl) rfl ?_
        refine RunL.on rfl rfl ?_
        refine RunL.ok (OpOk.move rfl) rfl ?_
        refine RunL.on rfl rfl ?_
        refine RunL.know (fun w s => (s.conv (frl rfl)).ownRd0) (fun rdz8 => ?_)
        refine RunL.ok (OpOk.strOf rfl rfl rfl rfl (Rd.right rdz8).left) rfl ?_
        refine RunL.on rfl rfl ?_
        refine RunL.ok (OpOk.move rfl) rfl ?_
        refine RunL.on rfl rfl ?_
        refine RunL.know (fun w s => (s.conv rfl).ownRd0) (fun rdz9 => ?_)
        refine RunL.ok (OpOk.strOf rfl rfl rfl rfl (Rd.right rdz9)) rfl ?_
        refine RunL.on rfl rfl ?_
        refine RunL.ok (OpOk.as (c := false) (OpOk.neqSS rfl rfl) (by rw [decide_eq_true (by omega)]; rfl)) rfl ?_
        refine RunL.ok (OpOk.pickF rfl rfl) rfl ?_
        refine RunL.nil ?_
        refine Run.condF rfl ?_
        refine Run.skip ?_
        refine Run.inBlock ?_
        refine Run.region ?_
        refine RunL.ok (OpOk.move rfl) rfl ?_
        refine RunL.ok (OpOk.addN _ 1 rfl rfl rfl rfl (by omega)) rfl ?_
        refine RunL.ok (OpOk.assign rfl) rfl ?_
        refine RunL.nil ?_
        refine Run.jump ((ih (i + 1, _) (by dsimp only; omega) (by dsimp only; omega))) ⟨rfl, rfl, rfl, rfl, trivial⟩ (Grew.of (Eq.trans (frc (frl (frl rfl)) rfl) (congrArg (· * _) (asg (asg as1)))) (Grew.refl _))
    · obtain rfl : i = 16 := by omega
      clear ih
      refine Run.seq ?_
      refine Run.seq ?_
      refine Run.region ?_
      refine RunL.ok (OpOk.move rfl) rfl ?_
      refine RunL.ok (OpOk.asF (OpOk.lss rfl rfl) (by omega)) rfl ?_
      refine RunL.nil ?_
      refine Run.condF rfl ?_
      refine Run.exit rfl ?_
      refine Run.seq ?_
      refine Run.region ?_
      refine RunL.ok (OpOk.assign rfl) rfl ?_
      refine RunL.nil ?_
      refine Run.ret1 Try.func4 rfl rfl ?_
      exact ⟨rfl, ⟨_, (asg as1)⟩⟩
end Go.Proofs.Ytlmehpjcmdipmaa
