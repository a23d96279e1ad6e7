/- The law LinkKeeps, walked. -/
import Derived.Test.YtegbfnibjgpbpaaLkG
namespace Go.Proofs.Ytegbfnibjgpbpaa
open Go Go.Proofs
set_option maxRecDepth 100000
set_option maxHeartbeats 4000000
section
variable {w0 : World} {A : Asn}
theorem s26a {i : Int} {n k : Nat} (h : 0 < n) (hn : n ≤ 4611686018427387904) (hk : i % (n : Int) = (k : Int)) : Spec Try.prog w0 26 [.int .i64 i, .int .i64 (n : Int)] A (fun v' A' => v' = .int .i64 (k : Int) ∧ A' = A) := by
  rw [← hk]
  exact s26 h hn
theorem only_snoc {o x : List UInt8} {L : List (List UInt8)} : (only o true (L ++ [x])).length = (only o true L).length + (if x = o then 1 else 0) := by
  simp only [only, List.filter_append, List.length_append]
  by_cases h : x = o <;> simp [h]
theorem only_del {o : List UInt8} {L : List (List UInt8)} {k : Nat} (hk : k < L.length) : (only o true (del k L)).length + (if L.getD k default = o then 1 else 0) = (only o true L).length := by
  have e : L = L.take k ++ L.getD k default :: L.drop (k + 1) := by
    rw [← drop_next hk, List.take_append_drop]
  have e2 : only o true L = only o true (L.take k) ++ only o true (L.getD k default :: L.drop (k + 1)) := by
    conv => lhs; rw [e]
    simp [only]
  rw [e2]
  simp only [only, del, List.filter_append, List.length_append, List.filter_cons]
  generalize L.getD k default = x
  by_cases h : x = o
  · simp [h]
    omega
  · simp [h]
theorem mod_nat (z : Int) {n : Nat} (h : 0 < n) : ∃ k : Nat, z % (n : Int) = (k : Int) ∧ k < n := by
  have h1 := Int.emod_nonneg z (show (n : Int) ≠ 0 by omega)
  have h2 := Int.emod_lt_of_pos z (show (0 : Int) < n by omega)
  exact ⟨(z % n).toNat, by omega, by omega⟩
theorem linkKeeps_spec {u1 u2 : Value} {o : List UInt8} {ss : List (List UInt8)} {is : List Int} (rd : Rd w0 (old w0) u1 1 ss.length (Fl encS ss)) (rd2 : Rd w0 (old w0) u2 1 is.length (I is)) (hint : ∀ z ∈ is, -9223372036854775808 ≤ z ∧ z ≤ 9223372036854775807) :
    Spec Try.prog w0 6 [u1, u2, S o] (old w0) (fun v' A' => v' = .bool true ∧ Grew (old w0) A') := by
  have l1 := only_le o true ss
  have hmx := rd2.max
  refine Spec.of_run [(0, u1), (1, u2), (2, S o)] Try.func6 rfl (Nat.le_of_ble_eq_true rfl) (by repeat (first | exact trivial | refine ⟨rfl, ?_⟩)) ?_
  refine Run.seq ?_
  refine Run.region ?_
  refine RunL.box1 rfl rfl rfl (fun bx1 => ?_)
  refine RunL.ok (OpOk.assign rfl) rfl ?_
  refine RunL.nil ?_
  refine Run.seq ?_
  refine Run.seq ?_
  refine Run.region ?_
  refine RunL.call cal14 rfl (s14) rfl (fun vx2 Ax2 hx2 => ?_)
  obtain ⟨x3, ⟨rfl, rfl⟩⟩ := hx2
  refine RunL.ok (OpOk.not rfl) rfl ?_
  refine RunL.ok (OpOk.move rfl) rfl ?_
  refine RunL.on rfl rfl ?_
  refine RunL.ok (OpOk.move rfl) rfl ?_
  refine RunL.on rfl rfl ?_
  refine RunL.ok (OpOk.lenR rfl rfl rd.left.left rfl) rfl ?_
  refine RunL.on rfl rfl ?_
  refine RunL.ok (OpOk.gtr rfl rfl) rfl ?_
  refine RunL.ok (OpOk.pickF rfl rfl) rfl ?_
  refine RunL.nil ?_
  refine Run.condD rfl (fun x4 => ?_) (fun x4 => ?_)
  · refine Run.seq ?_
    refine Run.region ?_
    refine RunL.call cal14 rfl (s14) rfl (fun vx5 Ax5 hx5 => ?_)
    obtain ⟨x6, ⟨rfl, rfl⟩⟩ := hx5
    refine RunL.ok (OpOk.assign rfl) rfl ?_
    refine RunL.nil ?_
    refine Run.ret1 Try.func6 rfl rfl ?_
    exact ⟨rfl, ⟨_, (asg (asg as1))⟩⟩
  refine Run.skip ?_
  refine Run.seq ?_
  refine Run.region ?_
  refine RunL.ok (OpOk.build rfl (fun w => run_build w 26 _ _ (by rfl))) rfl ?_
  refine RunL.box rfl rfl (fun bx7 => ?_)
  refine RunL.ent (newT26 _ _) ?_
  refine RunL.ok (OpOk.assign rfl) rfl ?_
  refine RunL.nil ?_
  refine Run.seq ?_
  refine Run.region ?_
  refine RunL.ok (OpOk.move rfl) rfl ?_
  refine RunL.ok (OpOk.move rfl) rfl ?_
  refine RunL.call cal15 rfl (s15a rd.left.left (by omega)) rfl (fun vx8 Ax8 hx8 => ?_)
  obtain ⟨x9, ⟨rfl, rfl⟩⟩ := hx8
  refine RunL.nil ?_
  refine Run.seq ?_
  refine Run.region ?_
  refine RunL.ok (OpOk.move rfl) rfl ?_
  refine RunL.ok (OpOk.load rfl rfl rfl (Blk.out Blk.pts.left.left.left _ _ (by first | rfl | assumption))) rfl ?_
  refine RunL.call cal18 rfl (s18 rd.left.left.left.left (by omega)) rfl (fun vx10 Ax10 hx10 => ?_)
  obtain ⟨x11, rfl⟩ := hx10
  refine RunL.know (fun w s => (s.conv rfl).ownRd0) (fun rdx12 => ?_)
  refine RunL.ok (OpOk.lenR rfl rfl (Rd.right rdx12) rfl) rfl ?_
  refine RunL.ok (OpOk.assign rfl) rfl ?_
  refine RunL.nil ?_
  refine Run.seq ?_
  refine Run.seq ?_
  refine Run.region ?_
  refine RunL.ok (OpOk.assign rfl) rfl ?_
  refine RunL.nil ?_
  refine Run.block ?_
  refine Run.jump ((Run.loopJ (X := Nat × Asn × Value × List (List UInt8) × Int) (fun x => [(9, .int .i64 (x.1 : Int)), (8, .int .i64 x.2.2.2.2), (7, .pointer (some ⟨bx7, 0, none⟩)), (5, .pointer (some ⟨bx1, 0, none⟩)), (1, u2)]) (fun x => old w0 * x.2.1 * pts bx1 (.cells #[S o] 9 (0, 0)) * pts bx7 (.cells #[x.2.2.1] 26 (0, 0)) * own 9 1 x.2.2.1 (x.2.2.2.1).length (Fl encS (x.2.2.2.1))) (fun x => x.1 ≤ is.length ∧ x.1 ≤ 60 ∧ x.2.2.2.1.length ≤ 100 + x.1 ∧ x.2.2.2.2 = ((only o true x.2.2.2.1).length : Int)) (fun x => is.length - x.1) (0, _, x9, ss, ((only o true ss).length : Int)) ⟨Nat.zero_le _, Nat.zero_le _, by dsimp only; omega, rfl⟩ (fun x hx ih => ?_))) ⟨rfl, rfl, rfl, rfl, rfl, trivial⟩ (Grew.of (Eq.trans (frc (frl (frl rfl)) (frc (frl (frl rfl)) (frc (frl (frl (frl rfl))) rfl))) (congrArg (· * _) (congrArg (· * _) (congrArg (· * _) (asg (asg as1)))))) (Grew.refl _))
  obtain ⟨i, J, v, L, c⟩ := x
  simp only at hx ih ⊢
  obtain ⟨hi, hi6, hL, hc⟩ := hx
  have hol := only_le o true L
  have hof := only_le o false L
  have hend1 : (only o true (only o false L)).length = 0 := by simp [only, List.filter_filter]
  have hend2 : only o true (only o true L) = only o true L := only_TT o L
  have hend3 : ((only o true (only o true L)).length : Int) = c := by rw [hend2, hc]
  rcases Nat.lt_or_ge i is.length with hlt | hge
  · rcases Nat.lt_or_ge i 60 with h60 | h60
    · have hz := hint (is.getD i 0) (getD_mem hlt)
      rcases Nat.eq_zero_or_pos L.length with h0 | h0
      · refine Run.seq ?_
        refine Run.seq ?_
        refine Run.region ?_
        refine RunL.ok (OpOk.move rfl) rfl ?_
        refine RunL.ok (OpOk.move rfl) rfl ?_
        refine RunL.ok (OpOk.lenR rfl rfl rd2.left.left.left.left rfl) rfl ?_
        refine RunL.ok (OpOk.asT (OpOk.lss rfl rfl) (by omega)) rfl ?_
        refine RunL.ok (OpOk.move rfl) rfl ?_
        refine RunL.on rfl rfl ?_
        refine RunL.ok (OpOk.move rfl) rfl ?_
        refine RunL.on rfl rfl ?_
        refine RunL.ok (OpOk.asT (OpOk.lss rfl rfl) (by omega)) rfl ?_
        refine RunL.ok (OpOk.pickT rfl rfl) rfl ?_
        refine RunL.nil ?_
        refine Run.condT rfl ?_
        refine Run.skip ?_
        refine Run.seq ?_
        refine Run.block ?_
        refine Run.seq ?_
        refine Run.region ?_
        refine RunL.ok (OpOk.move rfl) rfl ?_
        refine RunL.call cal30 rfl (s30 (by omega)) rfl (fun vy1 Ay1 hy1 => ?_)
        obtain ⟨y2, rfl⟩ := hy1
        refine RunL.ok (OpOk.assign rfl) rfl ?_
        refine RunL.nil ?_
        refine Run.seq ?_
        refine Run.seq ?_
        refine Run.region ?_
        refine RunL.ok (OpOk.move rfl) rfl ?_
        refine RunL.ok (OpOk.move rfl) rfl ?_
        refine RunL.ok (OpOk.idx1N rfl ti3 rfl rd2.left.left.left.left.left.left rfl (by omega)) rfl ?_
        refine RunL.ok (OpOk.load rfl rfl rfl (Rd.getI rd2.left.left.left.left.left.left (by omega))) rfl ?_
        refine RunL.ok (OpOk.rem rfl rfl (by decide) rfl) rfl ?_
        refine RunL.ok (OpOk.eql rfl rfl) rfl ?_
        refine RunL.ok (OpOk.move rfl) rfl ?_
        refine RunL.splitD (t := 49) rfl (fun y3 => ?_) (fun y3 => ?_)
        · refine RunL.on rfl rfl ?_
          refine RunL.ok (OpOk.move rfl) rfl ?_
          refine RunL.on rfl rfl ?_
          refine RunL.know (fun w s => (s.conv rfl).ownRd0) (fun rdy4 => ?_)
          refine RunL.ok (OpOk.lenR rfl rfl (Rd.right rdy4) rfl) rfl ?_
          refine RunL.on rfl rfl ?_
          refine RunL.ok (OpOk.asF (OpOk.gtr rfl rfl) (by omega)) rfl ?_
          refine RunL.ok (OpOk.pickT rfl rfl) rfl ?_
          refine RunL.nil ?_
          refine Run.condF rfl ?_
          refine Run.skip ?_
          refine Run.seq ?_
          refine Run.region ?_
          refine RunL.ok (OpOk.move rfl) rfl ?_
          refine RunL.ok (OpOk.move rfl) rfl ?_
          refine RunL.ok (OpOk.move rfl) rfl ?_
          refine RunL.ok (OpOk.idx1N rfl ti3 rfl rd2.left.left.left.left.left.left rfl (by omega)) rfl ?_
          refine RunL.ok (OpOk.load rfl rfl rfl (Rd.getI rd2.left.left.left.left.left.left (by omega))) rfl ?_
          refine RunL.ok (OpOk.quo rfl rfl (by decide) rfl) rfl ?_
          refine RunL.mem (frc (frl rfl) (frc (frl rfl) rfl)) ?_
          refine RunL.call cal19 rfl (s19a (by assumption)) rfl (fun vy5 Ay5 hy5 => ?_)
          obtain ⟨rfl, rfl⟩ := hy5
          refine RunL.ok (OpOk.move rfl) rfl ?_
          refine RunL.ok (OpOk.ext20 rfl) rfl ?_
          refine RunL.ok (OpOk.ext21 rfl) rfl ?_
          refine RunL.ok (OpOk.assign rfl) rfl ?_
          refine RunL.ok (OpOk.assign rfl) rfl ?_
          refine RunL.nil ?_
          refine Run.seq ?_
          refine Run.region ?_
          refine RunL.ok (OpOk.move rfl) rfl ?_
          refine RunL.ok (OpOk.move rfl) rfl ?_
          refine RunL.off rfl rfl rfl rfl ?_
          refine RunL.off rfl rfl rfl rfl ?_
          refine RunL.off rfl rfl rfl rfl ?_
          refine RunL.ok (OpOk.pickF rfl rfl) rfl ?_
          refine RunL.nil ?_
          refine Run.condF rfl ?_
          refine Run.skip ?_
          refine Run.inBlock ?_
          refine Run.region ?_
          refine RunL.ok (OpOk.move rfl) rfl ?_
          refine RunL.ok (OpOk.addN _ 1 rfl rfl rfl rfl (by omega)) rfl ?_
          refine RunL.ok (OpOk.assign rfl) rfl ?_
          refine RunL.nil ?_
          refine Run.jump ((ih (i + 1, _, _, L, c) ⟨by first | (dsimp only; omega) | (dsimp only), by first | (dsimp only; omega) | (dsimp only), by first | (dsimp only; omega) | (dsimp only), hc⟩ (by first | (dsimp only; omega) | (dsimp only)))) ⟨rfl, rfl, rfl, rfl, rfl, trivial⟩ (Grew.of (Eq.trans (frc rfl (frc rfl (frc (frl (frl rfl)) rfl))) (congrArg (· * _) (congrArg (· * _) (congrArg (· * _) (asg (asg as1)))))) (Grew.refl _))
        refine RunL.off rfl rfl rfl rfl ?_
        refine RunL.off rfl rfl rfl rfl ?_
        refine RunL.off rfl rfl rfl rfl ?_
        refine RunL.ok (OpOk.pickF rfl rfl) rfl ?_
        refine RunL.nil ?_
        refine Run.condF rfl ?_
        refine Run.skip ?_
        refine Run.seq ?_
        refine Run.region ?_
        refine RunL.ok (OpOk.move rfl) rfl ?_
        refine RunL.ok (OpOk.move rfl) rfl ?_
        refine RunL.ok (OpOk.move rfl) rfl ?_
        refine RunL.ok (OpOk.idx1N rfl ti3 rfl rd2.left.left.left.left.left.left rfl (by omega)) rfl ?_
        refine RunL.ok (OpOk.load rfl rfl rfl (Rd.getI rd2.left.left.left.left.left.left (by omega))) rfl ?_
        refine RunL.ok (OpOk.quo rfl rfl (by decide) rfl) rfl ?_
        refine RunL.mem (frc (frl rfl) (frc (frl rfl) rfl)) ?_
        refine RunL.call cal19 rfl (s19a (by assumption)) rfl (fun vy6 Ay6 hy6 => ?_)
        obtain ⟨rfl, rfl⟩ := hy6
        refine RunL.ok (OpOk.move rfl) rfl ?_
        refine RunL.ok (OpOk.ext20 rfl) rfl ?_
        refine RunL.ok (OpOk.ext21 rfl) rfl ?_
        refine RunL.ok (OpOk.assign rfl) rfl ?_
        refine RunL.ok (OpOk.assign rfl) rfl ?_
        refine RunL.nil ?_
        refine Run.seq ?_
        refine Run.region ?_
        refine RunL.ok (OpOk.move rfl) rfl ?_
        refine RunL.ok (OpOk.move rfl) rfl ?_
        refine RunL.off rfl rfl rfl rfl ?_
        refine RunL.off rfl rfl rfl rfl ?_
        refine RunL.off rfl rfl rfl rfl ?_
        refine RunL.ok (OpOk.pickF rfl rfl) rfl ?_
        refine RunL.nil ?_
        refine Run.condF rfl ?_
        refine Run.skip ?_
        refine Run.inBlock ?_
        refine Run.region ?_
        refine RunL.ok (OpOk.move rfl) rfl ?_
        refine RunL.ok (OpOk.addN _ 1 rfl rfl rfl rfl (by omega)) rfl ?_
        refine RunL.ok (OpOk.assign rfl) rfl ?_
        refine RunL.nil ?_
        refine Run.jump ((ih (i + 1, _, _, L, c) ⟨by first | (dsimp only; omega) | (dsimp only), by first | (dsimp only; omega) | (dsimp only), by first | (dsimp only; omega) | (dsimp only), hc⟩ (by first | (dsimp only; omega) | (dsimp only)))) ⟨rfl, rfl, rfl, rfl, rfl, trivial⟩ (Grew.of (Eq.trans (frc rfl (frc rfl (frc (frl (frl rfl)) rfl))) (congrArg (· * _) (congrArg (· * _) (congrArg (· * _) (asg (asg as1)))))) (Grew.refl _))
      · obtain ⟨k, hk, hkl⟩ := mod_nat (is.getD i 0) h0
        rcases Decidable.em ((is.getD i 0).tmod 2 = 0) with h2 | h2
        · have hpos : 0 < (L ++ [L.getD k default]).length := by simp
          have hlen : (L ++ [L.getD k default]).length = L.length + 1 := by simp
          obtain ⟨k2, hk2, hk2l⟩ := mod_nat (IntKind.i64.wrap ((is.getD i 0).tdiv 2)) hpos
          have es := only_snoc (o := o) (x := L.getD k default) (L := L)
          have ed := only_del (o := o) hk2l
          have hdl := del_length hk2l
          rcases Decidable.em (L.getD k default = o) with h3 | h3
          · rw [if_pos h3] at es
            rcases Decidable.em ((L ++ [L.getD k default]).getD k2 default = o) with h4 | h4
            · rw [if_pos h4] at ed
              refine Run.seq ?_
              refine Run.seq ?_
              refine Run.region ?_
              refine RunL.ok (OpOk.move rfl) rfl ?_
              refine RunL.ok (OpOk.move rfl) rfl ?_
              refine RunL.ok (OpOk.lenR rfl rfl rd2.left.left.left.left rfl) rfl ?_
              refine RunL.ok (OpOk.asT (OpOk.lss rfl rfl) (by omega)) rfl ?_
              refine RunL.ok (OpOk.move rfl) rfl ?_
              refine RunL.on rfl rfl ?_
              refine RunL.ok (OpOk.move rfl) rfl ?_
              refine RunL.on rfl rfl ?_
              refine RunL.ok (OpOk.asT (OpOk.lss rfl rfl) (by omega)) rfl ?_
              refine RunL.ok (OpOk.pickT rfl rfl) rfl ?_
              refine RunL.nil ?_
              refine Run.condT rfl ?_
              refine Run.skip ?_
              refine Run.seq ?_
              refine Run.block ?_
              refine Run.seq ?_
              refine Run.region ?_
              refine RunL.ok (OpOk.move rfl) rfl ?_
              refine RunL.call cal30 rfl (s30 (by omega)) rfl (fun vy1 Ay1 hy1 => ?_)
              obtain ⟨y2, rfl⟩ := hy1
              refine RunL.ok (OpOk.assign rfl) rfl ?_
              refine RunL.nil ?_
              refine Run.seq ?_
              refine Run.seq ?_
              refine Run.region ?_
              refine RunL.ok (OpOk.move rfl) rfl ?_
              refine RunL.ok (OpOk.move rfl) rfl ?_
              refine RunL.ok (OpOk.idx1N rfl ti3 rfl rd2.left.left.left.left.left.left rfl (by omega)) rfl ?_
              refine RunL.ok (OpOk.load rfl rfl rfl (Rd.getI rd2.left.left.left.left.left.left (by omega))) rfl ?_
              refine RunL.ok (OpOk.rem rfl rfl (by decide) rfl) rfl ?_
              refine RunL.ok (OpOk.asT (OpOk.eql rfl rfl) (by omega)) rfl ?_
              refine RunL.ok (OpOk.move rfl) rfl ?_
              refine RunL.on rfl rfl ?_
              refine RunL.ok (OpOk.move rfl) rfl ?_
              refine RunL.on rfl rfl ?_
              refine RunL.know (fun w s => (s.conv rfl).ownRd0) (fun rdy3 => ?_)
              refine RunL.ok (OpOk.lenR rfl rfl (Rd.right rdy3) rfl) rfl ?_
              refine RunL.on rfl rfl ?_
              refine RunL.ok (OpOk.asT (OpOk.gtr rfl rfl) (by omega)) rfl ?_
              refine RunL.ok (OpOk.pickT rfl rfl) rfl ?_
              refine RunL.nil ?_
              refine Run.condT rfl ?_
              refine Run.seq ?_
              refine Run.seq ?_
              refine Run.region ?_
              refine RunL.ok (OpOk.move rfl) rfl ?_
              refine RunL.ok (OpOk.move rfl) rfl ?_
              refine RunL.ok (OpOk.move rfl) rfl ?_
              refine RunL.ok (OpOk.idx1N rfl ti3 rfl rd2.left.left.left.left.left.left rfl (by omega)) rfl ?_
              refine RunL.ok (OpOk.load rfl rfl rfl (Rd.getI rd2.left.left.left.left.left.left (by omega))) rfl ?_
              refine RunL.mem (frc (frl rfl) (frc (frl rfl) rfl)) ?_
              refine RunL.call cal28 rfl (s28 (by assumption) (by omega) (by assumption)) rfl (fun vy5 Ay5 hy5 => ?_)
              obtain ⟨y6, ⟨y7, ⟨rfl, rfl⟩⟩⟩ := hy5
              refine RunL.ok (OpOk.not rfl) rfl ?_
              refine RunL.nil ?_
              refine Run.condF rfl ?_
              refine Run.skip ?_
              refine Run.seq ?_
              refine Run.know (fun w s => (s.conv rfl).ownRd0) (fun rdy8 => ?_)
              (apply Run.drawD [] (by rfl) (sep_emp _).symm; case hchk => kernel_rfl)
              refine Sd.quiet 0 _ _ rfl rfl rfl rfl rfl (QOp.ok (fun X => OpOk.move rfl)) ?_
              refine Sd.quiet 1 _ _ rfl rfl rfl rfl rfl (QOp.ok (fun X => OpOk.move rfl)) ?_
              refine Sd.quiet 2 _ _ rfl rfl rfl rfl rfl (QOp.ok (fun X => OpOk.move rfl)) ?_
              refine Sd.quiet 3 _ _ rfl rfl rfl rfl rfl (QOp.ok (fun X => OpOk.idx1N rfl ti3 rfl rd2.left.left.left.left.left.left.left.left.left rfl (by omega))) ?_
              refine Sd.quiet 4 _ _ rfl rfl rfl rfl rfl (QOp.ok (fun X => OpOk.load rfl rfl rfl (Rd.getI rd2.left.left.left.left.left.left.left.left.left (by omega)))) ?_
              refine Sd.quiet 5 _ _ rfl rfl rfl rfl rfl (QOp.ok (fun X => OpOk.move rfl)) ?_
              refine Sd.quiet 6 _ _ rfl rfl rfl rfl rfl (QOp.ok (fun X => OpOk.lenR rfl rfl (Rd.right rdy3).left.left.left.left.left rfl)) ?_
              refine Sd.quiet 7 _ _ rfl rfl rfl rfl rfl (QOp.call cal26 rfl (fun X => s26a (by assumption) (by omega) (by assumption))) ?_
              refine Sd.quiet 8 _ _ rfl rfl rfl rfl rfl (QOp.ok (fun X => OpOk.idx1N rfl ti9 rfl (Rd.right rdy3).left.left.left.left.left rfl (by omega))) ?_
              refine Sd.quiet 9 _ _ rfl rfl rfl rfl rfl (QOp.ok (fun X => OpOk.loadStr rfl rfl rfl (Rd.right rdy3).left.left.left.left.left (by omega))) ?_
              refine Sd.quiet 10 _ _ rfl rfl rfl rfl rfl (QOp.ok (fun X => OpOk.load rfl rfl rfl (Blk.out Blk.pts.left.left.left.left.left.left.left _ _ (by first | rfl | assumption)))) ?_
              refine Sd.quiet 11 _ _ rfl rfl rfl rfl rfl (QOp.ok (fun X => OpOk.asT (OpOk.eqlSS rfl rfl) (by omega))) ?_
              (apply Sd.tail; case hall => kernel_rfl)
              refine RunL.mem (fl2 (sep_emp _) (sep_emp _)) ?_
              refine RunL.nil ?_
              refine Run.condT rfl ?_
              refine Run.region ?_
              refine RunL.ok (OpOk.move rfl) rfl ?_
              refine RunL.ok (OpOk.add rfl rfl (wrapI (by omega) (by omega))) rfl ?_
              refine RunL.ok (OpOk.assign rfl) rfl ?_
              refine RunL.nil ?_
              refine Run.seq ?_
              refine Run.region ?_
              refine RunL.ok (OpOk.move rfl) rfl ?_
              refine RunL.ok (OpOk.move rfl) rfl ?_
              refine RunL.ok (OpOk.move rfl) rfl ?_
              refine RunL.ok (OpOk.idx1N rfl ti3 rfl rd2.left.left.left.left.left.left.left rfl (by omega)) rfl ?_
              refine RunL.ok (OpOk.load rfl rfl rfl (Rd.getI rd2.left.left.left.left.left.left.left (by omega))) rfl ?_
              refine RunL.ok (OpOk.quo rfl rfl (by decide) rfl) rfl ?_
              refine RunL.call cal19 rfl (s19 (by assumption) (by omega) (by assumption)) rfl (fun vy10 Ay10 hy10 => ?_)
              obtain ⟨y11, ⟨rfl, rfl⟩⟩ := hy10
              refine RunL.ok (OpOk.move rfl) rfl ?_
              refine RunL.ok (OpOk.ext20 rfl) rfl ?_
              refine RunL.ok (OpOk.ext21 rfl) rfl ?_
              refine RunL.ok (OpOk.assign rfl) rfl ?_
              refine RunL.ok (OpOk.assign rfl) rfl ?_
              refine RunL.nil ?_
              refine Run.seq ?_
              refine Run.region ?_
              refine RunL.ok (OpOk.move rfl) rfl ?_
              refine RunL.ok (OpOk.move rfl) rfl ?_
              refine RunL.on rfl rfl ?_
              refine RunL.ok (OpOk.move rfl) rfl ?_
              refine RunL.on rfl rfl ?_
              refine RunL.ok (OpOk.load rfl rfl rfl (Blk.out Blk.pts.left.left.left.left.left _ _ (by first | rfl | assumption))) rfl ?_
              refine RunL.on rfl rfl ?_
              refine RunL.ok (OpOk.asT (OpOk.eqlSS rfl rfl) (by omega)) rfl ?_
              refine RunL.ok (OpOk.pickT rfl rfl) rfl ?_
              refine RunL.nil ?_
              refine Run.condT rfl ?_
              refine Run.region ?_
              refine RunL.ok (OpOk.move rfl) rfl ?_
              refine RunL.ok (OpOk.sub rfl rfl (wrapI (by omega) (by omega))) rfl ?_
              refine RunL.ok (OpOk.assign rfl) rfl ?_
              refine RunL.nil ?_
              refine Run.inBlock ?_
              refine Run.region ?_
              refine RunL.ok (OpOk.move rfl) rfl ?_
              refine RunL.ok (OpOk.addN _ 1 rfl rfl rfl rfl (by omega)) rfl ?_
              refine RunL.ok (OpOk.assign rfl) rfl ?_
              refine RunL.nil ?_
              refine Run.jump ((ih (i + 1, _, _, del k2 (L ++ [L.getD k default]), (c + 1 - 1)) ⟨by first | (dsimp only; omega) | (dsimp only), by first | (dsimp only; omega) | (dsimp only), by first | (dsimp only; omega) | (dsimp only), by first | (dsimp only; omega) | (dsimp only)⟩ (by first | (dsimp only; omega) | (dsimp only)))) ⟨rfl, rfl, rfl, rfl, rfl, trivial⟩ (Grew.of (Eq.trans (frc rfl (frc rfl (frc (frl (frl (frl rfl))) rfl))) (congrArg (· * _) (congrArg (· * _) (congrArg (· * _) (asg (asg (asg as1))))))) (Grew.refl _))
            · rw [if_neg h4] at ed
              refine Run.seq ?_
              refine Run.seq ?_
              refine Run.region ?_
              refine RunL.ok (OpOk.move rfl) rfl ?_
              refine RunL.ok (OpOk.move rfl) rfl ?_
              refine RunL.ok (OpOk.lenR rfl rfl rd2.left.left.left.left rfl) rfl ?_
              refine RunL.ok (OpOk.asT (OpOk.lss rfl rfl) (by omega)) rfl ?_
              refine RunL.ok (OpOk.move rfl) rfl ?_
              refine RunL.on rfl rfl ?_
              refine RunL.ok (OpOk.move rfl) rfl ?_
              refine RunL.on rfl rfl ?_
              refine RunL.ok (OpOk.asT (OpOk.lss rfl rfl) (by omega)) rfl ?_
              refine RunL.ok (OpOk.pickT rfl rfl) rfl ?_
              refine RunL.nil ?_
              refine Run.condT rfl ?_
              refine Run.skip ?_
              refine Run.seq ?_
              refine Run.block ?_
              refine Run.seq ?_
              refine Run.region ?_
              refine RunL.ok (OpOk.move rfl) rfl ?_
              refine RunL.call cal30 rfl (s30 (by omega)) rfl (fun vy1 Ay1 hy1 => ?_)
              obtain ⟨y2, rfl⟩ := hy1
              refine RunL.ok (OpOk.assign rfl) rfl ?_
              refine RunL.nil ?_
              refine Run.seq ?_
              refine Run.seq ?_
              refine Run.region ?_
              refine RunL.ok (OpOk.move rfl) rfl ?_
              refine RunL.ok (OpOk.move rfl) rfl ?_
              refine RunL.ok (OpOk.idx1N rfl ti3 rfl rd2.left.left.left.left.left.left rfl (by omega)) rfl ?_
              refine RunL.ok (OpOk.load rfl rfl rfl (Rd.getI rd2.left.left.left.left.left.left (by omega))) rfl ?_
              refine RunL.ok (OpOk.rem rfl rfl (by decide) rfl) rfl ?_
              refine RunL.ok (OpOk.asT (OpOk.eql rfl rfl) (by omega)) rfl ?_
              refine RunL.ok (OpOk.move rfl) rfl ?_
              refine RunL.on rfl rfl ?_
              refine RunL.ok (OpOk.move rfl) rfl ?_
              refine RunL.on rfl rfl ?_
              refine RunL.know (fun w s => (s.conv rfl).ownRd0) (fun rdy3 => ?_)
              refine RunL.ok (OpOk.lenR rfl rfl (Rd.right rdy3) rfl) rfl ?_
              refine RunL.on rfl rfl ?_
              refine RunL.ok (OpOk.asT (OpOk.gtr rfl rfl) (by omega)) rfl ?_
              refine RunL.ok (OpOk.pickT rfl rfl) rfl ?_
              refine RunL.nil ?_
              refine Run.condT rfl ?_
              refine Run.seq ?_
              refine Run.seq ?_
              refine Run.region ?_
              refine RunL.ok (OpOk.move rfl) rfl ?_
              refine RunL.ok (OpOk.move rfl) rfl ?_
              refine RunL.ok (OpOk.move rfl) rfl ?_
              refine RunL.ok (OpOk.idx1N rfl ti3 rfl rd2.left.left.left.left.left.left rfl (by omega)) rfl ?_
              refine RunL.ok (OpOk.load rfl rfl rfl (Rd.getI rd2.left.left.left.left.left.left (by omega))) rfl ?_
              refine RunL.mem (frc (frl rfl) (frc (frl rfl) rfl)) ?_
              refine RunL.call cal28 rfl (s28 (by assumption) (by omega) (by assumption)) rfl (fun vy5 Ay5 hy5 => ?_)
              obtain ⟨y6, ⟨y7, ⟨rfl, rfl⟩⟩⟩ := hy5
              refine RunL.ok (OpOk.not rfl) rfl ?_
              refine RunL.nil ?_
              refine Run.condF rfl ?_
              refine Run.skip ?_
              refine Run.seq ?_
              refine Run.know (fun w s => (s.conv rfl).ownRd0) (fun rdy8 => ?_)
              (apply Run.drawD [] (by rfl) (sep_emp _).symm; case hchk => kernel_rfl)
              refine Sd.quiet 0 _ _ rfl rfl rfl rfl rfl (QOp.ok (fun X => OpOk.move rfl)) ?_
              refine Sd.quiet 1 _ _ rfl rfl rfl rfl rfl (QOp.ok (fun X => OpOk.move rfl)) ?_
              refine Sd.quiet 2 _ _ rfl rfl rfl rfl rfl (QOp.ok (fun X => OpOk.move rfl)) ?_
              refine Sd.quiet 3 _ _ rfl rfl rfl rfl rfl (QOp.ok (fun X => OpOk.idx1N rfl ti3 rfl rd2.left.left.left.left.left.left.left.left.left rfl (by omega))) ?_
              refine Sd.quiet 4 _ _ rfl rfl rfl rfl rfl (QOp.ok (fun X => OpOk.load rfl rfl rfl (Rd.getI rd2.left.left.left.left.left.left.left.left.left (by omega)))) ?_
              refine Sd.quiet 5 _ _ rfl rfl rfl rfl rfl (QOp.ok (fun X => OpOk.move rfl)) ?_
              refine Sd.quiet 6 _ _ rfl rfl rfl rfl rfl (QOp.ok (fun X => OpOk.lenR rfl rfl (Rd.right rdy3).left.left.left.left.left rfl)) ?_
              refine Sd.quiet 7 _ _ rfl rfl rfl rfl rfl (QOp.call cal26 rfl (fun X => s26a (by assumption) (by omega) (by assumption))) ?_
              refine Sd.quiet 8 _ _ rfl rfl rfl rfl rfl (QOp.ok (fun X => OpOk.idx1N rfl ti9 rfl (Rd.right rdy3).left.left.left.left.left rfl (by omega))) ?_
              refine Sd.quiet 9 _ _ rfl rfl rfl rfl rfl (QOp.ok (fun X => OpOk.loadStr rfl rfl rfl (Rd.right rdy3).left.left.left.left.left (by omega))) ?_
              refine Sd.quiet 10 _ _ rfl rfl rfl rfl rfl (QOp.ok (fun X => OpOk.load rfl rfl rfl (Blk.out Blk.pts.left.left.left.left.left.left.left _ _ (by first | rfl | assumption)))) ?_
              refine Sd.quiet 11 _ _ rfl rfl rfl rfl rfl (QOp.ok (fun X => OpOk.asT (OpOk.eqlSS rfl rfl) (by omega))) ?_
              (apply Sd.tail; case hall => kernel_rfl)
              refine RunL.mem (fl2 (sep_emp _) (sep_emp _)) ?_
              refine RunL.nil ?_
              refine Run.condT rfl ?_
              refine Run.region ?_
              refine RunL.ok (OpOk.move rfl) rfl ?_
              refine RunL.ok (OpOk.add rfl rfl (wrapI (by omega) (by omega))) rfl ?_
              refine RunL.ok (OpOk.assign rfl) rfl ?_
              refine RunL.nil ?_
              refine Run.seq ?_
              refine Run.region ?_
              refine RunL.ok (OpOk.move rfl) rfl ?_
              refine RunL.ok (OpOk.move rfl) rfl ?_
              refine RunL.ok (OpOk.move rfl) rfl ?_
              refine RunL.ok (OpOk.idx1N rfl ti3 rfl rd2.left.left.left.left.left.left.left rfl (by omega)) rfl ?_
              refine RunL.ok (OpOk.load rfl rfl rfl (Rd.getI rd2.left.left.left.left.left.left.left (by omega))) rfl ?_
              refine RunL.ok (OpOk.quo rfl rfl (by decide) rfl) rfl ?_
              refine RunL.call cal19 rfl (s19 (by assumption) (by omega) (by assumption)) rfl (fun vy10 Ay10 hy10 => ?_)
              obtain ⟨y11, ⟨rfl, rfl⟩⟩ := hy10
              refine RunL.ok (OpOk.move rfl) rfl ?_
              refine RunL.ok (OpOk.ext20 rfl) rfl ?_
              refine RunL.ok (OpOk.ext21 rfl) rfl ?_
              refine RunL.ok (OpOk.assign rfl) rfl ?_
              refine RunL.ok (OpOk.assign rfl) rfl ?_
              refine RunL.nil ?_
              refine Run.seq ?_
              refine Run.region ?_
              refine RunL.ok (OpOk.move rfl) rfl ?_
              refine RunL.ok (OpOk.move rfl) rfl ?_
              refine RunL.on rfl rfl ?_
              refine RunL.ok (OpOk.move rfl) rfl ?_
              refine RunL.on rfl rfl ?_
              refine RunL.ok (OpOk.load rfl rfl rfl (Blk.out Blk.pts.left.left.left.left.left _ _ (by first | rfl | assumption))) rfl ?_
              refine RunL.on rfl rfl ?_
              refine RunL.ok (OpOk.asF (OpOk.eqlSS rfl rfl) (by omega)) rfl ?_
              refine RunL.ok (OpOk.pickT rfl rfl) rfl ?_
              refine RunL.nil ?_
              refine Run.condF rfl ?_
              refine Run.skip ?_
              refine Run.inBlock ?_
              refine Run.region ?_
              refine RunL.ok (OpOk.move rfl) rfl ?_
              refine RunL.ok (OpOk.addN _ 1 rfl rfl rfl rfl (by omega)) rfl ?_
              refine RunL.ok (OpOk.assign rfl) rfl ?_
              refine RunL.nil ?_
              refine Run.jump ((ih (i + 1, _, _, del k2 (L ++ [L.getD k default]), (c + 1)) ⟨by first | (dsimp only; omega) | (dsimp only), by first | (dsimp only; omega) | (dsimp only), by first | (dsimp only; omega) | (dsimp only), by first | (dsimp only; omega) | (dsimp only)⟩ (by first | (dsimp only; omega) | (dsimp only)))) ⟨rfl, rfl, rfl, rfl, rfl, trivial⟩ (Grew.of (Eq.trans (frc rfl (frc rfl (frc (frl (frl (frl rfl))) rfl))) (congrArg (· * _) (congrArg (· * _) (congrArg (· * _) (asg (asg (asg as1))))))) (Grew.refl _))
          · rw [if_neg h3] at es
            rcases Decidable.em ((L ++ [L.getD k default]).getD k2 default = o) with h4 | h4
            · rw [if_pos h4] at ed
              refine Run.seq ?_
              refine Run.seq ?_
              refine Run.region ?_
              refine RunL.ok (OpOk.move rfl) rfl ?_
              refine RunL.ok (OpOk.move rfl) rfl ?_
              refine RunL.ok (OpOk.lenR rfl rfl rd2.left.left.left.left rfl) rfl ?_
              refine RunL.ok (OpOk.asT (OpOk.lss rfl rfl) (by omega)) rfl ?_
              refine RunL.ok (OpOk.move rfl) rfl ?_
              refine RunL.on rfl rfl ?_
              refine RunL.ok (OpOk.move rfl) rfl ?_
              refine RunL.on rfl rfl ?_
              refine RunL.ok (OpOk.asT (OpOk.lss rfl rfl) (by omega)) rfl ?_
              refine RunL.ok (OpOk.pickT rfl rfl) rfl ?_
              refine RunL.nil ?_
              refine Run.condT rfl ?_
              refine Run.skip ?_
              refine Run.seq ?_
              refine Run.block ?_
              refine Run.seq ?_
              refine Run.region ?_
              refine RunL.ok (OpOk.move rfl) rfl ?_
              refine RunL.call cal30 rfl (s30 (by omega)) rfl (fun vy1 Ay1 hy1 => ?_)
              obtain ⟨y2, rfl⟩ := hy1
              refine RunL.ok (OpOk.assign rfl) rfl ?_
              refine RunL.nil ?_
              refine Run.seq ?_
              refine Run.seq ?_
              refine Run.region ?_
              refine RunL.ok (OpOk.move rfl) rfl ?_
              refine RunL.ok (OpOk.move rfl) rfl ?_
              refine RunL.ok (OpOk.idx1N rfl ti3 rfl rd2.left.left.left.left.left.left rfl (by omega)) rfl ?_
              refine RunL.ok (OpOk.load rfl rfl rfl (Rd.getI rd2.left.left.left.left.left.left (by omega))) rfl ?_
              refine RunL.ok (OpOk.rem rfl rfl (by decide) rfl) rfl ?_
              refine RunL.ok (OpOk.asT (OpOk.eql rfl rfl) (by omega)) rfl ?_
              refine RunL.ok (OpOk.move rfl) rfl ?_
              refine RunL.on rfl rfl ?_
              refine RunL.ok (OpOk.move rfl) rfl ?_
              refine RunL.on rfl rfl ?_
              refine RunL.know (fun w s => (s.conv rfl).ownRd0) (fun rdy3 => ?_)
              refine RunL.ok (OpOk.lenR rfl rfl (Rd.right rdy3) rfl) rfl ?_
              refine RunL.on rfl rfl ?_
              refine RunL.ok (OpOk.asT (OpOk.gtr rfl rfl) (by omega)) rfl ?_
              refine RunL.ok (OpOk.pickT rfl rfl) rfl ?_
              refine RunL.nil ?_
              refine Run.condT rfl ?_
              refine Run.seq ?_
              refine Run.seq ?_
              refine Run.region ?_
              refine RunL.ok (OpOk.move rfl) rfl ?_
              refine RunL.ok (OpOk.move rfl) rfl ?_
              refine RunL.ok (OpOk.move rfl) rfl ?_
              refine RunL.ok (OpOk.idx1N rfl ti3 rfl rd2.left.left.left.left.left.left rfl (by omega)) rfl ?_
              refine RunL.ok (OpOk.load rfl rfl rfl (Rd.getI rd2.left.left.left.left.left.left (by omega))) rfl ?_
              refine RunL.mem (frc (frl rfl) (frc (frl rfl) rfl)) ?_
              refine RunL.call cal28 rfl (s28 (by assumption) (by omega) (by assumption)) rfl (fun vy5 Ay5 hy5 => ?_)
              obtain ⟨y6, ⟨y7, ⟨rfl, rfl⟩⟩⟩ := hy5
              refine RunL.ok (OpOk.not rfl) rfl ?_
              refine RunL.nil ?_
              refine Run.condF rfl ?_
              refine Run.skip ?_
              refine Run.seq ?_
              refine Run.know (fun w s => (s.conv rfl).ownRd0) (fun rdy8 => ?_)
              (apply Run.drawD [] (by rfl) (sep_emp _).symm; case hchk => kernel_rfl)
              refine Sd.quiet 0 _ _ rfl rfl rfl rfl rfl (QOp.ok (fun X => OpOk.move rfl)) ?_
              refine Sd.quiet 1 _ _ rfl rfl rfl rfl rfl (QOp.ok (fun X => OpOk.move rfl)) ?_
              refine Sd.quiet 2 _ _ rfl rfl rfl rfl rfl (QOp.ok (fun X => OpOk.move rfl)) ?_
              refine Sd.quiet 3 _ _ rfl rfl rfl rfl rfl (QOp.ok (fun X => OpOk.idx1N rfl ti3 rfl rd2.left.left.left.left.left.left.left.left.left rfl (by omega))) ?_
              refine Sd.quiet 4 _ _ rfl rfl rfl rfl rfl (QOp.ok (fun X => OpOk.load rfl rfl rfl (Rd.getI rd2.left.left.left.left.left.left.left.left.left (by omega)))) ?_
              refine Sd.quiet 5 _ _ rfl rfl rfl rfl rfl (QOp.ok (fun X => OpOk.move rfl)) ?_
              refine Sd.quiet 6 _ _ rfl rfl rfl rfl rfl (QOp.ok (fun X => OpOk.lenR rfl rfl (Rd.right rdy3).left.left.left.left.left rfl)) ?_
              refine Sd.quiet 7 _ _ rfl rfl rfl rfl rfl (QOp.call cal26 rfl (fun X => s26a (by assumption) (by omega) (by assumption))) ?_
              refine Sd.quiet 8 _ _ rfl rfl rfl rfl rfl (QOp.ok (fun X => OpOk.idx1N rfl ti9 rfl (Rd.right rdy3).left.left.left.left.left rfl (by omega))) ?_
              refine Sd.quiet 9 _ _ rfl rfl rfl rfl rfl (QOp.ok (fun X => OpOk.loadStr rfl rfl rfl (Rd.right rdy3).left.left.left.left.left (by omega))) ?_
              refine Sd.quiet 10 _ _ rfl rfl rfl rfl rfl (QOp.ok (fun X => OpOk.load rfl rfl rfl (Blk.out Blk.pts.left.left.left.left.left.left.left _ _ (by first | rfl | assumption)))) ?_
              refine Sd.quiet 11 _ _ rfl rfl rfl rfl rfl (QOp.ok (fun X => OpOk.asF (OpOk.eqlSS rfl rfl) (by omega))) ?_
              (apply Sd.tail; case hall => kernel_rfl)
              refine RunL.mem (fl2 (sep_emp _) (sep_emp _)) ?_
              refine RunL.nil ?_
              refine Run.condF rfl ?_
              refine Run.skip ?_
              refine Run.seq ?_
              refine Run.region ?_
              refine RunL.ok (OpOk.move rfl) rfl ?_
              refine RunL.ok (OpOk.move rfl) rfl ?_
              refine RunL.ok (OpOk.move rfl) rfl ?_
              refine RunL.ok (OpOk.idx1N rfl ti3 rfl rd2.left.left.left.left.left.left.left rfl (by omega)) rfl ?_
              refine RunL.ok (OpOk.load rfl rfl rfl (Rd.getI rd2.left.left.left.left.left.left.left (by omega))) rfl ?_
              refine RunL.ok (OpOk.quo rfl rfl (by decide) rfl) rfl ?_
              refine RunL.call cal19 rfl (s19 (by assumption) (by omega) (by assumption)) rfl (fun vy10 Ay10 hy10 => ?_)
              obtain ⟨y11, ⟨rfl, rfl⟩⟩ := hy10
              refine RunL.ok (OpOk.move rfl) rfl ?_
              refine RunL.ok (OpOk.ext20 rfl) rfl ?_
              refine RunL.ok (OpOk.ext21 rfl) rfl ?_
              refine RunL.ok (OpOk.assign rfl) rfl ?_
              refine RunL.ok (OpOk.assign rfl) rfl ?_
              refine RunL.nil ?_
              refine Run.seq ?_
              refine Run.region ?_
              refine RunL.ok (OpOk.move rfl) rfl ?_
              refine RunL.ok (OpOk.move rfl) rfl ?_
              refine RunL.on rfl rfl ?_
              refine RunL.ok (OpOk.move rfl) rfl ?_
              refine RunL.on rfl rfl ?_
              refine RunL.ok (OpOk.load rfl rfl rfl (Blk.out Blk.pts.left.left.left.left.left _ _ (by first | rfl | assumption))) rfl ?_
              refine RunL.on rfl rfl ?_
              refine RunL.ok (OpOk.asT (OpOk.eqlSS rfl rfl) (by omega)) rfl ?_
              refine RunL.ok (OpOk.pickT rfl rfl) rfl ?_
              refine RunL.nil ?_
              refine Run.condT rfl ?_
              refine Run.region ?_
              refine RunL.ok (OpOk.move rfl) rfl ?_
              refine RunL.ok (OpOk.sub rfl rfl (wrapI (by omega) (by omega))) rfl ?_
              refine RunL.ok (OpOk.assign rfl) rfl ?_
              refine RunL.nil ?_
              refine Run.inBlock ?_
              refine Run.region ?_
              refine RunL.ok (OpOk.move rfl) rfl ?_
              refine RunL.ok (OpOk.addN _ 1 rfl rfl rfl rfl (by omega)) rfl ?_
              refine RunL.ok (OpOk.assign rfl) rfl ?_
              refine RunL.nil ?_
              refine Run.jump ((ih (i + 1, _, _, del k2 (L ++ [L.getD k default]), (c - 1)) ⟨by first | (dsimp only; omega) | (dsimp only), by first | (dsimp only; omega) | (dsimp only), by first | (dsimp only; omega) | (dsimp only), by first | (dsimp only; omega) | (dsimp only)⟩ (by first | (dsimp only; omega) | (dsimp only)))) ⟨rfl, rfl, rfl, rfl, rfl, trivial⟩ (Grew.of (Eq.trans (frc rfl (frc rfl (frc (frl (frl (frl rfl))) rfl))) (congrArg (· * _) (congrArg (· * _) (congrArg (· * _) (asg (asg (asg as1))))))) (Grew.refl _))
            · rw [if_neg h4] at ed
              refine Run.seq ?_
              refine Run.seq ?_
              refine Run.region ?_
              refine RunL.ok (OpOk.move rfl) rfl ?_
              refine RunL.ok (OpOk.move rfl) rfl ?_
              refine RunL.ok (OpOk.lenR rfl rfl rd2.left.left.left.left rfl) rfl ?_
              refine RunL.ok (OpOk.asT (OpOk.lss rfl rfl) (by omega)) rfl ?_
              refine RunL.ok (OpOk.move rfl) rfl ?_
              refine RunL.on rfl rfl ?_
              refine RunL.ok (OpOk.move rfl) rfl ?_
              refine RunL.on rfl rfl ?_
              refine RunL.ok (OpOk.asT (OpOk.lss rfl rfl) (by omega)) rfl ?_
              refine RunL.ok (OpOk.pickT rfl rfl) rfl ?_
              refine RunL.nil ?_
              refine Run.condT rfl ?_
              refine Run.skip ?_
              refine Run.seq ?_
              refine Run.block ?_
              refine Run.seq ?_
              refine Run.region ?_
              refine RunL.ok (OpOk.move rfl) rfl ?_
              refine RunL.call cal30 rfl (s30 (by omega)) rfl (fun vy1 Ay1 hy1 => ?_)
              obtain ⟨y2, rfl⟩ := hy1
              refine RunL.ok (OpOk.assign rfl) rfl ?_
              refine RunL.nil ?_
              refine Run.seq ?_
              refine Run.seq ?_
              refine Run.region ?_
              refine RunL.ok (OpOk.move rfl) rfl ?_
              refine RunL.ok (OpOk.move rfl) rfl ?_
              refine RunL.ok (OpOk.idx1N rfl ti3 rfl rd2.left.left.left.left.left.left rfl (by omega)) rfl ?_
              refine RunL.ok (OpOk.load rfl rfl rfl (Rd.getI rd2.left.left.left.left.left.left (by omega))) rfl ?_
              refine RunL.ok (OpOk.rem rfl rfl (by decide) rfl) rfl ?_
              refine RunL.ok (OpOk.asT (OpOk.eql rfl rfl) (by omega)) rfl ?_
              refine RunL.ok (OpOk.move rfl) rfl ?_
              refine RunL.on rfl rfl ?_
              refine RunL.ok (OpOk.move rfl) rfl ?_
              refine RunL.on rfl rfl ?_
              refine RunL.know (fun w s => (s.conv rfl).ownRd0) (fun rdy3 => ?_)
              refine RunL.ok (OpOk.lenR rfl rfl (Rd.right rdy3) rfl) rfl ?_
              refine RunL.on rfl rfl ?_
              refine RunL.ok (OpOk.asT (OpOk.gtr rfl rfl) (by omega)) rfl ?_
              refine RunL.ok (OpOk.pickT rfl rfl) rfl ?_
              refine RunL.nil ?_
              refine Run.condT rfl ?_
              refine Run.seq ?_
              refine Run.seq ?_
              refine Run.region ?_
              refine RunL.ok (OpOk.move rfl) rfl ?_
              refine RunL.ok (OpOk.move rfl) rfl ?_
              refine RunL.ok (OpOk.move rfl) rfl ?_
              refine RunL.ok (OpOk.idx1N rfl ti3 rfl rd2.left.left.left.left.left.left rfl (by omega)) rfl ?_
              refine RunL.ok (OpOk.load rfl rfl rfl (Rd.getI rd2.left.left.left.left.left.left (by omega))) rfl ?_
              refine RunL.mem (frc (frl rfl) (frc (frl rfl) rfl)) ?_
              refine RunL.call cal28 rfl (s28 (by assumption) (by omega) (by assumption)) rfl (fun vy5 Ay5 hy5 => ?_)
              obtain ⟨y6, ⟨y7, ⟨rfl, rfl⟩⟩⟩ := hy5
              refine RunL.ok (OpOk.not rfl) rfl ?_
              refine RunL.nil ?_
              refine Run.condF rfl ?_
              refine Run.skip ?_
              refine Run.seq ?_
              refine Run.know (fun w s => (s.conv rfl).ownRd0) (fun rdy8 => ?_)
              (apply Run.drawD [] (by rfl) (sep_emp _).symm; case hchk => kernel_rfl)
              refine Sd.quiet 0 _ _ rfl rfl rfl rfl rfl (QOp.ok (fun X => OpOk.move rfl)) ?_
              refine Sd.quiet 1 _ _ rfl rfl rfl rfl rfl (QOp.ok (fun X => OpOk.move rfl)) ?_
              refine Sd.quiet 2 _ _ rfl rfl rfl rfl rfl (QOp.ok (fun X => OpOk.move rfl)) ?_
              refine Sd.quiet 3 _ _ rfl rfl rfl rfl rfl (QOp.ok (fun X => OpOk.idx1N rfl ti3 rfl rd2.left.left.left.left.left.left.left.left.left rfl (by omega))) ?_
              refine Sd.quiet 4 _ _ rfl rfl rfl rfl rfl (QOp.ok (fun X => OpOk.load rfl rfl rfl (Rd.getI rd2.left.left.left.left.left.left.left.left.left (by omega)))) ?_
              refine Sd.quiet 5 _ _ rfl rfl rfl rfl rfl (QOp.ok (fun X => OpOk.move rfl)) ?_
              refine Sd.quiet 6 _ _ rfl rfl rfl rfl rfl (QOp.ok (fun X => OpOk.lenR rfl rfl (Rd.right rdy3).left.left.left.left.left rfl)) ?_
              refine Sd.quiet 7 _ _ rfl rfl rfl rfl rfl (QOp.call cal26 rfl (fun X => s26a (by assumption) (by omega) (by assumption))) ?_
              refine Sd.quiet 8 _ _ rfl rfl rfl rfl rfl (QOp.ok (fun X => OpOk.idx1N rfl ti9 rfl (Rd.right rdy3).left.left.left.left.left rfl (by omega))) ?_
              refine Sd.quiet 9 _ _ rfl rfl rfl rfl rfl (QOp.ok (fun X => OpOk.loadStr rfl rfl rfl (Rd.right rdy3).left.left.left.left.left (by omega))) ?_
              refine Sd.quiet 10 _ _ rfl rfl rfl rfl rfl (QOp.ok (fun X => OpOk.load rfl rfl rfl (Blk.out Blk.pts.left.left.left.left.left.left.left _ _ (by first | rfl | assumption)))) ?_
              refine Sd.quiet 11 _ _ rfl rfl rfl rfl rfl (QOp.ok (fun X => OpOk.asF (OpOk.eqlSS rfl rfl) (by omega))) ?_
              (apply Sd.tail; case hall => kernel_rfl)
              refine RunL.mem (fl2 (sep_emp _) (sep_emp _)) ?_
              refine RunL.nil ?_
              refine Run.condF rfl ?_
              refine Run.skip ?_
              refine Run.seq ?_
              refine Run.region ?_
              refine RunL.ok (OpOk.move rfl) rfl ?_
              refine RunL.ok (OpOk.move rfl) rfl ?_
              refine RunL.ok (OpOk.move rfl) rfl ?_
              refine RunL.ok (OpOk.idx1N rfl ti3 rfl rd2.left.left.left.left.left.left.left rfl (by omega)) rfl ?_
              refine RunL.ok (OpOk.load rfl rfl rfl (Rd.getI rd2.left.left.left.left.left.left.left (by omega))) rfl ?_
              refine RunL.ok (OpOk.quo rfl rfl (by decide) rfl) rfl ?_
              refine RunL.call cal19 rfl (s19 (by assumption) (by omega) (by assumption)) rfl (fun vy10 Ay10 hy10 => ?_)
              obtain ⟨y11, ⟨rfl, rfl⟩⟩ := hy10
              refine RunL.ok (OpOk.move rfl) rfl ?_
              refine RunL.ok (OpOk.ext20 rfl) rfl ?_
              refine RunL.ok (OpOk.ext21 rfl) rfl ?_
              refine RunL.ok (OpOk.assign rfl) rfl ?_
              refine RunL.ok (OpOk.assign rfl) rfl ?_
              refine RunL.nil ?_
              refine Run.seq ?_
              refine Run.region ?_
              refine RunL.ok (OpOk.move rfl) rfl ?_
              refine RunL.ok (OpOk.move rfl) rfl ?_
              refine RunL.on rfl rfl ?_
              refine RunL.ok (OpOk.move rfl) rfl ?_
              refine RunL.on rfl rfl ?_
              refine RunL.ok (OpOk.load rfl rfl rfl (Blk.out Blk.pts.left.left.left.left.left _ _ (by first | rfl | assumption))) rfl ?_
              refine RunL.on rfl rfl ?_
              refine RunL.ok (OpOk.asF (OpOk.eqlSS rfl rfl) (by omega)) rfl ?_
              refine RunL.ok (OpOk.pickT rfl rfl) rfl ?_
              refine RunL.nil ?_
              refine Run.condF rfl ?_
              refine Run.skip ?_
              refine Run.inBlock ?_
              refine Run.region ?_
              refine RunL.ok (OpOk.move rfl) rfl ?_
              refine RunL.ok (OpOk.addN _ 1 rfl rfl rfl rfl (by omega)) rfl ?_
              refine RunL.ok (OpOk.assign rfl) rfl ?_
              refine RunL.nil ?_
              refine Run.jump ((ih (i + 1, _, _, del k2 (L ++ [L.getD k default]), c) ⟨by first | (dsimp only; omega) | (dsimp only), by first | (dsimp only; omega) | (dsimp only), by first | (dsimp only; omega) | (dsimp only), by first | (dsimp only; omega) | (dsimp only)⟩ (by first | (dsimp only; omega) | (dsimp only)))) ⟨rfl, rfl, rfl, rfl, rfl, trivial⟩ (Grew.of (Eq.trans (frc rfl (frc rfl (frc (frl (frl (frl rfl))) rfl))) (congrArg (· * _) (congrArg (· * _) (congrArg (· * _) (asg (asg (asg as1))))))) (Grew.refl _))
        · obtain ⟨k2, hk2, hk2l⟩ := mod_nat (IntKind.i64.wrap ((is.getD i 0).tdiv 2)) h0
          have ed := only_del (o := o) hk2l
          have hdl := del_length hk2l
          rcases Decidable.em (L.getD k2 default = o) with h4 | h4
          · rw [if_pos h4] at ed
            refine Run.seq ?_
            refine Run.seq ?_
            refine Run.region ?_
            refine RunL.ok (OpOk.move rfl) rfl ?_
            refine RunL.ok (OpOk.move rfl) rfl ?_
            refine RunL.ok (OpOk.lenR rfl rfl rd2.left.left.left.left rfl) rfl ?_
            refine RunL.ok (OpOk.asT (OpOk.lss rfl rfl) (by omega)) rfl ?_
            refine RunL.ok (OpOk.move rfl) rfl ?_
            refine RunL.on rfl rfl ?_
            refine RunL.ok (OpOk.move rfl) rfl ?_
            refine RunL.on rfl rfl ?_
            refine RunL.ok (OpOk.asT (OpOk.lss rfl rfl) (by omega)) rfl ?_
            refine RunL.ok (OpOk.pickT rfl rfl) rfl ?_
            refine RunL.nil ?_
            refine Run.condT rfl ?_
            refine Run.skip ?_
            refine Run.seq ?_
            refine Run.block ?_
            refine Run.seq ?_
            refine Run.region ?_
            refine RunL.ok (OpOk.move rfl) rfl ?_
            refine RunL.call cal30 rfl (s30 (by omega)) rfl (fun vy1 Ay1 hy1 => ?_)
            obtain ⟨y2, rfl⟩ := hy1
            refine RunL.ok (OpOk.assign rfl) rfl ?_
            refine RunL.nil ?_
            refine Run.seq ?_
            refine Run.seq ?_
            refine Run.region ?_
            refine RunL.ok (OpOk.move rfl) rfl ?_
            refine RunL.ok (OpOk.move rfl) rfl ?_
            refine RunL.ok (OpOk.idx1N rfl ti3 rfl rd2.left.left.left.left.left.left rfl (by omega)) rfl ?_
            refine RunL.ok (OpOk.load rfl rfl rfl (Rd.getI rd2.left.left.left.left.left.left (by omega))) rfl ?_
            refine RunL.ok (OpOk.rem rfl rfl (by decide) rfl) rfl ?_
            refine RunL.ok (OpOk.asF (OpOk.eql rfl rfl) (by omega)) rfl ?_
            refine RunL.ok (OpOk.move rfl) rfl ?_
            refine RunL.off rfl rfl rfl rfl ?_
            refine RunL.off rfl rfl rfl rfl ?_
            refine RunL.off rfl rfl rfl rfl ?_
            refine RunL.ok (OpOk.pickF rfl rfl) rfl ?_
            refine RunL.nil ?_
            refine Run.condF rfl ?_
            refine Run.skip ?_
            refine Run.seq ?_
            refine Run.region ?_
            refine RunL.ok (OpOk.move rfl) rfl ?_
            refine RunL.ok (OpOk.move rfl) rfl ?_
            refine RunL.ok (OpOk.move rfl) rfl ?_
            refine RunL.ok (OpOk.idx1N rfl ti3 rfl rd2.left.left.left.left.left.left rfl (by omega)) rfl ?_
            refine RunL.ok (OpOk.load rfl rfl rfl (Rd.getI rd2.left.left.left.left.left.left (by omega))) rfl ?_
            refine RunL.ok (OpOk.quo rfl rfl (by decide) rfl) rfl ?_
            refine RunL.mem (frc (frl rfl) (frc (frl rfl) rfl)) ?_
            refine RunL.call cal19 rfl (s19 (by assumption) (by omega) (by assumption)) rfl (fun vy4 Ay4 hy4 => ?_)
            obtain ⟨y5, ⟨rfl, rfl⟩⟩ := hy4
            refine RunL.ok (OpOk.move rfl) rfl ?_
            refine RunL.ok (OpOk.ext20 rfl) rfl ?_
            refine RunL.ok (OpOk.ext21 rfl) rfl ?_
            refine RunL.ok (OpOk.assign rfl) rfl ?_
            refine RunL.ok (OpOk.assign rfl) rfl ?_
            refine RunL.nil ?_
            refine Run.seq ?_
            refine Run.region ?_
            refine RunL.ok (OpOk.move rfl) rfl ?_
            refine RunL.ok (OpOk.move rfl) rfl ?_
            refine RunL.on rfl rfl ?_
            refine RunL.ok (OpOk.move rfl) rfl ?_
            refine RunL.on rfl rfl ?_
            refine RunL.ok (OpOk.load rfl rfl rfl (Blk.out Blk.pts.left.left.left.left _ _ (by first | rfl | assumption))) rfl ?_
            refine RunL.on rfl rfl ?_
            refine RunL.ok (OpOk.asT (OpOk.eqlSS rfl rfl) (by omega)) rfl ?_
            refine RunL.ok (OpOk.pickT rfl rfl) rfl ?_
            refine RunL.nil ?_
            refine Run.condT rfl ?_
            refine Run.region ?_
            refine RunL.ok (OpOk.move rfl) rfl ?_
            refine RunL.ok (OpOk.sub rfl rfl (wrapI (by omega) (by omega))) rfl ?_
            refine RunL.ok (OpOk.assign rfl) rfl ?_
            refine RunL.nil ?_
            refine Run.inBlock ?_
            refine Run.region ?_
            refine RunL.ok (OpOk.move rfl) rfl ?_
            refine RunL.ok (OpOk.addN _ 1 rfl rfl rfl rfl (by omega)) rfl ?_
            refine RunL.ok (OpOk.assign rfl) rfl ?_
            refine RunL.nil ?_
            refine Run.jump ((ih (i + 1, _, _, del k2 L, (c - 1)) ⟨by first | (dsimp only; omega) | (dsimp only), by first | (dsimp only; omega) | (dsimp only), by first | (dsimp only; omega) | (dsimp only), by first | (dsimp only; omega) | (dsimp only)⟩ (by first | (dsimp only; omega) | (dsimp only)))) ⟨rfl, rfl, rfl, rfl, rfl, trivial⟩ (Grew.of (Eq.trans (frc rfl (frc rfl (frc (frl (frl rfl)) rfl))) (congrArg (· * _) (congrArg (· * _) (congrArg (· * _) (asg (asg as1)))))) (Grew.refl _))
          · rw [if_neg h4] at ed
            refine Run.seq ?_
            refine Run.seq ?_
            refine Run.region ?_
            refine RunL.ok (OpOk.move rfl) rfl ?_
            refine RunL.ok (OpOk.move rfl) rfl ?_
            refine RunL.ok (OpOk.lenR rfl rfl rd2.left.left.left.left rfl) rfl ?_
            refine RunL.ok (OpOk.asT (OpOk.lss rfl rfl) (by omega)) rfl ?_
            refine RunL.ok (OpOk.move rfl) rfl ?_
            refine RunL.on rfl rfl ?_
            refine RunL.ok (OpOk.move rfl) rfl ?_
            refine RunL.on rfl rfl ?_
            refine RunL.ok (OpOk.asT (OpOk.lss rfl rfl) (by omega)) rfl ?_
            refine RunL.ok (OpOk.pickT rfl rfl) rfl ?_
            refine RunL.nil ?_
            refine Run.condT rfl ?_
            refine Run.skip ?_
            refine Run.seq ?_
            refine Run.block ?_
            refine Run.seq ?_
            refine Run.region ?_
            refine RunL.ok (OpOk.move rfl) rfl ?_
            refine RunL.call cal30 rfl (s30 (by omega)) rfl (fun vy1 Ay1 hy1 => ?_)
            obtain ⟨y2, rfl⟩ := hy1
            refine RunL.ok (OpOk.assign rfl) rfl ?_
            refine RunL.nil ?_
            refine Run.seq ?_
            refine Run.seq ?_
            refine Run.region ?_
            refine RunL.ok (OpOk.move rfl) rfl ?_
            refine RunL.ok (OpOk.move rfl) rfl ?_
            refine RunL.ok (OpOk.idx1N rfl ti3 rfl rd2.left.left.left.left.left.left rfl (by omega)) rfl ?_
            refine RunL.ok (OpOk.load rfl rfl rfl (Rd.getI rd2.left.left.left.left.left.left (by omega))) rfl ?_
            refine RunL.ok (OpOk.rem rfl rfl (by decide) rfl) rfl ?_
            refine RunL.ok (OpOk.asF (OpOk.eql rfl rfl) (by omega)) rfl ?_
            refine RunL.ok (OpOk.move rfl) rfl ?_
            refine RunL.off rfl rfl rfl rfl ?_
            refine RunL.off rfl rfl rfl rfl ?_
            refine RunL.off rfl rfl rfl rfl ?_
            refine RunL.ok (OpOk.pickF rfl rfl) rfl ?_
            refine RunL.nil ?_
            refine Run.condF rfl ?_
            refine Run.skip ?_
            refine Run.seq ?_
            refine Run.region ?_
            refine RunL.ok (OpOk.move rfl) rfl ?_
            refine RunL.ok (OpOk.move rfl) rfl ?_
            refine RunL.ok (OpOk.move rfl) rfl ?_
            refine RunL.ok (OpOk.idx1N rfl ti3 rfl rd2.left.left.left.left.left.left rfl (by omega)) rfl ?_
            refine RunL.ok (OpOk.load rfl rfl rfl (Rd.getI rd2.left.left.left.left.left.left (by omega))) rfl ?_
            refine RunL.ok (OpOk.quo rfl rfl (by decide) rfl) rfl ?_
            refine RunL.mem (frc (frl rfl) (frc (frl rfl) rfl)) ?_
            refine RunL.call cal19 rfl (s19 (by assumption) (by omega) (by assumption)) rfl (fun vy4 Ay4 hy4 => ?_)
            obtain ⟨y5, ⟨rfl, rfl⟩⟩ := hy4
            refine RunL.ok (OpOk.move rfl) rfl ?_
            refine RunL.ok (OpOk.ext20 rfl) rfl ?_
            refine RunL.ok (OpOk.ext21 rfl) rfl ?_
            refine RunL.ok (OpOk.assign rfl) rfl ?_
            refine RunL.ok (OpOk.assign rfl) rfl ?_
            refine RunL.nil ?_
            refine Run.seq ?_
            refine Run.region ?_
            refine RunL.ok (OpOk.move rfl) rfl ?_
            refine RunL.ok (OpOk.move rfl) rfl ?_
            refine RunL.on rfl rfl ?_
            refine RunL.ok (OpOk.move rfl) rfl ?_
            refine RunL.on rfl rfl ?_
            refine RunL.ok (OpOk.load rfl rfl rfl (Blk.out Blk.pts.left.left.left.left _ _ (by first | rfl | assumption))) rfl ?_
            refine RunL.on rfl rfl ?_
            refine RunL.ok (OpOk.asF (OpOk.eqlSS rfl rfl) (by omega)) rfl ?_
            refine RunL.ok (OpOk.pickT rfl rfl) rfl ?_
            refine RunL.nil ?_
            refine Run.condF rfl ?_
            refine Run.skip ?_
            refine Run.inBlock ?_
            refine Run.region ?_
            refine RunL.ok (OpOk.move rfl) rfl ?_
            refine RunL.ok (OpOk.addN _ 1 rfl rfl rfl rfl (by omega)) rfl ?_
            refine RunL.ok (OpOk.assign rfl) rfl ?_
            refine RunL.nil ?_
            refine Run.jump ((ih (i + 1, _, _, del k2 L, c) ⟨by first | (dsimp only; omega) | (dsimp only), by first | (dsimp only; omega) | (dsimp only), by first | (dsimp only; omega) | (dsimp only), by first | (dsimp only; omega) | (dsimp only)⟩ (by first | (dsimp only; omega) | (dsimp only)))) ⟨rfl, rfl, rfl, rfl, rfl, trivial⟩ (Grew.of (Eq.trans (frc rfl (frc rfl (frc (frl (frl rfl)) rfl))) (congrArg (· * _) (congrArg (· * _) (congrArg (· * _) (asg (asg as1)))))) (Grew.refl _))
    · clear ih
      refine Run.seq ?_
      refine Run.seq ?_
      refine Run.region ?_
      refine RunL.ok (OpOk.move rfl) rfl ?_
      refine RunL.ok (OpOk.move rfl) rfl ?_
      refine RunL.ok (OpOk.lenR rfl rfl rd2.left.left.left.left rfl) rfl ?_
      refine RunL.ok (OpOk.asT (OpOk.lss rfl rfl) (by omega)) rfl ?_
      refine RunL.ok (OpOk.move rfl) rfl ?_
      refine RunL.on rfl rfl ?_
      refine RunL.ok (OpOk.move rfl) rfl ?_
      refine RunL.on rfl rfl ?_
      refine RunL.ok (OpOk.asF (OpOk.lss rfl rfl) (by omega)) rfl ?_
      refine RunL.ok (OpOk.pickT rfl rfl) rfl ?_
      refine RunL.nil ?_
      refine Run.condF rfl ?_
      refine Run.exit rfl ?_
      refine Run.seq ?_
      refine Run.region ?_
      refine RunL.ok (OpOk.move rfl) rfl ?_
      refine RunL.ok (OpOk.makeFunc rfl rfl) rfl ?_
      refine RunL.call cal16 rfl (s16e (by omega)) rfl (fun vy1 Ay1 hy1 => ?_)
      obtain ⟨y2, ⟨y3, rfl⟩⟩ := hy1
      refine RunL.ok (OpOk.assign rfl) rfl ?_
      refine RunL.nil ?_
      refine Run.seq ?_
      refine Run.know (fun w s => (s.conv (frl rfl)).ownRd0) (fun rdy4 => ?_)
      refine Run.know (fun w s => (s.conv rfl).ownRd0) (fun rdy5 => ?_)
      (apply Run.drawD [] (by rfl) (Eq.trans (frc (frl rfl) (frc (frl rfl) rfl)) (asg rfl)); case hchk => kernel_rfl)
      refine Sd.quiet 0 _ _ rfl rfl rfl rfl rfl (QOp.ok (fun X => OpOk.move rfl)) ?_
      refine Sd.quiet 2 _ _ rfl rfl rfl rfl rfl (QOp.ok (fun X => OpOk.move rfl)) ?_
      (refine Sd.exec 1 rfl rfl rfl rfl rfl ?hrest (by rfl) (fun Xy6 Ky6 hKy6 => ?_); case hrest => kernel_rfl)
      refine RunL.mem (fl2 (sep_emp _) (flS rfl)) ?_
      refine RunL.call cal20 rfl (s20) rfl (fun vy7 Ay7 hy7 => ?_)
      obtain ⟨rfl, rfl⟩ := hy7
      refine Sd.ret hKy6 (Eq.trans rfl (gp2 (asg rfl) (sep_emp _).symm)) ⟨emp, (sep_emp _).symm⟩ ?_
      refine Sd.quiet 3 _ _ rfl rfl rfl rfl rfl (QOp.ok (fun X => OpOk.asT (OpOk.eql rfl rfl) (by omega))) ?_
      refine Sd.quiet 4 _ _ rfl rfl rfl rfl rfl (QOp.ok (fun X => OpOk.move rfl)) ?_
      refine Sd.quiet 5 _ _ rfl rfl rfl rfl rfl (QOp.ok (fun X => OpOk.move rfl)) ?_
      refine Sd.quiet 6 _ _ rfl rfl rfl rfl rfl (QOp.ok (fun X => OpOk.load rfl rfl rfl (Blk.out Blk.pts.left.left.left _ _ (by first | rfl | assumption)))) ?_
      (refine Sd.exec 7 rfl rfl rfl rfl rfl ?hrest (by rfl) (fun Xy8 Ky8 hKy8 => ?_); case hrest => kernel_rfl)
      refine RunL.mem (fl2 (sep_emp _) (flS rfl)) ?_
      refine RunL.call cal18 rfl (s18 (Rd.right rdy5).left.left.left (by omega)) rfl (fun vy9 Ay9 hy9 => ?_)
      obtain ⟨y10, rfl⟩ := hy9
      refine RunL.know (fun w s => (s.conv rfl).ownRd0) (fun rdy11 => ?_)
      refine Sd.ret hKy8 (Eq.trans (frc (frl (frl rfl)) (frc (frl (frl rfl)) rfl)) (gp2 (asg rfl) (asg rfl))) ⟨_, (emp_sep _).symm⟩ ?_
      refine Sd.quiet 8 _ _ rfl rfl rfl rfl rfl (QOp.ok (fun X => OpOk.lenR rfl rfl (Rd.right (Rd.right rdy11)).left rfl)) ?_
      refine Sd.quiet 9 _ _ rfl rfl rfl rfl rfl (QOp.ok (fun X => OpOk.asT (OpOk.eql rfl rfl) (by omega))) ?_
      refine Sd.quiet 10 _ _ rfl rfl rfl rfl rfl (QOp.ok (fun X => OpOk.pickT rfl rfl)) ?_
      refine Sd.quiet 11 _ _ rfl rfl rfl rfl rfl (QOp.ok (fun X => OpOk.move rfl)) ?_
      refine Sd.quiet 12 _ _ rfl rfl rfl rfl rfl (QOp.ok (fun X => OpOk.move rfl)) ?_
      refine Sd.quiet 14 _ _ rfl rfl rfl rfl rfl (QOp.ok (fun X => OpOk.load rfl rfl rfl (Blk.out Blk.pts.left.left.left _ _ (by first | rfl | assumption)))) ?_
      refine Sd.quiet 17 _ _ rfl rfl rfl rfl rfl (QOp.ok (fun X => OpOk.move rfl)) ?_
      (refine Sd.exec 13 rfl rfl rfl rfl rfl ?hrest (by rfl) (fun Xy12 Ky12 hKy12 => ?_); case hrest => kernel_rfl)
      refine RunL.mem (fl2 (flS rfl) (flS rfl)) ?_
      refine RunL.call cal30 rfl (s30 (by omega)) rfl (fun vy13 Ay13 hy13 => ?_)
      obtain ⟨y14, rfl⟩ := hy13
      refine RunL.know (fun w s => (s.conv rfl).ownRd0) (fun rdy15 => ?_)
      refine Sd.ret hKy12 (Eq.trans rfl (gp2 (sep_emp _).symm (asg (asg (asg (asg (asg rfl))))))) ⟨_, (asg (asg (asg rfl)))⟩ ?_
      (refine Sd.exec 15 rfl rfl rfl rfl rfl ?hrest (by rfl) (fun Xy16 Ky16 hKy16 => ?_); case hrest => kernel_rfl)
      refine RunL.mem (fl2 (flS (flS (flS (flS (flS rfl))))) (sep_emp _)) ?_
      refine RunL.call cal18 rfl (s18 (Rd.right rdy15) (by omega)) rfl (fun vy17 Ay17 hy17 => ?_)
      obtain ⟨y18, rfl⟩ := hy17
      refine RunL.know (fun w s => (s.conv rfl).ownRd0) (fun rdy19 => ?_)
      refine Sd.ret hKy16 (Eq.trans rfl (gp2 (sep_emp _).symm (asg (asg (asg (asg (asg (asg (asg rfl))))))))) ⟨_, (asg rfl)⟩ ?_
      refine Sd.quiet 16 _ _ rfl rfl rfl rfl rfl (QOp.ok (fun X => OpOk.lenR rfl rfl (Rd.right (Rd.right rdy19)).left rfl)) ?_
      refine Sd.quiet 18 _ _ rfl rfl rfl rfl rfl (QOp.ok (fun X => OpOk.asT (OpOk.eql rfl rfl) (by omega))) ?_
      refine Sd.quiet 19 _ _ rfl rfl rfl rfl rfl (QOp.ok (fun X => OpOk.pickT rfl rfl)) ?_
      refine Sd.quiet 20 _ _ rfl rfl rfl rfl rfl (QOp.ok (fun X => OpOk.assign rfl)) ?_
      (apply Sd.tail; case hall => kernel_rfl)
      refine RunL.mem (fl2 (flS (flS (flS (flS (flS (flS (flS rfl))))))) (sep_emp _)) ?_
      refine RunL.nil ?_
      refine Run.ret1 Try.func6 rfl rfl ?_
      exact ⟨rfl, ⟨_, (asg (asg (asg (asg (asg (asg (asg (asg (asg (asg (asg as1)))))))))))⟩⟩
  · obtain rfl : i = is.length := by omega
    clear ih
    refine Run.seq ?_
    refine Run.seq ?_
    refine Run.region ?_
    refine RunL.ok (OpOk.move rfl) rfl ?_
    refine RunL.ok (OpOk.move rfl) rfl ?_
    refine RunL.ok (OpOk.lenR rfl rfl rd2.left.left.left.left rfl) rfl ?_
    refine RunL.ok (OpOk.asF (OpOk.lss rfl rfl) (by omega)) rfl ?_
    refine RunL.ok (OpOk.move rfl) rfl ?_
    refine RunL.off rfl rfl rfl rfl ?_
    refine RunL.off rfl rfl rfl rfl ?_
    refine RunL.ok (OpOk.pickF rfl rfl) rfl ?_
    refine RunL.nil ?_
    refine Run.condF rfl ?_
    refine Run.exit rfl ?_
    refine Run.seq ?_
    refine Run.region ?_
    refine RunL.ok (OpOk.move rfl) rfl ?_
    refine RunL.ok (OpOk.makeFunc rfl rfl) rfl ?_
    refine RunL.call cal16 rfl (s16e (by omega)) rfl (fun vy1 Ay1 hy1 => ?_)
    obtain ⟨y2, ⟨y3, rfl⟩⟩ := hy1
    refine RunL.ok (OpOk.assign rfl) rfl ?_
    refine RunL.nil ?_
    refine Run.seq ?_
    refine Run.know (fun w s => (s.conv (frl rfl)).ownRd0) (fun rdy4 => ?_)
    refine Run.know (fun w s => (s.conv rfl).ownRd0) (fun rdy5 => ?_)
    (apply Run.drawD [] (by rfl) (Eq.trans (frc (frl rfl) (frc (frl rfl) rfl)) (asg rfl)); case hchk => kernel_rfl)
    refine Sd.quiet 0 _ _ rfl rfl rfl rfl rfl (QOp.ok (fun X => OpOk.move rfl)) ?_
    refine Sd.quiet 2 _ _ rfl rfl rfl rfl rfl (QOp.ok (fun X => OpOk.move rfl)) ?_
    (refine Sd.exec 1 rfl rfl rfl rfl rfl ?hrest (by rfl) (fun Xy6 Ky6 hKy6 => ?_); case hrest => kernel_rfl)
    refine RunL.mem (fl2 (sep_emp _) (flS rfl)) ?_
    refine RunL.call cal20 rfl (s20) rfl (fun vy7 Ay7 hy7 => ?_)
    obtain ⟨rfl, rfl⟩ := hy7
    refine Sd.ret hKy6 (Eq.trans rfl (gp2 (asg rfl) (sep_emp _).symm)) ⟨emp, (sep_emp _).symm⟩ ?_
    refine Sd.quiet 3 _ _ rfl rfl rfl rfl rfl (QOp.ok (fun X => OpOk.asT (OpOk.eql rfl rfl) (by omega))) ?_
    refine Sd.quiet 4 _ _ rfl rfl rfl rfl rfl (QOp.ok (fun X => OpOk.move rfl)) ?_
    refine Sd.quiet 5 _ _ rfl rfl rfl rfl rfl (QOp.ok (fun X => OpOk.move rfl)) ?_
    refine Sd.quiet 6 _ _ rfl rfl rfl rfl rfl (QOp.ok (fun X => OpOk.load rfl rfl rfl (Blk.out Blk.pts.left.left.left _ _ (by first | rfl | assumption)))) ?_
    (refine Sd.exec 7 rfl rfl rfl rfl rfl ?hrest (by rfl) (fun Xy8 Ky8 hKy8 => ?_); case hrest => kernel_rfl)
    refine RunL.mem (fl2 (sep_emp _) (flS rfl)) ?_
    refine RunL.call cal18 rfl (s18 (Rd.right rdy5).left.left.left (by omega)) rfl (fun vy9 Ay9 hy9 => ?_)
    obtain ⟨y10, rfl⟩ := hy9
    refine RunL.know (fun w s => (s.conv rfl).ownRd0) (fun rdy11 => ?_)
    refine Sd.ret hKy8 (Eq.trans (frc (frl (frl rfl)) (frc (frl (frl rfl)) rfl)) (gp2 (asg rfl) (asg rfl))) ⟨_, (emp_sep _).symm⟩ ?_
    refine Sd.quiet 8 _ _ rfl rfl rfl rfl rfl (QOp.ok (fun X => OpOk.lenR rfl rfl (Rd.right (Rd.right rdy11)).left rfl)) ?_
    refine Sd.quiet 9 _ _ rfl rfl rfl rfl rfl (QOp.ok (fun X => OpOk.asT (OpOk.eql rfl rfl) (by omega))) ?_
    refine Sd.quiet 10 _ _ rfl rfl rfl rfl rfl (QOp.ok (fun X => OpOk.pickT rfl rfl)) ?_
    refine Sd.quiet 11 _ _ rfl rfl rfl rfl rfl (QOp.ok (fun X => OpOk.move rfl)) ?_
    refine Sd.quiet 12 _ _ rfl rfl rfl rfl rfl (QOp.ok (fun X => OpOk.move rfl)) ?_
    refine Sd.quiet 14 _ _ rfl rfl rfl rfl rfl (QOp.ok (fun X => OpOk.load rfl rfl rfl (Blk.out Blk.pts.left.left.left _ _ (by first | rfl | assumption)))) ?_
    refine Sd.quiet 17 _ _ rfl rfl rfl rfl rfl (QOp.ok (fun X => OpOk.move rfl)) ?_
    (refine Sd.exec 13 rfl rfl rfl rfl rfl ?hrest (by rfl) (fun Xy12 Ky12 hKy12 => ?_); case hrest => kernel_rfl)
    refine RunL.mem (fl2 (flS rfl) (flS rfl)) ?_
    refine RunL.call cal30 rfl (s30 (by omega)) rfl (fun vy13 Ay13 hy13 => ?_)
    obtain ⟨y14, rfl⟩ := hy13
    refine RunL.know (fun w s => (s.conv rfl).ownRd0) (fun rdy15 => ?_)
    refine Sd.ret hKy12 (Eq.trans rfl (gp2 (sep_emp _).symm (asg (asg (asg (asg (asg rfl))))))) ⟨_, (asg (asg (asg rfl)))⟩ ?_
    (refine Sd.exec 15 rfl rfl rfl rfl rfl ?hrest (by rfl) (fun Xy16 Ky16 hKy16 => ?_); case hrest => kernel_rfl)
    refine RunL.mem (fl2 (flS (flS (flS (flS (flS rfl))))) (sep_emp _)) ?_
    refine RunL.call cal18 rfl (s18 (Rd.right rdy15) (by omega)) rfl (fun vy17 Ay17 hy17 => ?_)
    obtain ⟨y18, rfl⟩ := hy17
    refine RunL.know (fun w s => (s.conv rfl).ownRd0) (fun rdy19 => ?_)
    refine Sd.ret hKy16 (Eq.trans rfl (gp2 (sep_emp _).symm (asg (asg (asg (asg (asg (asg (asg rfl))))))))) ⟨_, (asg rfl)⟩ ?_
    refine Sd.quiet 16 _ _ rfl rfl rfl rfl rfl (QOp.ok (fun X => OpOk.lenR rfl rfl (Rd.right (Rd.right rdy19)).left rfl)) ?_
    refine Sd.quiet 18 _ _ rfl rfl rfl rfl rfl (QOp.ok (fun X => OpOk.asT (OpOk.eql rfl rfl) (by omega))) ?_
    refine Sd.quiet 19 _ _ rfl rfl rfl rfl rfl (QOp.ok (fun X => OpOk.pickT rfl rfl)) ?_
    refine Sd.quiet 20 _ _ rfl rfl rfl rfl rfl (QOp.ok (fun X => OpOk.assign rfl)) ?_
    (apply Sd.tail; case hall => kernel_rfl)
    refine RunL.mem (fl2 (flS (flS (flS (flS (flS (flS (flS rfl))))))) (sep_emp _)) ?_
    refine RunL.nil ?_
    refine Run.ret1 Try.func6 rfl rfl ?_
    exact ⟨rfl, ⟨_, (asg (asg (asg (asg (asg (asg (asg (asg (asg (asg (asg as1)))))))))))⟩⟩
end
end Go.Proofs.Ytegbfnibjgpbpaa
