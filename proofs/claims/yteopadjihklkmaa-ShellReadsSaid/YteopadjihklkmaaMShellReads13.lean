/- Part 13 of the proof of ShellReads. -/
import Derived.Test.YteopadjihklkmaaMShellReads12
section
namespace Go.Proofs.Yteopadjihklkmaa
open Go Go.Proofs
set_option maxRecDepth 100000
set_option maxHeartbeats 4000000
set_option linter.unusedSimpArgs false
set_option linter.unusedVariables false
theorem ex_two {P Q : Prop} {A T X : Asn} (hP : P) (hQ : Q) (g : ∃ J, T = A * J * X) : ∃ J, P ∧ Q ∧ T = A * J * X := by
  obtain ⟨J, h⟩ := g
  exact ⟨J, hP, hQ, h⟩
section
variable {w0 : World} {A : Asn} {u : Value} {m : Nat} {bs : List UInt8}
theorem dir_bad (rd : Rd w0 A u 1 32 (B bs)) (h : ¬ (sealed (bs.take 30) = bs)) : Spec Try.prog w0 93 [u] A (fun v' A' => ∃ J, v' = .tuple #[.agg #[.int .i64 0, .int .i64 0, .int .i64 0, .int .i64 0, .slice none 0 0], .bool false] ∧ A' = A * J) := by
  have hl := rd.lenB
  have b1 := (bs.getD (Int.toNat 2) 0).toNat_lt
  refine Spec.of_run [(0, u)] Try.func93 rfl (Nat.le_of_ble_eq_true rfl) (by repeat (first | exact trivial | refine ⟨rfl, ?_⟩)) ?_
  refine Run.seq ?_
  refine Run.region ?_
  refine RunL.alloc ti89 rfl (fun bx1 => ?_)
  refine RunL.ok (OpOk.assign rfl) rfl ?_
  refine RunL.nil ?_
  refine Run.seq ?_
  refine Run.region ?_
  refine RunL.alloc ti89 rfl (fun bx2 => ?_)
  refine RunL.nil ?_
  refine Run.seq ?_
  refine Run.region ?_
  refine RunL.ok (OpOk.move rfl) rfl ?_
  refine RunL.ok (OpOk.idx1 rfl ti5 rfl rd.left.left rfl (by omega) (by omega)) rfl ?_
  refine RunL.ok (OpOk.load rfl rfl rfl (Rd.getB rd.left.left (by omega))) rfl ?_
  refine RunL.ok (OpOk.convInt rfl rfl rfl (wrapI (by omega) (by omega))) rfl ?_
  refine RunL.ok (OpOk.assign rfl) rfl ?_
  refine RunL.nil ?_
  refine Run.seq ?_
  refine Run.seq ?_
  refine Run.region ?_
  refine RunL.ok (OpOk.move rfl) rfl ?_
  refine RunL.call cal91 rfl (s91 rd.left.left rfl) rfl (fun vx3 Ax3 hx3 => ?_)
  obtain ⟨rfl, rfl⟩ := hx3
  refine RunL.ok (OpOk.not rfl) rfl ?_
  refine RunL.ok (OpOk.move rfl) rfl ?_
  refine RunL.splitNT (t := 18) rfl (by first | omega | with_reducible rfl | assumption) ?_
  refine RunL.off rfl rfl rfl rfl ?_
  refine RunL.off rfl rfl rfl rfl ?_
  refine RunL.ok (OpOk.pickT rfl rfl) rfl ?_
  refine RunL.nil ?_
  refine Run.condT rfl ?_
  refine Run.seq ?_
  refine Run.region ?_
  refine RunL.ok (OpOk.loadS rfl rfl ti89 rfl Blk.pts rfl) rfl ?_
  refine RunL.storeAll ti89 rfl rfl rfl (ones rfl) (frl rfl) rfl ?_
  refine RunL.ok (OpOk.assign rfl) rfl ?_
  refine RunL.nil ?_
  refine Run.retC2 (A' := _) Try.func93 rfl rfl rfl ti89 rfl rfl Blk.pts rfl (Grew.refl _) ?_
  exact ⟨_, rfl, (asg as1)⟩
theorem dir_long (rd : Rd w0 A u 1 32 (B bs)) (hs : sealed (bs.take 30) = bs) (h : 5 < (((bs.getD (Int.toNat 2) 0).toNat : Nat) : Int)) : Spec Try.prog w0 93 [u] A (fun v' A' => ∃ J, v' = .tuple #[.agg #[.int .i64 0, .int .i64 0, .int .i64 0, .int .i64 0, .slice none 0 0], .bool false] ∧ A' = A * J) := by
  have hl := rd.lenB
  have b1 := (bs.getD (Int.toNat 2) 0).toNat_lt
  refine Spec.of_run [(0, u)] Try.func93 rfl (Nat.le_of_ble_eq_true rfl) (by repeat (first | exact trivial | refine ⟨rfl, ?_⟩)) ?_
  refine Run.seq ?_
  refine Run.region ?_
  refine RunL.alloc ti89 rfl (fun bx1 => ?_)
  refine RunL.ok (OpOk.assign rfl) rfl ?_
  refine RunL.nil ?_
  refine Run.seq ?_
  refine Run.region ?_
  refine RunL.alloc ti89 rfl (fun bx2 => ?_)
  refine RunL.nil ?_
  refine Run.seq ?_
  refine Run.region ?_
  refine RunL.ok (OpOk.move rfl) rfl ?_
  refine RunL.ok (OpOk.idx1 rfl ti5 rfl rd.left.left rfl (by omega) (by omega)) rfl ?_
  refine RunL.ok (OpOk.load rfl rfl rfl (Rd.getB rd.left.left (by omega))) rfl ?_
  refine RunL.ok (OpOk.convInt rfl rfl rfl (wrapI (by omega) (by omega))) rfl ?_
  refine RunL.ok (OpOk.assign rfl) rfl ?_
  refine RunL.nil ?_
  refine Run.seq ?_
  refine Run.seq ?_
  refine Run.region ?_
  refine RunL.ok (OpOk.move rfl) rfl ?_
  refine RunL.call cal91 rfl (s91 rd.left.left rfl) rfl (fun vx3 Ax3 hx3 => ?_)
  obtain ⟨rfl, rfl⟩ := hx3
  refine RunL.ok (OpOk.not rfl) rfl ?_
  refine RunL.ok (OpOk.move rfl) rfl ?_
  refine RunL.splitNF (t := 18) rfl (by first | omega | with_reducible rfl | assumption) ?_
  refine RunL.on rfl rfl ?_
  refine RunL.ok (OpOk.move rfl) rfl ?_
  refine RunL.on rfl rfl ?_
  refine RunL.ok (OpOk.asT (OpOk.gtr rfl rfl) (by omega)) rfl ?_
  refine RunL.ok (OpOk.pickF rfl rfl) rfl ?_
  refine RunL.nil ?_
  refine Run.condT rfl ?_
  refine Run.seq ?_
  refine Run.region ?_
  refine RunL.ok (OpOk.loadS rfl rfl ti89 rfl Blk.pts rfl) rfl ?_
  refine RunL.storeAll ti89 rfl rfl rfl (ones rfl) (frl rfl) rfl ?_
  refine RunL.ok (OpOk.assign rfl) rfl ?_
  refine RunL.nil ?_
  refine Run.retC2 (A' := _) Try.func93 rfl rfl rfl ti89 rfl rfl Blk.pts rfl (Grew.refl _) ?_
  exact ⟨_, rfl, (asg as1)⟩
theorem dir_go {N : Nat} {Q : Int} (rd : Rd w0 A u 1 32 (B bs)) (hs : sealed (bs.take 30) = bs) (hN : (((bs.getD (Int.toNat 2) 0).toNat : Nat) : Int) = (N : Int)) (hN5 : N ≤ 5) (hQ : by2 (bs.take 30) 0 = Q) : Spec Try.prog w0 93 [u] A (fun v' A' => ∃ q ad n cap es J, v' = .tuple #[.agg #[.int .i64 0, .int .i64 0, .int .i64 q, .int .i64 0, .slice ad n cap], .bool (goodD (bs.take 30) N && decide (0 < Q) && zerosB ((bs.take 30).drop (3 + 5 * N)))] ∧
    ((goodD (bs.take 30) N && decide (0 < Q) && zerosB ((bs.take 30).drop (3 + 5 * N))) = true → q = Q ∧ n = N ∧ es = dirD (bs.take 30) N) ∧ A' = A * J * own 111 4 (.slice ad n cap) n (Fl encT111 es)) := by
  have hl := rd.lenB
  have b1 := (bs.getD (Int.toNat 2) 0).toNat_lt
  have b2 := (bs.getD (Int.toNat 0) 0).toNat_lt
  have b3 := (bs.getD (Int.toNat 1) 0).toNat_lt
  have rw_N := hN
  refine Spec.of_run [(0, u)] Try.func93 rfl (Nat.le_of_ble_eq_true rfl) (by repeat (first | exact trivial | refine ⟨rfl, ?_⟩)) ?_
  refine Run.seq ?_
  refine Run.region ?_
  refine RunL.alloc ti89 rfl (fun bx1 => ?_)
  refine RunL.ok (OpOk.assign rfl) rfl ?_
  refine RunL.nil ?_
  refine Run.seq ?_
  refine Run.region ?_
  refine RunL.alloc ti89 rfl (fun bx2 => ?_)
  refine RunL.nil ?_
  refine Run.seq ?_
  refine Run.region ?_
  refine RunL.ok (OpOk.move rfl) rfl ?_
  refine RunL.ok (OpOk.idx1 rfl ti5 rfl rd.left.left rfl (by omega) (by omega)) rfl ?_
  refine RunL.ok (OpOk.load rfl rfl rfl (Rd.getB rd.left.left (by omega))) rfl ?_
  refine RunL.ok (OpOk.convInt rfl rfl rfl (wrapI (by omega) (by omega))) rfl ?_
  refine RunL.ok (OpOk.assign rfl) rfl ?_
  refine RunL.nil ?_
  refine Run.seq ?_
  refine Run.seq ?_
  rw [rw_N]
  refine Run.region ?_
  refine RunL.ok (OpOk.move rfl) rfl ?_
  refine RunL.call cal91 rfl (s91 rd.left.left rfl) rfl (fun vx3 Ax3 hx3 => ?_)
  obtain ⟨rfl, rfl⟩ := hx3
  refine RunL.ok (OpOk.not rfl) rfl ?_
  refine RunL.ok (OpOk.move rfl) rfl ?_
  refine RunL.splitNF (t := 18) rfl (by first | omega | with_reducible rfl | assumption) ?_
  refine RunL.on rfl rfl ?_
  refine RunL.ok (OpOk.move rfl) rfl ?_
  refine RunL.on rfl rfl ?_
  refine RunL.ok (OpOk.asF (OpOk.gtr rfl rfl) (by omega)) rfl ?_
  refine RunL.ok (OpOk.pickF rfl rfl) rfl ?_
  refine RunL.nil ?_
  refine Run.condF rfl ?_
  refine Run.skip ?_
  refine Run.seq ?_
  (apply Run.drawD [11] (by rfl) (sep_emp _).symm; case hchk => kernel_rfl)
  refine Sd.quiet 0 _ _ rfl rfl rfl rfl rfl (QOp.ok (fun X => OpOk.move rfl)) ?_
  refine Sd.quiet 1 _ _ rfl rfl rfl rfl rfl (QOp.ok (fun X => OpOk.idx1 rfl ti5 rfl rd.left.left.left.left rfl (by omega) (by omega))) ?_
  refine Sd.quiet 2 _ _ rfl rfl rfl rfl rfl (QOp.ok (fun X => OpOk.load rfl rfl rfl (Rd.getB rd.left.left.left.left (by omega)))) ?_
  refine Sd.quiet 3 _ _ rfl rfl rfl rfl rfl (QOp.ok (fun X => OpOk.convInt rfl rfl rfl (wrapI (by omega) (by omega)))) ?_
  refine Sd.quiet 4 _ _ rfl rfl rfl rfl rfl (QOp.ok (fun X => OpOk.mulN _ 256 rfl rfl rfl rfl (by omega))) ?_
  refine Sd.quiet 5 _ _ rfl rfl rfl rfl rfl (QOp.ok (fun X => OpOk.move rfl)) ?_
  refine Sd.quiet 6 _ _ rfl rfl rfl rfl rfl (QOp.ok (fun X => OpOk.idx1 rfl ti5 rfl rd.left.left.left.left rfl (by omega) (by omega))) ?_
  refine Sd.quiet 7 _ _ rfl rfl rfl rfl rfl (QOp.ok (fun X => OpOk.load rfl rfl rfl (Rd.getB rd.left.left.left.left (by omega)))) ?_
  refine Sd.quiet 8 _ _ rfl rfl rfl rfl rfl (QOp.ok (fun X => OpOk.convInt rfl rfl rfl (wrapI (by omega) (by omega)))) ?_
  refine Sd.quiet 9 _ _ rfl rfl rfl rfl rfl (QOp.ok (fun X => OpOk.addN _ _ rfl rfl rfl rfl (by omega))) ?_
  refine Sd.quiet 10 _ _ rfl rfl rfl rfl rfl (QOp.ok (fun X => OpOk.fieldAddr fld89_2 rfl)) ?_
  (apply Sd.tail; case hall => kernel_rfl)
  refine RunL.mem (fl2 (sep_emp _) (sep_emp _)) ?_
  refine RunL.store ti3 rfl rfl rfl rfl (by exact Nat.le_of_ble_eq_true rfl) (.inl rfl) ?_
  refine RunL.nil ?_
  refine Run.seq ?_
  refine Run.seq ?_
  refine Run.region ?_
  refine RunL.ok (OpOk.assign rfl) rfl ?_
  refine RunL.nil ?_
  refine Run.block ?_
  have hQ2 : ((((bs.getD (Int.toNat 0) 0).toNat * 256 + (bs.getD (Int.toNat 1) 0).toNat : Nat)) : Int) = Q := by
    rw [← hQ, by2, take_by _ _ _ (by decide), take_by _ _ _ (by decide)]; rfl
  rw [hQ2]
  refine Run.ent (Ent.ownNil' _ 111 4 (Fl encT111 ([] : List En)) rfl) ?_
  have hdl : (bs.take 30).length = 30 := by rw [List.length_take]; omega
  refine Run.jump ((Run.loopJ (X := Nat × Asn × Option Addr × Nat) (fun x => [(6, .int .i64 (x.1 : Int)), (5, .int .i64 (N : Int)), (4, .pointer (some ⟨bx2, 0, none⟩)), (2, .pointer (some ⟨bx1, 0, none⟩)), (0, u)]) (fun x => A * x.2.1 * pts bx1 (.cells #[.int .i64 0, .int .i64 0, .int .i64 0, .int .i64 0, .slice none 0 0] 89 (0, 0)) * pts bx2 (.cells #[.int .i64 0, .int .i64 0, .int .i64 Q, .int .i64 0, .slice x.2.2.1 x.1 x.2.2.2] 89 (0, 0)) * own 111 4 (.slice x.2.2.1 x.1 x.2.2.2) x.1 (Fl encT111 (dirD (bs.take 30) x.1))) (fun x => x.1 ≤ N ∧ goodD (bs.take 30) x.1 = true) (fun x => N - x.1) (0, _, none, 0) ⟨Nat.zero_le _, rfl⟩ (fun x hx ih => ?_))) ⟨rfl, rfl, rfl, rfl, rfl, trivial⟩ (Grew.of (Eq.trans (frc rfl (frc rfl (frc rfl rfl))) (congrArg (· * _) (congrArg (· * _) (congrArg (· * _) as0)))) (Grew.refl _))
  obtain ⟨i, J, ad, cap⟩ := x
  simp only at hx ih ⊢
  obtain ⟨hi, hgi⟩ := hx
  rcases Nat.lt_or_ge i N with hlt | hge
  · have hbad : stepD (bs.take 30) i = false → goodD (bs.take 30) N = false := fun h => by
      cases hg : goodD (bs.take 30) N with
      | false => rfl
      | true =>
        have := goodD_le hg (n := i + 1) hlt
        rw [goodD_next, h, Bool.and_false] at this
        cases this
    have hnext : stepD (bs.take 30) i = true → goodD (bs.take 30) (i + 1) = true := fun h => by rw [goodD_next, hgi, h]; rfl
    have hdn := dirD_next (bs.take 30) i
    have hdl2 := dirD_len (bs.take 30) i
    have hnc := no_clash (entA (bs.take 30) (3 + 5 * i)) (dirD (bs.take 30) i)
    have hbyte : ∀ k, k < 5 → (bs.take 30).getD (3 + 5 * i + k) 0 = ((bs.drop (3 + 5 * i)).take (8 + 5 * i - (3 + 5 * i))).getD k 0 := fun k hk => by
      rw [take_by _ _ _ (by omega), List.getD_eq_getElem?_getD, List.getD_eq_getElem?_getD, List.getElem?_take, if_pos (by omega), List.getElem?_drop]
    have rdc := rd.cutB (i := 3 + 5 * i) (j := 8 + 5 * i) (by omega) (by omega)
    generalize (bs.drop (3 + 5 * i)).take (8 + 5 * i - (3 + 5 * i)) = c at rdc hbyte
    rw [show 8 + 5 * i - (3 + 5 * i) = 5 by omega] at rdc
    have hk : ((((c.getD (Int.toNat 0) 0).toNat : Nat)) : Int) = (entA (bs.take 30) (3 + 5 * i)).1 := by rw [show Int.toNat 0 = 0 from rfl, ← hbyte 0 (by decide)]; rfl
    have ho : ((((c.getD (Int.toNat 1) 0).toNat : Nat)) : Int) = (entA (bs.take 30) (3 + 5 * i)).2.1 := by rw [show Int.toNat 1 = 1 from rfl, ← hbyte 1 (by decide)]; rfl
    have hn : ((((c.getD (Int.toNat 2) 0).toNat * 256 + (c.getD (Int.toNat 3) 0).toNat : Nat)) : Int) = (entA (bs.take 30) (3 + 5 * i)).2.2.1 := by rw [show Int.toNat 2 = 2 from rfl, show Int.toNat 3 = 3 from rfl, ← hbyte 2 (by decide), ← hbyte 3 (by decide)]; rfl
    have hsl : ((((c.getD (Int.toNat 4) 0).toNat : Nat)) : Int) = (entA (bs.take 30) (3 + 5 * i)).2.2.2 := by rw [show Int.toNat 4 = 4 from rfl, ← hbyte 4 (by decide)]; rfl
    have c0 := (c.getD (Int.toNat 0) 0).toNat_lt
    have c1 := (c.getD (Int.toNat 1) 0).toNat_lt
    have c2 := (c.getD (Int.toNat 2) 0).toNat_lt
    have c3 := (c.getD (Int.toNat 3) 0).toNat_lt
    have c4 := (c.getD (Int.toNat 4) 0).toNat_lt
    unfold stepD at hbad hnext
    generalize entA (bs.take 30) (3 + 5 * i) = e at hk ho hn hsl hbad hnext hdn hnc
    obtain ⟨k, o, n, s⟩ := e
    dsimp only at hk ho hn hsl hbad hnext hdn hnc
    rw [Bool.and_assoc, hnc] at hbad hnext
    have rw_0 := hk
    have rw_1 := ho
    have rw_2 := hn
    have rw_3 := hsl
    have hb1 : ¬ (rightP (k, o, n, s) ∧ s < 6) → goodD (bs.take 30) N = false := fun h => hbad (by
      by_cases h1 : rightP (k, o, n, s)
      · have h2 : decide (s < 6) = false := decide_eq_false (fun h2 : s < 6 => h ⟨h1, h2⟩)
        rw [h2, Bool.and_false, Bool.false_and]
      · rw [decide_eq_false h1, Bool.false_and, Bool.false_and])
    have hb2 : ∀ j, j < i → clash (k, o, n, s) ((dirD (bs.take 30) i).getD j default) = true → goodD (bs.take 30) N = false := fun j hj h => hbad (by
      have : (dirD (bs.take 30) i).all (fun o_1 => !clash (k, o, n, s) o_1) = false := by
        rw [List.all_eq_false]
        exact ⟨_, getD_mem (by rw [hdl2]; exact hj), by rw [h]; decide⟩
      rw [this, Bool.and_false])
    have hb3 : rightP (k, o, n, s) → s < 6 → (∀ j, j < i → clash (k, o, n, s) ((dirD (bs.take 30) i).getD j default) = false) → goodD (bs.take 30) (i + 1) = true := fun h1 h2 h => hnext (by
      rw [decide_eq_true h1, decide_eq_true h2, Bool.true_and, Bool.true_and, List.all_eq_true]
      intro x hx
      obtain ⟨j, hj, rfl⟩ := List.mem_iff_getElem.1 hx
      have := h j (by omega)
      rw [List.getD_eq_getElem?_getD, List.getElem?_eq_getElem hj, Option.getD_some] at this
      rw [this]; rfl)
    have hdl2b : (dirD (bs.take 30) i).length = i := hdl2
    clear hbad hnext hnc
    refine Run.seq ?_
    refine Run.seq ?_
    refine Run.region ?_
    refine RunL.ok (OpOk.move rfl) rfl ?_
    refine RunL.ok (OpOk.move rfl) rfl ?_
    refine RunL.ok (OpOk.asT (OpOk.lss rfl rfl) (by omega)) rfl ?_
    refine RunL.nil ?_
    refine Run.condT rfl ?_
    refine Run.skip ?_
    refine Run.seq ?_
    refine Run.block ?_
    refine Run.seq ?_
    refine Run.region ?_
    refine RunL.ok (OpOk.move rfl) rfl ?_
    refine RunL.ok (OpOk.move rfl) rfl ?_
    refine RunL.ok (OpOk.mulN 5 _ rfl rfl rfl rfl (by omega)) rfl ?_
    refine RunL.ok (OpOk.addN 3 _ rfl rfl rfl rfl (by omega)) rfl ?_
    refine RunL.ok (OpOk.move rfl) rfl ?_
    refine RunL.ok (OpOk.mulN 5 _ rfl rfl rfl rfl (by omega)) rfl ?_
    refine RunL.ok (OpOk.addN 8 _ rfl rfl rfl rfl (by omega)) rfl ?_
    refine RunL.ok (OpOk.cut rfl ti5 rfl rd.left.left.left.left ⟨_, rfl⟩ ⟨_, rfl⟩ (by omega) (by omega)) rfl ?_
    refine RunL.ok (OpOk.assign rfl) rfl ?_
    refine RunL.nil ?_
    refine Run.seq ?_
    refine Run.know (fun w s => (s.conv rfl).ownRd0) (fun rdy1 => ?_)
    (apply Run.drawD [24] (by rfl) (sep_emp _).symm; case hchk => kernel_rfl)
    refine Sd.quiet 0 _ _ rfl rfl rfl rfl rfl (QOp.ok (fun X => OpOk.move rfl)) ?_
    refine Sd.quiet 1 _ _ rfl rfl rfl rfl rfl (QOp.ok (fun X => OpOk.idx1 rfl ti5 rfl rdc.left.left.left.left.left.left rfl (by omega) (by omega))) ?_
    refine Sd.quiet 2 _ _ rfl rfl rfl rfl rfl (QOp.ok (fun X => OpOk.load rfl rfl rfl (Rd.getB rdc.left.left.left.left.left.left (by omega)))) ?_
    refine Sd.quiet 3 _ _ rfl rfl rfl rfl rfl (QOp.ok (fun X => OpOk.convInt rfl rfl rfl (wrapI (by omega) (by omega)))) ?_
    refine Sd.quiet 4 _ _ rfl rfl rfl rfl rfl (QOp.ok (fun X => OpOk.move rfl)) ?_
    refine Sd.quiet 5 _ _ rfl rfl rfl rfl rfl (QOp.ok (fun X => OpOk.idx1 rfl ti5 rfl rdc.left.left.left.left.left.left rfl (by omega) (by omega))) ?_
    refine Sd.quiet 6 _ _ rfl rfl rfl rfl rfl (QOp.ok (fun X => OpOk.load rfl rfl rfl (Rd.getB rdc.left.left.left.left.left.left (by omega)))) ?_
    refine Sd.quiet 7 _ _ rfl rfl rfl rfl rfl (QOp.ok (fun X => OpOk.convInt rfl rfl rfl (wrapI (by omega) (by omega)))) ?_
    refine Sd.quiet 8 _ _ rfl rfl rfl rfl rfl (QOp.ok (fun X => OpOk.move rfl)) ?_
    refine Sd.quiet 9 _ _ rfl rfl rfl rfl rfl (QOp.ok (fun X => OpOk.idx1 rfl ti5 rfl rdc.left.left.left.left.left.left rfl (by omega) (by omega))) ?_
    refine Sd.quiet 10 _ _ rfl rfl rfl rfl rfl (QOp.ok (fun X => OpOk.load rfl rfl rfl (Rd.getB rdc.left.left.left.left.left.left (by omega)))) ?_
    refine Sd.quiet 11 _ _ rfl rfl rfl rfl rfl (QOp.ok (fun X => OpOk.convInt rfl rfl rfl (wrapI (by omega) (by omega)))) ?_
    refine Sd.quiet 12 _ _ rfl rfl rfl rfl rfl (QOp.ok (fun X => OpOk.mulN _ 256 rfl rfl rfl rfl (by omega))) ?_
    refine Sd.quiet 13 _ _ rfl rfl rfl rfl rfl (QOp.ok (fun X => OpOk.move rfl)) ?_
    refine Sd.quiet 14 _ _ rfl rfl rfl rfl rfl (QOp.ok (fun X => OpOk.idx1 rfl ti5 rfl rdc.left.left.left.left.left.left rfl (by omega) (by omega))) ?_
    refine Sd.quiet 15 _ _ rfl rfl rfl rfl rfl (QOp.ok (fun X => OpOk.load rfl rfl rfl (Rd.getB rdc.left.left.left.left.left.left (by omega)))) ?_
    refine Sd.quiet 16 _ _ rfl rfl rfl rfl rfl (QOp.ok (fun X => OpOk.convInt rfl rfl rfl (wrapI (by omega) (by omega)))) ?_
    refine Sd.quiet 17 _ _ rfl rfl rfl rfl rfl (QOp.ok (fun X => OpOk.addN _ _ rfl rfl rfl rfl (by omega))) ?_
    refine Sd.quiet 18 _ _ rfl rfl rfl rfl rfl (QOp.ok (fun X => OpOk.move rfl)) ?_
    refine Sd.quiet 19 _ _ rfl rfl rfl rfl rfl (QOp.ok (fun X => OpOk.idx1 rfl ti5 rfl rdc.left.left.left.left.left.left rfl (by omega) (by omega))) ?_
    refine Sd.quiet 20 _ _ rfl rfl rfl rfl rfl (QOp.ok (fun X => OpOk.load rfl rfl rfl (Rd.getB rdc.left.left.left.left.left.left (by omega)))) ?_
    refine Sd.quiet 21 _ _ rfl rfl rfl rfl rfl (QOp.ok (fun X => OpOk.convInt rfl rfl rfl (wrapI (by omega) (by omega)))) ?_
    refine Sd.quiet 22 _ _ rfl rfl rfl rfl rfl (QOp.ok (fun X => OpOk.build (cells := #[.int (IntKind.i64) (↑(c.getD (Int.toNat 0) 0).toNat), .int (IntKind.i64) (↑(c.getD (Int.toNat 1) 0).toNat), .int (IntKind.i64) (↑((c.getD (Int.toNat 2) 0).toNat * 256 + (c.getD (Int.toNat 3) 0).toNat)), .int (IntKind.i64) (↑(c.getD (Int.toNat 4) 0).toNat)]) rfl (fun w => run_build w 111 _ _ (by rfl)))) ?_
    (refine Sd.exec 23 rfl rfl rfl rfl rfl ?hrest (by rfl) (fun Xy2 Ky2 hKy2 => ?_); case hrest => kernel_rfl)
    refine RunL.mem (fl2 (sep_emp _) (sep_emp _)) ?_
    refine RunL.alloc ti111 rfl (fun by3 => ?_)
    refine Sd.ret hKy2 (Eq.trans rfl (gp2 (sep_emp _).symm rfl)) ⟨_, (emp_sep _).symm⟩ ?_
    (apply Sd.tail; case hall => kernel_rfl)
    refine RunL.mem (fl2 rfl (sep_emp _)) ?_
    refine RunL.storeAll ti111 rfl rfl rfl (ones rfl) rfl rfl ?_
    refine RunL.nil ?_
    refine Run.seq ?_
    refine Run.seq ?_
    rw [rw_0]
    rw [rw_1]
    rw [rw_2]
    rw [rw_3]
    refine Run.region ?_
    refine RunL.ok (OpOk.fieldAddr fld111_0 rfl) rfl ?_
    refine RunL.ok (OpOk.load rfl rfl rfl (Blk.out Blk.pts _ _ (by first | rfl | assumption))) rfl ?_
    refine RunL.ok (OpOk.lss rfl rfl) rfl ?_
    refine RunL.ok (OpOk.move rfl) rfl ?_
    refine RunL.splitD (t := 73) rfl (fun y4 => ?_) (fun y4 => ?_)
    · refine RunL.off rfl rfl rfl rfl ?_
      refine RunL.off rfl rfl rfl rfl ?_
      refine RunL.off rfl rfl rfl rfl ?_
      refine RunL.ok (OpOk.pickT rfl rfl) rfl ?_
      refine RunL.ok (OpOk.move rfl) rfl ?_
      refine RunL.off rfl rfl rfl rfl ?_
      refine RunL.off rfl rfl rfl rfl ?_
      refine RunL.off rfl rfl rfl rfl ?_
      refine RunL.ok (OpOk.pickT rfl rfl) rfl ?_
      refine RunL.ok (OpOk.move rfl) rfl ?_
      refine RunL.off rfl rfl rfl rfl ?_
      refine RunL.off rfl rfl rfl rfl ?_
      refine RunL.off rfl rfl rfl rfl ?_
      refine RunL.ok (OpOk.pickT rfl rfl) rfl ?_
      refine RunL.ok (OpOk.move rfl) rfl ?_
      refine RunL.off rfl rfl rfl rfl ?_
      refine RunL.off rfl rfl rfl rfl ?_
      refine RunL.off rfl rfl rfl rfl ?_
      refine RunL.ok (OpOk.pickT rfl rfl) rfl ?_
      refine RunL.ok (OpOk.move rfl) rfl ?_
      refine RunL.off rfl rfl rfl rfl ?_
      refine RunL.off rfl rfl rfl rfl ?_
      refine RunL.off rfl rfl rfl rfl ?_
      refine RunL.ok (OpOk.pickT rfl rfl) rfl ?_
      refine RunL.nil ?_
      refine Run.condT rfl ?_
      refine Run.seq ?_
      refine Run.region ?_
      refine RunL.ok (OpOk.loadS rfl rfl ti89 rfl Blk.pts.left.left rfl) rfl ?_
      refine RunL.storeAll ti89 rfl rfl rfl (ones rfl) (frl (frl (frl rfl))) rfl ?_
      refine RunL.ok (OpOk.assign rfl) rfl ?_
      refine RunL.nil ?_
      refine Run.retC2 (A' := _) Try.func93 rfl rfl rfl ti89 rfl rfl Blk.pts rfl (Grew.refl _) ?_
      refine ⟨Q, ad, i, cap, dirD (bs.take 30) i, ?_⟩
      have hgN := hb1 (by rintro ⟨⟨h1, h2, h3, h4, h5, h6⟩, h7⟩; dsimp only at h1 h2 h3 h4 h5 h6; omega)
      refine ex_two (by rw [hgN, Bool.false_and, Bool.false_and]) (fun h => by rw [hgN, Bool.false_and, Bool.false_and] at h; cases h) ?_
      repeat (first | exact out_of (by repeat (first | exact Grew.refl _ | refine Grew.mul ?_ _)) | refine out_mid ?_)
    refine RunL.on rfl rfl ?_
    refine RunL.ok (OpOk.fieldAddr fld111_0 rfl) rfl ?_
    refine RunL.on rfl rfl ?_
    refine RunL.ok (OpOk.load rfl rfl rfl (Blk.out Blk.pts _ _ (by first | rfl | assumption))) rfl ?_
    refine RunL.on rfl rfl ?_
    refine RunL.ok (OpOk.gtr rfl rfl) rfl ?_
    refine RunL.ok (OpOk.pickF rfl rfl) rfl ?_
    refine RunL.ok (OpOk.move rfl) rfl ?_
    refine RunL.splitD (t := 78) rfl (fun y5 => ?_) (fun y5 => ?_)
    · refine RunL.off rfl rfl rfl rfl ?_
      refine RunL.off rfl rfl rfl rfl ?_
      refine RunL.off rfl rfl rfl rfl ?_
      refine RunL.ok (OpOk.pickT rfl rfl) rfl ?_
      refine RunL.ok (OpOk.move rfl) rfl ?_
      refine RunL.off rfl rfl rfl rfl ?_
      refine RunL.off rfl rfl rfl rfl ?_
      refine RunL.off rfl rfl rfl rfl ?_
      refine RunL.ok (OpOk.pickT rfl rfl) rfl ?_
      refine RunL.ok (OpOk.move rfl) rfl ?_
      refine RunL.off rfl rfl rfl rfl ?_
      refine RunL.off rfl rfl rfl rfl ?_
      refine RunL.off rfl rfl rfl rfl ?_
      refine RunL.ok (OpOk.pickT rfl rfl) rfl ?_
      refine RunL.ok (OpOk.move rfl) rfl ?_
      refine RunL.off rfl rfl rfl rfl ?_
      refine RunL.off rfl rfl rfl rfl ?_
      refine RunL.off rfl rfl rfl rfl ?_
      refine RunL.ok (OpOk.pickT rfl rfl) rfl ?_
      refine RunL.nil ?_
      refine Run.condT rfl ?_
      refine Run.seq ?_
      refine Run.region ?_
      refine RunL.ok (OpOk.loadS rfl rfl ti89 rfl Blk.pts.left.left rfl) rfl ?_
      refine RunL.storeAll ti89 rfl rfl rfl (ones rfl) (frl (frl (frl rfl))) rfl ?_
      refine RunL.ok (OpOk.assign rfl) rfl ?_
      refine RunL.nil ?_
      refine Run.retC2 (A' := _) Try.func93 rfl rfl rfl ti89 rfl rfl Blk.pts rfl (Grew.refl _) ?_
      refine ⟨Q, ad, i, cap, dirD (bs.take 30) i, ?_⟩
      have hgN := hb1 (by rintro ⟨⟨h1, h2, h3, h4, h5, h6⟩, h7⟩; dsimp only at h1 h2 h3 h4 h5 h6; omega)
      refine ex_two (by rw [hgN, Bool.false_and, Bool.false_and]) (fun h => by rw [hgN, Bool.false_and, Bool.false_and] at h; cases h) ?_
      repeat (first | exact out_of (by repeat (first | exact Grew.refl _ | refine Grew.mul ?_ _)) | refine out_mid ?_)
    refine RunL.on rfl rfl ?_
    refine RunL.ok (OpOk.fieldAddr fld111_1 rfl) rfl ?_
    refine RunL.on rfl rfl ?_
    refine RunL.ok (OpOk.load rfl rfl rfl (Blk.out Blk.pts _ _ (by first | rfl | assumption))) rfl ?_
    refine RunL.on rfl rfl ?_
    refine RunL.ok (OpOk.lss rfl rfl) rfl ?_
    refine RunL.ok (OpOk.pickF rfl rfl) rfl ?_
    refine RunL.ok (OpOk.move rfl) rfl ?_
    refine RunL.splitD (t := 83) rfl (fun y6 => ?_) (fun y6 => ?_)
    · refine RunL.off rfl rfl rfl rfl ?_
      refine RunL.off rfl rfl rfl rfl ?_
      refine RunL.off rfl rfl rfl rfl ?_
      refine RunL.ok (OpOk.pickT rfl rfl) rfl ?_
      refine RunL.ok (OpOk.move rfl) rfl ?_
      refine RunL.off rfl rfl rfl rfl ?_
      refine RunL.off rfl rfl rfl rfl ?_
      refine RunL.off rfl rfl rfl rfl ?_
      refine RunL.ok (OpOk.pickT rfl rfl) rfl ?_
      refine RunL.ok (OpOk.move rfl) rfl ?_
      refine RunL.off rfl rfl rfl rfl ?_
      refine RunL.off rfl rfl rfl rfl ?_
      refine RunL.off rfl rfl rfl rfl ?_
      refine RunL.ok (OpOk.pickT rfl rfl) rfl ?_
      refine RunL.nil ?_
      refine Run.condT rfl ?_
      refine Run.seq ?_
      refine Run.region ?_
      refine RunL.ok (OpOk.loadS rfl rfl ti89 rfl Blk.pts.left.left rfl) rfl ?_
      refine RunL.storeAll ti89 rfl rfl rfl (ones rfl) (frl (frl (frl rfl))) rfl ?_
      refine RunL.ok (OpOk.assign rfl) rfl ?_
      refine RunL.nil ?_
      refine Run.retC2 (A' := _) Try.func93 rfl rfl rfl ti89 rfl rfl Blk.pts rfl (Grew.refl _) ?_
      refine ⟨Q, ad, i, cap, dirD (bs.take 30) i, ?_⟩
      have hgN := hb1 (by rintro ⟨⟨h1, h2, h3, h4, h5, h6⟩, h7⟩; dsimp only at h1 h2 h3 h4 h5 h6; omega)
      refine ex_two (by rw [hgN, Bool.false_and, Bool.false_and]) (fun h => by rw [hgN, Bool.false_and, Bool.false_and] at h; cases h) ?_
      repeat (first | exact out_of (by repeat (first | exact Grew.refl _ | refine Grew.mul ?_ _)) | refine out_mid ?_)
    refine RunL.on rfl rfl ?_
    refine RunL.ok (OpOk.fieldAddr fld111_1 rfl) rfl ?_
    refine RunL.on rfl rfl ?_
    refine RunL.ok (OpOk.load rfl rfl rfl (Blk.out Blk.pts _ _ (by first | rfl | assumption))) rfl ?_
    refine RunL.on rfl rfl ?_
    refine RunL.ok (OpOk.gtr rfl rfl) rfl ?_
    refine RunL.ok (OpOk.pickF rfl rfl) rfl ?_
    refine RunL.ok (OpOk.move rfl) rfl ?_
    refine RunL.splitD (t := 88) rfl (fun y7 => ?_) (fun y7 => ?_)
    · refine RunL.off rfl rfl rfl rfl ?_
      refine RunL.off rfl rfl rfl rfl ?_
      refine RunL.off rfl rfl rfl rfl ?_
      refine RunL.ok (OpOk.pickT rfl rfl) rfl ?_
      refine RunL.ok (OpOk.move rfl) rfl ?_
      refine RunL.off rfl rfl rfl rfl ?_
      refine RunL.off rfl rfl rfl rfl ?_
      refine RunL.off rfl rfl rfl rfl ?_
      refine RunL.ok (OpOk.pickT rfl rfl) rfl ?_
      refine RunL.nil ?_
      refine Run.condT rfl ?_
      refine Run.seq ?_
      refine Run.region ?_
      refine RunL.ok (OpOk.loadS rfl rfl ti89 rfl Blk.pts.left.left rfl) rfl ?_
      refine RunL.storeAll ti89 rfl rfl rfl (ones rfl) (frl (frl (frl rfl))) rfl ?_
      refine RunL.ok (OpOk.assign rfl) rfl ?_
      refine RunL.nil ?_
      refine Run.retC2 (A' := _) Try.func93 rfl rfl rfl ti89 rfl rfl Blk.pts rfl (Grew.refl _) ?_
      refine ⟨Q, ad, i, cap, dirD (bs.take 30) i, ?_⟩
      have hgN := hb1 (by rintro ⟨⟨h1, h2, h3, h4, h5, h6⟩, h7⟩; dsimp only at h1 h2 h3 h4 h5 h6; omega)
      refine ex_two (by rw [hgN, Bool.false_and, Bool.false_and]) (fun h => by rw [hgN, Bool.false_and, Bool.false_and] at h; cases h) ?_
      repeat (first | exact out_of (by repeat (first | exact Grew.refl _ | refine Grew.mul ?_ _)) | refine out_mid ?_)
    refine RunL.on rfl rfl ?_
    refine RunL.ok (OpOk.fieldAddr fld111_2 rfl) rfl ?_
    refine RunL.on rfl rfl ?_
    refine RunL.ok (OpOk.load rfl rfl rfl (Blk.out Blk.pts _ _ (by first | rfl | assumption))) rfl ?_
    refine RunL.on rfl rfl ?_
    refine RunL.ok (OpOk.lss rfl rfl) rfl ?_
    refine RunL.ok (OpOk.pickF rfl rfl) rfl ?_
    refine RunL.ok (OpOk.move rfl) rfl ?_
    refine RunL.splitD (t := 93) rfl (fun y8 => ?_) (fun y8 => ?_)
    · refine RunL.off rfl rfl rfl rfl ?_
      refine RunL.off rfl rfl rfl rfl ?_
      refine RunL.off rfl rfl rfl rfl ?_
      refine RunL.ok (OpOk.pickT rfl rfl) rfl ?_
      refine RunL.nil ?_
      refine Run.condT rfl ?_
      refine Run.seq ?_
      refine Run.region ?_
      refine RunL.ok (OpOk.loadS rfl rfl ti89 rfl Blk.pts.left.left rfl) rfl ?_
      refine RunL.storeAll ti89 rfl rfl rfl (ones rfl) (frl (frl (frl rfl))) rfl ?_
      refine RunL.ok (OpOk.assign rfl) rfl ?_
      refine RunL.nil ?_
      refine Run.retC2 (A' := _) Try.func93 rfl rfl rfl ti89 rfl rfl Blk.pts rfl (Grew.refl _) ?_
      refine ⟨Q, ad, i, cap, dirD (bs.take 30) i, ?_⟩
      have hgN := hb1 (by rintro ⟨⟨h1, h2, h3, h4, h5, h6⟩, h7⟩; dsimp only at h1 h2 h3 h4 h5 h6; omega)
      refine ex_two (by rw [hgN, Bool.false_and, Bool.false_and]) (fun h => by rw [hgN, Bool.false_and, Bool.false_and] at h; cases h) ?_
      repeat (first | exact out_of (by repeat (first | exact Grew.refl _ | refine Grew.mul ?_ _)) | refine out_mid ?_)
    refine RunL.on rfl rfl ?_
    refine RunL.ok (OpOk.fieldAddr fld111_3 rfl) rfl ?_
    refine RunL.on rfl rfl ?_
    refine RunL.ok (OpOk.load rfl rfl rfl (Blk.out Blk.pts _ _ (by first | rfl | assumption))) rfl ?_
    refine RunL.on rfl rfl ?_
    refine RunL.ok (OpOk.gtr rfl rfl) rfl ?_
    refine RunL.ok (OpOk.pickF rfl rfl) rfl ?_
    refine RunL.nil ?_
    refine Run.condD rfl (fun y9 => ?_) (fun y9 => ?_)
    · refine Run.seq ?_
      refine Run.region ?_
      refine RunL.ok (OpOk.loadS rfl rfl ti89 rfl Blk.pts.left.left rfl) rfl ?_
      refine RunL.storeAll ti89 rfl rfl rfl (ones rfl) (frl (frl (frl rfl))) rfl ?_
      refine RunL.ok (OpOk.assign rfl) rfl ?_
      refine RunL.nil ?_
      refine Run.retC2 (A' := _) Try.func93 rfl rfl rfl ti89 rfl rfl Blk.pts rfl (Grew.refl _) ?_
      refine ⟨Q, ad, i, cap, dirD (bs.take 30) i, ?_⟩
      have hgN := hb1 (by rintro ⟨⟨h1, h2, h3, h4, h5, h6⟩, h7⟩; dsimp only at h1 h2 h3 h4 h5 h6; omega)
      refine ex_two (by rw [hgN, Bool.false_and, Bool.false_and]) (fun h => by rw [hgN, Bool.false_and, Bool.false_and] at h; cases h) ?_
      repeat (first | exact out_of (by repeat (first | exact Grew.refl _ | refine Grew.mul ?_ _)) | refine out_mid ?_)
    refine Run.skip ?_
    refine Run.seq ?_
    refine Run.seq ?_
    refine Run.region ?_
    refine RunL.ok (OpOk.assign rfl) rfl ?_
    refine RunL.nil ?_
    refine Run.block ?_
    have hn65 : n ≤ 65535 := by omega
    have hr : rightP (k, o, n, s) := ⟨by dsimp only; omega, by dsimp only; omega, by dsimp only; omega, by dsimp only; omega, by dsimp only; omega, by dsimp only; omega⟩
    clear rw_0 rw_1 rw_2 rw_3 hk ho hn hsl c0 c1 c2 c3 c4 hbyte rdc hb1
    refine Run.jump ((Run.loopJ (X := Nat × Asn) (fun x => [(9, .int .i64 (x.1 : Int)), (8, .pointer (some ⟨by3, 0, none⟩)), (6, .int .i64 (i : Int)), (5, .int .i64 (N : Int)), (4, .pointer (some ⟨bx2, 0, none⟩)), (2, .pointer (some ⟨bx1, 0, none⟩)), (0, u)]) (fun x => A * x.2 * pts bx1 (.cells #[.int .i64 0, .int .i64 0, .int .i64 0, .int .i64 0, .slice none 0 0] 89 (0, 0)) * pts bx2 (.cells #[.int .i64 0, .int .i64 0, .int .i64 Q, .int .i64 0, .slice ad i cap] 89 (0, 0)) * own 111 4 (.slice ad i cap) i (Fl encT111 (dirD (bs.take 30) i)) * pts by3 (.cells (Value.agg #[.int .i64 k, .int .i64 o, .int .i64 n, .int .i64 s]).cells 111 (0, 0))) (fun x => x.1 ≤ i ∧ ∀ j, j < x.1 → clash (k, o, n, s) ((dirD (bs.take 30) i).getD j default) = false) (fun x => i - x.1) (0, _) ⟨Nat.zero_le _, fun j hj => absurd hj (Nat.not_lt_zero _)⟩ (fun x hx ih2 => ?_))) ⟨rfl, rfl, rfl, rfl, rfl, rfl, rfl, trivial⟩ (Grew.of (congrArg (· * _) (congrArg (· * _) (congrArg (· * _) (congrArg (· * _) as1)))) (Grew.refl _))
    obtain ⟨j, J2⟩ := x
    simp only at hx ih2 ⊢
    obtain ⟨hj, hcl⟩ := hx
    rcases Nat.lt_or_ge j i with hlj | hgj
    · obtain ⟨e2, hoe⟩ : ∃ e2, (dirD (bs.take 30) i).getD j default = e2 := ⟨_, rfl⟩
      have hb2j := hb2 j hlj
      have hclj : clash (k, o, n, s) ((dirD (bs.take 30) i).getD j default) = false → ∀ t, t < j + 1 → clash (k, o, n, s) ((dirD (bs.take 30) i).getD t default) = false := fun h t ht => by
        rcases Nat.lt_or_ge t j with h1 | h1
        · exact hcl t h1
        · obtain rfl : t = j := by omega
          exact h
      rw [hoe] at hb2j hclj
      obtain ⟨k2, o2, n2, s2⟩ := e2
      have hcd : clash (k, o, n, s) (k2, o2, n2, s2) = decide (s2 = s ∨ o2 = o ∧ n2 = n) := rfl
      rw [hcd] at hb2j hclj
      refine Run.seq ?_
      refine Run.seq ?_
      refine Run.region ?_
      refine RunL.ok (OpOk.move rfl) rfl ?_
      refine RunL.ok (OpOk.move rfl) rfl ?_
      refine RunL.ok (OpOk.asT (OpOk.lss rfl rfl) (by omega)) rfl ?_
      refine RunL.nil ?_
      refine Run.condT rfl ?_
      refine Run.skip ?_
      refine Run.seq ?_
      refine Run.block ?_
      refine Run.seq ?_
      refine Run.region ?_
      refine RunL.ok (OpOk.fieldAddr fld89_4 rfl) rfl ?_
      refine RunL.ok (OpOk.load rfl rfl rfl (Blk.out Blk.pts.left.left _ _ (by first | rfl | assumption))) rfl ?_
      refine RunL.ok (OpOk.move rfl) rfl ?_
      refine RunL.ok (OpOk.idxN rfl ti111 rfl (Rd.right rdy1).left rfl (by omega)) rfl ?_
      refine RunL.ok (OpOk.loadFlE (by assumption) rfl rfl ti111 rfl (Rd.right rdy1).left (fun _ => rfl) rfl (by omega)) rfl ?_
      refine RunL.alloc ti111 rfl (fun bz1 => ?_)
      refine RunL.storeAll ti111 rfl rfl rfl (fun w hw => OneC.one (enc := encT111) ((k2, o2, n2, s2)) w hw) rfl rfl ?_
      refine RunL.nil ?_
      refine Run.seq ?_
      refine Run.region ?_
      refine RunL.ok (OpOk.fieldAddr fld111_3 rfl) rfl ?_
      refine RunL.ok (OpOk.load rfl rfl rfl (Blk.out Blk.pts _ _ (by first | rfl | assumption))) rfl ?_
      refine RunL.ok (OpOk.fieldAddr fld111_3 rfl) rfl ?_
      refine RunL.ok (OpOk.load rfl rfl rfl (Blk.out Blk.pts.left _ _ (by first | rfl | assumption))) rfl ?_
      refine RunL.ok (OpOk.eql rfl rfl) rfl ?_
      refine RunL.ok (OpOk.move rfl) rfl ?_
      refine RunL.splitD (t := 114) rfl (fun z2 => ?_) (fun z2 => ?_)
      · refine RunL.off rfl rfl rfl rfl ?_
        refine RunL.off rfl rfl rfl rfl ?_
        refine RunL.off rfl rfl rfl rfl ?_
        refine RunL.off rfl rfl rfl rfl ?_
        refine RunL.off rfl rfl rfl rfl ?_
        refine RunL.off rfl rfl rfl rfl ?_
        refine RunL.off rfl rfl rfl rfl ?_
        refine RunL.off rfl rfl rfl rfl ?_
        refine RunL.off rfl rfl rfl rfl ?_
        refine RunL.off rfl rfl rfl rfl ?_
        refine RunL.off rfl rfl rfl rfl ?_
        refine RunL.off rfl rfl rfl rfl ?_
        refine RunL.ok (OpOk.pickT rfl rfl) rfl ?_
        refine RunL.nil ?_
        refine Run.condT rfl ?_
        refine Run.seq ?_
        refine Run.region ?_
        refine RunL.ok (OpOk.loadS rfl rfl ti89 rfl Blk.pts.left.left.left rfl) rfl ?_
        refine RunL.storeAll ti89 rfl rfl rfl (ones rfl) (frl (frl (frl (frl rfl)))) rfl ?_
        refine RunL.ok (OpOk.assign rfl) rfl ?_
        refine RunL.nil ?_
        refine Run.retC2 (A' := _) Try.func93 rfl rfl rfl ti89 rfl rfl Blk.pts rfl (Grew.refl _) ?_
        refine ⟨Q, ad, i, cap, dirD (bs.take 30) i, ?_⟩
        have hgN := hb2j (decide_eq_true (by omega))
        refine ex_two (by rw [hgN, Bool.false_and, Bool.false_and]) (fun h => by rw [hgN, Bool.false_and, Bool.false_and] at h; cases h) ?_
        repeat (first | exact out_of (by repeat (first | exact Grew.refl _ | refine Grew.mul ?_ _)) | refine out_mid ?_)
      refine RunL.on rfl rfl ?_
      refine RunL.ok (OpOk.fieldAddr fld111_1 rfl) rfl ?_
      refine RunL.on rfl rfl ?_
      refine RunL.ok (OpOk.load rfl rfl rfl (Blk.out Blk.pts _ _ (by first | rfl | assumption))) rfl ?_
      refine RunL.on rfl rfl ?_
      refine RunL.ok (OpOk.fieldAddr fld111_1 rfl) rfl ?_
      refine RunL.on rfl rfl ?_
      refine RunL.ok (OpOk.load rfl rfl rfl (Blk.out Blk.pts.left _ _ (by first | rfl | assumption))) rfl ?_
      refine RunL.on rfl rfl ?_
      refine RunL.ok (OpOk.eql rfl rfl) rfl ?_
      refine RunL.on rfl rfl ?_
      refine RunL.ok (OpOk.move rfl) rfl ?_
      refine RunL.splitD (t := 120) rfl (fun z3 => ?_) (fun z3 => ?_)
      · refine RunL.on rfl rfl ?_
        refine RunL.ok (OpOk.fieldAddr fld111_2 rfl) rfl ?_
        refine RunL.on rfl rfl ?_
        refine RunL.ok (OpOk.load rfl rfl rfl (Blk.out Blk.pts _ _ (by first | rfl | assumption))) rfl ?_
        refine RunL.on rfl rfl ?_
        refine RunL.ok (OpOk.fieldAddr fld111_2 rfl) rfl ?_
        refine RunL.on rfl rfl ?_
        refine RunL.ok (OpOk.load rfl rfl rfl (Blk.out Blk.pts.left _ _ (by first | rfl | assumption))) rfl ?_
        refine RunL.on rfl rfl ?_
        refine RunL.ok (OpOk.eql rfl rfl) rfl ?_
        refine RunL.on rfl rfl ?_
        refine RunL.ok (OpOk.pickT rfl rfl) rfl ?_
        refine RunL.ok (OpOk.pickF rfl rfl) rfl ?_
        refine RunL.nil ?_
        refine Run.condD rfl (fun z4 => ?_) (fun z4 => ?_)
        · refine Run.seq ?_
          refine Run.region ?_
          refine RunL.ok (OpOk.loadS rfl rfl ti89 rfl Blk.pts.left.left.left rfl) rfl ?_
          refine RunL.storeAll ti89 rfl rfl rfl (ones rfl) (frl (frl (frl (frl rfl)))) rfl ?_
          refine RunL.ok (OpOk.assign rfl) rfl ?_
          refine RunL.nil ?_
          refine Run.retC2 (A' := _) Try.func93 rfl rfl rfl ti89 rfl rfl Blk.pts rfl (Grew.refl _) ?_
          refine ⟨Q, ad, i, cap, dirD (bs.take 30) i, ?_⟩
          have hgN := hb2j (decide_eq_true (by omega))
          refine ex_two (by rw [hgN, Bool.false_and, Bool.false_and]) (fun h => by rw [hgN, Bool.false_and, Bool.false_and] at h; cases h) ?_
          repeat (first | exact out_of (by repeat (first | exact Grew.refl _ | refine Grew.mul ?_ _)) | refine out_mid ?_)
        refine Run.skip ?_
        refine Run.inBlock ?_
        refine Run.region ?_
        refine RunL.ok (OpOk.move rfl) rfl ?_
        refine RunL.ok (OpOk.addN _ 1 rfl rfl rfl rfl (by omega)) rfl ?_
        refine RunL.ok (OpOk.assign rfl) rfl ?_
        refine RunL.nil ?_
        refine Run.jump ((ih2 (j + 1, _) ⟨by dsimp only; omega, hclj (decide_eq_false (by omega))⟩ (by dsimp only; omega))) ⟨rfl, rfl, rfl, rfl, rfl, rfl, rfl, trivial⟩ (Grew.of (Eq.trans (frc (frl rfl) (frc (frl rfl) (frc (frl rfl) (frc (frl rfl) rfl)))) (congrArg (· * _) (congrArg (· * _) (congrArg (· * _) (congrArg (· * _) (asg as1)))))) (Grew.refl _))
      refine RunL.off rfl rfl rfl rfl ?_
      refine RunL.off rfl rfl rfl rfl ?_
      refine RunL.off rfl rfl rfl rfl ?_
      refine RunL.off rfl rfl rfl rfl ?_
      refine RunL.off rfl rfl rfl rfl ?_
      refine RunL.on rfl rfl ?_
      refine RunL.ok (OpOk.pickF rfl rfl) rfl ?_
      refine RunL.ok (OpOk.pickF rfl rfl) rfl ?_
      refine RunL.nil ?_
      refine Run.condF rfl ?_
      refine Run.skip ?_
      refine Run.inBlock ?_
      refine Run.region ?_
      refine RunL.ok (OpOk.move rfl) rfl ?_
      refine RunL.ok (OpOk.addN _ 1 rfl rfl rfl rfl (by omega)) rfl ?_
      refine RunL.ok (OpOk.assign rfl) rfl ?_
      refine RunL.nil ?_
      refine Run.jump ((ih2 (j + 1, _) ⟨by dsimp only; omega, hclj (decide_eq_false (by omega))⟩ (by dsimp only; omega))) ⟨rfl, rfl, rfl, rfl, rfl, rfl, rfl, trivial⟩ (Grew.of (Eq.trans (frc (frl rfl) (frc (frl rfl) (frc (frl rfl) (frc (frl rfl) rfl)))) (congrArg (· * _) (congrArg (· * _) (congrArg (· * _) (congrArg (· * _) (asg as1)))))) (Grew.refl _))
    · obtain rfl : j = i := by omega
      clear ih2
      have hg1 := hb3 hr (by omega) hcl
      refine Run.seq ?_
      refine Run.seq ?_
      refine Run.region ?_
      refine RunL.ok (OpOk.move rfl) rfl ?_
      refine RunL.ok (OpOk.move rfl) rfl ?_
      refine RunL.ok (OpOk.asF (OpOk.lss rfl rfl) (by omega)) rfl ?_
      refine RunL.nil ?_
      refine Run.condF rfl ?_
      refine Run.exit rfl ?_
      refine Run.region ?_
      refine RunL.ok (OpOk.fieldAddr fld89_4 rfl) rfl ?_
      refine RunL.ok (OpOk.load rfl rfl rfl (Blk.out Blk.pts.left.left _ _ (by first | rfl | assumption))) rfl ?_
      refine RunL.ok (OpOk.loadS rfl rfl ti111 rfl Blk.pts rfl) rfl ?_
      refine RunL.litFl (enc := encT111) [(k, (o, (n, s)))] rfl ti111 rfl (fun _ => rfl) rfl rfl (by decide) (by decide) rfl (fun vz1 rdz1 => ?_)
      refine RunL.know (fun w s => (s.conv rfl).ownRd0) (fun rdz3 => ?_)
      refine RunL.appendF rfl ti111 rfl rfl rfl (frl (frl rfl)) (Rd.right rdz3) rfl (by decide) (by omega) (by simp only [maxLen]; omega) rfl (fun vz2 rdz2 => ?_)
      refine RunL.ok (OpOk.fieldAddr fld89_4 rfl) rfl ?_
      refine RunL.know (fun w s => (s.conv rfl).ownRd0) (fun rdz4 => ?_)
      refine RunL.store ti84 rfl rfl (Rd.one rdz4) (frl (frl (frl rfl))) (by exact Nat.le_of_ble_eq_true rfl) (.inl rfl) ?_
      refine RunL.nil ?_
      refine Run.inBlock ?_
      refine Run.region ?_
      refine RunL.ok (OpOk.move rfl) rfl ?_
      refine RunL.ok (OpOk.addN _ 1 rfl rfl rfl rfl (by omega)) rfl ?_
      refine RunL.ok (OpOk.assign rfl) rfl ?_
      refine RunL.nil ?_
      rw [← hdn]
      refine Run.know (fun w s => (s.conv (by rw [sep_assoc _ (own _ _ _ _ _), sep_comm (own _ _ _ _ _), ← sep_assoc])).ownRd0) (fun rd3 => ?_)
      obtain ⟨ad3, cap3, rfl, _, _⟩ := rd3.form
      refine Run.jump ((ih (j + 1, _, ad3, cap3) ⟨by dsimp only; omega, hg1⟩ (by dsimp only; omega))) ⟨rfl, rfl, rfl, rfl, rfl, trivial⟩ (Grew.of (Eq.trans (frc (frl rfl) (frc rfl (frc (frl (frl rfl)) rfl))) (congrArg (· * _) (congrArg (· * _) (congrArg (· * _) (asg (asg as1)))))) (Grew.refl _))
  · obtain rfl : i = N := by omega
    clear ih
    have rdz := rd.cutB (i := 3 + 5 * i) (j := 30) (by omega) (by omega)
    rw [← List.drop_take] at rdz
    have drawStop : True := trivial
    rcases Int.lt_or_le 0 Q with hq0 | hq0
    · refine Run.seq ?_
      refine Run.seq ?_
      refine Run.region ?_
      refine RunL.ok (OpOk.move rfl) rfl ?_
      refine RunL.ok (OpOk.move rfl) rfl ?_
      refine RunL.ok (OpOk.asF (OpOk.lss rfl rfl) (by omega)) rfl ?_
      refine RunL.nil ?_
      refine Run.condF rfl ?_
      refine Run.exit rfl ?_
      refine Run.seq ?_
      clear drawStop
      refine Run.mem (A' := A * J * pts bx2 (.cells #[.int .i64 0, .int .i64 0, .int .i64 Q, .int .i64 0, .slice ad i cap] 89 (0, 0)) * own 111 4 (.slice ad i cap) i (Fl encT111 (dirD (bs.take 30) i)) * pts bx1 (.cells #[.int .i64 0, .int .i64 0, .int .i64 0, .int .i64 0, .slice none 0 0] 89 (0, 0))) ?_ ?_
      · exact (frc (frl (frl rfl)) rfl)
      refine Run.drawL [13] (by rfl) (A := A * J * pts bx2 (.cells #[.int .i64 0, .int .i64 0, .int .i64 Q, .int .i64 0, .slice ad i cap] 89 (0, 0)) * own 111 4 (.slice ad i cap) i (Fl encT111 (dirD (bs.take 30) i))) (L := pts bx1 (.cells #[.int .i64 0, .int .i64 0, .int .i64 0, .int .i64 0, .slice none 0 0] 89 (0, 0))) rfl (by kernel_rfl) ?_
      refine St.quiet 0 _ _ rfl rfl rfl rfl (QOp.ok (fun X => OpOk.loadS rfl rfl ti89 rfl Blk.pts.left.left.left rfl)) ?_
      refine St.quiet 1 _ _ rfl rfl rfl rfl (QOp.ok (fun X => OpOk.fieldAddr fld89_2 rfl)) ?_
      refine St.quiet 2 _ _ rfl rfl rfl rfl (QOp.ok (fun X => OpOk.load rfl rfl rfl (Blk.out Blk.pts.left.left.left _ _ (by first | rfl | assumption)))) ?_
      refine St.quiet 3 _ _ rfl rfl rfl rfl (QOp.ok (fun X => OpOk.asT (OpOk.gtr rfl rfl) (by omega))) ?_
      refine St.quiet 4 _ _ rfl rfl rfl rfl (QOp.ok (fun X => OpOk.move rfl)) ?_
      refine St.quiet 5 _ _ rfl rfl rfl rfl (QOp.ok (fun X => OpOk.move rfl)) ?_
      refine St.quiet 6 _ _ rfl rfl rfl rfl (QOp.ok (fun X => OpOk.move rfl)) ?_
      refine St.quiet 7 _ _ rfl rfl rfl rfl (QOp.ok (fun X => OpOk.mulN 5 _ rfl rfl rfl rfl (by omega))) ?_
      refine St.quiet 8 _ _ rfl rfl rfl rfl (QOp.ok (fun X => OpOk.addN 3 _ rfl rfl rfl rfl (by omega))) ?_
      refine St.quiet 9 _ _ rfl rfl rfl rfl (QOp.ok (fun X => OpOk.cut (j := 30) rfl ti5 rfl rd.left.left.left.left.left ⟨_, rfl⟩ ⟨_, rfl⟩ (by omega) (by omega))) ?_
      refine St.quiet 10 _ _ rfl rfl rfl rfl (QOp.call cal92 rfl (fun X => s92 rdz.left.left.left.left.left)) ?_
      refine St.quiet 11 _ _ rfl rfl rfl rfl (QOp.ok (fun X => OpOk.pickT rfl rfl)) ?_
      refine St.chain 12 _ (fun _ P' L' => P' = emp ∧ L' = pts bx1 (.cells (Value.agg #[.int .i64 0, .int .i64 0, .int .i64 Q, .int .i64 0, .slice ad i cap]).cells 89 (0, 0))) rfl rfl rfl rfl (by kernel_rfl) ?_ ?_ (fun _ P' L' h => ⟨emp, by rw [h.1, sep_emp]⟩)
      · refine COp.ofS (ops := #[]) (fun K hk => RunL.storeAll ti89 rfl rfl rfl (ones rfl) rfl rfl (hk _ _ ⟨rfl, rfl⟩))
      · rintro _ P' L' ⟨rfl, rfl⟩
        refine St.tail (by kernel_rfl) ?_
        refine RunL.mem (by rw [sep_emp]) ?_
        refine RunL.ok (OpOk.assign rfl) rfl ?_
        refine RunL.nil ?_
        refine Run.retC2 (A' := _) Try.func93 rfl rfl rfl ti89 rfl rfl Blk.pts rfl (Grew.refl _) ?_
        refine ⟨Q, ad, i, cap, dirD (bs.take 30) i, ?_⟩
        refine ex_two (by rw [hgi, decide_eq_true hq0]; rfl) (fun _ => ⟨rfl, rfl, rfl⟩) ?_
        repeat (first | exact out_of (by repeat (first | exact Grew.refl _ | refine Grew.mul ?_ _)) | refine out_mid ?_)
    · refine Run.seq ?_
      refine Run.seq ?_
      refine Run.region ?_
      refine RunL.ok (OpOk.move rfl) rfl ?_
      refine RunL.ok (OpOk.move rfl) rfl ?_
      refine RunL.ok (OpOk.asF (OpOk.lss rfl rfl) (by omega)) rfl ?_
      refine RunL.nil ?_
      refine Run.condF rfl ?_
      refine Run.exit rfl ?_
      refine Run.seq ?_
      clear drawStop
      refine Run.mem (A' := A * J * pts bx2 (.cells #[.int .i64 0, .int .i64 0, .int .i64 Q, .int .i64 0, .slice ad i cap] 89 (0, 0)) * own 111 4 (.slice ad i cap) i (Fl encT111 (dirD (bs.take 30) i)) * pts bx1 (.cells #[.int .i64 0, .int .i64 0, .int .i64 0, .int .i64 0, .slice none 0 0] 89 (0, 0))) ?_ ?_
      · exact (frc (frl (frl rfl)) rfl)
      refine Run.drawL [13] (by rfl) (A := A * J * pts bx2 (.cells #[.int .i64 0, .int .i64 0, .int .i64 Q, .int .i64 0, .slice ad i cap] 89 (0, 0)) * own 111 4 (.slice ad i cap) i (Fl encT111 (dirD (bs.take 30) i))) (L := pts bx1 (.cells #[.int .i64 0, .int .i64 0, .int .i64 0, .int .i64 0, .slice none 0 0] 89 (0, 0))) rfl (by kernel_rfl) ?_
      refine St.quiet 0 _ _ rfl rfl rfl rfl (QOp.ok (fun X => OpOk.loadS rfl rfl ti89 rfl Blk.pts.left.left.left rfl)) ?_
      refine St.quiet 1 _ _ rfl rfl rfl rfl (QOp.ok (fun X => OpOk.fieldAddr fld89_2 rfl)) ?_
      refine St.quiet 2 _ _ rfl rfl rfl rfl (QOp.ok (fun X => OpOk.load rfl rfl rfl (Blk.out Blk.pts.left.left.left _ _ (by first | rfl | assumption)))) ?_
      refine St.quiet 3 _ _ rfl rfl rfl rfl (QOp.ok (fun X => OpOk.asF (OpOk.gtr rfl rfl) (by omega))) ?_
      refine St.quiet 4 _ _ rfl rfl rfl rfl (QOp.ok (fun X => OpOk.move rfl)) ?_
      refine St.skip 5 _ rfl rfl rfl rfl ?_
      refine St.skip 6 _ rfl rfl rfl rfl ?_
      refine St.skip 7 _ rfl rfl rfl rfl ?_
      refine St.skip 8 _ rfl rfl rfl rfl ?_
      refine St.skip 9 _ rfl rfl rfl rfl ?_
      refine St.skip 10 _ rfl rfl rfl rfl ?_
      refine St.quiet 11 _ _ rfl rfl rfl rfl (QOp.ok (fun X => OpOk.pickF rfl rfl)) ?_
      refine St.chain 12 _ (fun _ P' L' => P' = emp ∧ L' = pts bx1 (.cells (Value.agg #[.int .i64 0, .int .i64 0, .int .i64 Q, .int .i64 0, .slice ad i cap]).cells 89 (0, 0))) rfl rfl rfl rfl (by kernel_rfl) ?_ ?_ (fun _ P' L' h => ⟨emp, by rw [h.1, sep_emp]⟩)
      · refine COp.ofS (ops := #[]) (fun K hk => RunL.storeAll ti89 rfl rfl rfl (ones rfl) rfl rfl (hk _ _ ⟨rfl, rfl⟩))
      · rintro _ P' L' ⟨rfl, rfl⟩
        refine St.tail (by kernel_rfl) ?_
        refine RunL.mem (by rw [sep_emp]) ?_
        refine RunL.ok (OpOk.assign rfl) rfl ?_
        refine RunL.nil ?_
        refine Run.retC2 (A' := _) Try.func93 rfl rfl rfl ti89 rfl rfl Blk.pts rfl (Grew.refl _) ?_
        refine ⟨Q, ad, i, cap, dirD (bs.take 30) i, ?_⟩
        refine ex_two (by rw [hgi, decide_eq_false (by omega : ¬ 0 < Q)]; rfl) (fun _ => ⟨rfl, rfl, rfl⟩) ?_
        repeat (first | exact out_of (by repeat (first | exact Grew.refl _ | refine Grew.mul ?_ _)) | refine out_mid ?_)
end
end Go.Proofs.Yteopadjihklkmaa
end

section
namespace Go.Proofs.Yteopadjihklkmaa
open Go Go.Proofs
set_option maxRecDepth 100000
set_option maxHeartbeats 4000000
set_option linter.unusedSimpArgs false
set_option linter.unusedVariables false
theorem faceB_take {d : List UInt8} (h : d.length = 30) : faceB (by2 d 2) (by1 d 4) = d.take 5 ↔ d.getD 0 0 = 70 ∧ d.getD 1 0 = 66 := by
  have e : d.take 5 = (d.drop 0).take 5 := rfl
  rw [e, take5 (by omega), faceB, ofBy2a, ofBy2b, ofBy1]
  simp only [List.cons.injEq, and_true]
  constructor
  · rintro ⟨h1, h2⟩
    exact ⟨h1.symm, h2.symm⟩
  · rintro ⟨h1, h2⟩
    exact ⟨h1.symm, h2.symm⟩
theorem pad_of_take {d l : List UInt8} (h : d.length = 30) (hl : l.length = 5) : pad l = d ↔ l = d.take 5 ∧ zerosB (d.drop 5) = true := by
  constructor
  · intro e
    have h1 : l = d.take 5 := by rw [← e, pad, List.take_append_of_le_length (by omega), List.take_of_length_le (by omega)]
    refine ⟨h1, ?_⟩
    rw [← pad_take h (by decide), ← h1]
    exact e
  · rintro ⟨h1, h2⟩
    rw [h1]
    exact (pad_take h (by decide)).2 h2
theorem sectB_eq {bs l : List UInt8} (hl : bs.length = 32) (hs : sealed (bs.take 30) = bs) (h5 : l.length ≤ 30) : sectB l = bs ↔ pad l = bs.take 30 := by
  have hp : (pad l).length = (bs.take 30).length := by rw [pad_len h5, List.length_take]; omega
  rw [← sealed_inj hp, hs]
  rfl
theorem faceOk_doc {bs : List UInt8} (hl : bs.length = 32) (hs : sealed (bs.take 30) = bs) : faceOk bs ↔ (bs.getD 0 0 = 70 ∧ bs.getD 1 0 = 66) ∧ 1 ≤ cardB bs ∧ 1 ≤ issB bs ∧ issB bs ≤ 4 ∧ zerosB ((bs.take 30).drop 5) = true := by
  have hd : (bs.take 30).length = 30 := by rw [List.length_take]; omega
  have hc : cardB bs ≤ 65535 := by
    rw [cardB, by2]
    have h1 := ((bs.take (32 - 2)).getD 2 0).toNat_lt
    have h2 := ((bs.take (32 - 2)).getD (2 + 1) 0).toNat_lt
    omega
  have hf : faceB (cardB bs) (issB bs) = (bs.take 30).take 5 ↔ bs.getD 0 0 = 70 ∧ bs.getD 1 0 = 66 := by
    have := faceB_take hd
    rwa [take_by _ _ _ (by decide), take_by _ _ _ (by decide)] at this
  unfold faceOk namedP
  rw [sectB_eq hl hs (by show 5 ≤ 30; decide), pad_of_take hd rfl, hf]
  constructor
  · rintro ⟨⟨h1, _, h3, h4⟩, h5, h6⟩
    exact ⟨h5, h1, h3, h4, h6⟩
  · rintro ⟨h5, h1, h3, h4, h6⟩
    exact ⟨⟨h1, hc, h3, h4⟩, h5, h6⟩
theorem okB_split {bs : List UInt8} {N : Nat} (hl : bs.length = 32) (hs : sealed (bs.take 30) = bs) (hN : by1 (bs.take 30) 2 = (N : Int)) (hN5 : N ≤ 5) : okB bs = (goodD (bs.take 30) N && decide (0 < by2 (bs.take 30) 0) && zerosB ((bs.take 30).drop (3 + 5 * N))) := by
  have e1 : decide ((N : Int) ≤ 5) = true := decide_eq_true (by omega)
  have e2 : decide (1 ≤ by2 (bs.take 30) 0) = decide (0 < by2 (bs.take 30) 0) := decide_eq_decide.2 (by omega)
  rw [okB_doc hl, decide_eq_true hs, Bool.true_and, headD, hN, Int.toNat_natCast, e1, e2, Bool.and_true, Bool.and_comm (decide _)]
section
variable {w0 : World} {A : Asn} {u : Value} {m : Nat} {bs : List UInt8}
theorem dir_num (hl : bs.length = 32) : ∃ N : Nat, by1 (bs.take 30) 2 = (N : Int) ∧ (((bs.getD (Int.toNat 2) 0).toNat : Nat) : Int) = (N : Int) := ⟨(bs.getD 2 0).toNat, by rw [by1, take_by _ _ _ (by decide)], rfl⟩
theorem s93a (rd : Rd w0 A u 1 m (B bs)) (hm : m = 32) (hok : okB bs = true) : Spec Try.prog w0 93 [u] A (fun v' A' => ∃ ad cap J, v' = .tuple #[.agg #[.int .i64 0, .int .i64 0, .int .i64 (by2 (bs.take 30) 0), .int .i64 0, .slice ad (entsD (bs.take 30)).length cap], .bool true] ∧
    A' = A * J * own 111 4 (.slice ad (entsD (bs.take 30)).length cap) (entsD (bs.take 30)).length (Fl encT111 (entsD (bs.take 30)))) := by
  subst hm
  have hl := rd.lenB
  have hok2 := hok
  simp only [okB, headD, Bool.and_eq_true, decide_eq_true_eq] at hok2
  obtain ⟨⟨hs, ⟨_, h5⟩, _⟩, _⟩ := hok2
  obtain ⟨N, hN, hN2⟩ := dir_num hl
  have hsp := okB_split hl hs hN (by omega)
  refine (dir_go rd hs hN2 (by omega) rfl).mono ?_
  rintro v' A' ⟨q, ad, n, cap, es, J, rfl, hr, rfl⟩
  rw [← hsp] at hr
  obtain ⟨rfl, rfl, rfl⟩ := hr hok
  have e : entsD (bs.take 30) = dirD (bs.take 30) n := by rw [entsD, hN, Int.toNat_natCast]
  refine ⟨ad, cap, J, ?_, ?_⟩
  · rw [← hsp, hok, e, dirD_len]
  · rw [e, dirD_len]
theorem s93b (rd : Rd w0 A u 1 m (B bs)) (hm : m = 32) (hok : okB bs = false) : Spec Try.prog w0 93 [u] A (fun v' A' => ∃ q ad n cap J, v' = .tuple #[.agg #[.int .i64 0, .int .i64 0, .int .i64 q, .int .i64 0, .slice ad n cap], .bool false] ∧ A' = A * J) := by
  subst hm
  have hl := rd.lenB
  rcases Decidable.em (sealed (bs.take 30) = bs) with hs | hs
  · obtain ⟨N, hN, hN2⟩ := dir_num hl
    rcases Nat.lt_or_ge 5 N with h5 | h5
    · refine (dir_long rd hs (by rw [hN2]; omega)).mono ?_
      rintro v' A' ⟨J, rfl, rfl⟩
      exact ⟨0, none, 0, 0, J, rfl, rfl⟩
    · have hsp := okB_split hl hs hN h5
      refine (dir_go rd hs hN2 h5 rfl).mono ?_
      rintro v' A' ⟨q, ad, n, cap, es, J, rfl, hr, rfl⟩
      exact ⟨q, ad, n, cap, J * own 111 4 (.slice ad n cap) n (Fl encT111 es), by rw [← hsp, hok], by rw [sep_assoc A]⟩
  · refine (dir_bad rd hs).mono ?_
    rintro v' A' ⟨J, rfl, rfl⟩
    exact ⟨0, none, 0, 0, J, rfl, rfl⟩
end
end Go.Proofs.Yteopadjihklkmaa
end

section
namespace Go.Proofs.Yteopadjihklkmaa
open Go Go.Proofs
set_option maxRecDepth 100000
set_option maxHeartbeats 4000000
set_option linter.unusedSimpArgs false
set_option linter.unusedVariables false
theorem sec_at {xs : List UInt8} (j : Nat) (h : j < 32) : (secOf xs 0).getD j 0 = xs.getD j 0 := take_by _ _ _ h
theorem card_is (xs : List UInt8) : cardB (secOf xs 0) = (((xs.getD 2 0).toNat * 256 + (xs.getD 3 0).toNat : Nat) : Int) := by
  rw [cardB, by2, take_by _ _ _ (by decide), take_by _ _ _ (by decide), sec_at _ (by decide), sec_at _ (by decide)]
theorem iss_is (xs : List UInt8) : issB (secOf xs 0) = ((xs.getD 4 0).toNat : Int) := by
  rw [issB, by1, take_by _ _ _ (by decide), sec_at _ (by decide)]
theorem n70 (b : UInt8) (n : Nat) (hn : n < 256) : b = UInt8.ofNat n ↔ ((b.toNat : Nat) : Int) = (n : Int) := by
  rw [← UInt8.toNat_inj, UInt8.toNat_ofNat']
  omega
theorem okB_pos {bs : List UInt8} (h : okB bs = true) : 0 < by2 (bs.take 30) 0 := by
  simp only [okB, headD, Bool.and_eq_true, decide_eq_true_eq] at h
  have := h.1.2.1.1
  omega
section
variable {w0 : World} {A : Asn} {u : Value} {m : Nat} {xs : List UInt8}
theorem s40a (rd : Rd w0 A u 1 m (B xs)) (hm : m = 512) (hs : ¬ sealed ((secOf xs 0).take 30) = secOf xs 0) : Spec Try.prog w0 40 [u] A (fun v' A' => ∃ J, v' = .tuple #[.agg #[.int .i64 0, .int .i64 0, .int .i64 0, .int .i64 0, .slice none 0 0], .int .i64 13] ∧ A' = A * J) := by
  subst hm
  have hl := rd.lenB
  have rdc : Rd w0 A (cutV u 0 32 1) 1 32 (B (secOf xs 0)) := rd.cutB0 (j := 32) (by omega)
  refine Spec.of_run [(0, u)] Try.func40 rfl (Nat.le_of_ble_eq_true rfl) (by repeat (first | exact trivial | refine ⟨rfl, ?_⟩)) ?_
  refine Run.seq ?_
  refine Run.region ?_
  refine RunL.alloc ti89 rfl (fun bx1 => ?_)
  refine RunL.ok (OpOk.assign rfl) rfl ?_
  refine RunL.nil ?_
  refine Run.seq ?_
  refine Run.region ?_
  refine RunL.alloc ti89 rfl (fun bx2 => ?_)
  refine RunL.nil ?_
  refine Run.seq ?_
  refine Run.seq ?_
  refine Run.region ?_
  refine RunL.ok (OpOk.move rfl) rfl ?_
  refine RunL.ok (OpOk.cut (j := 32) rfl ti5 rfl rd.left.left rfl ⟨_, rfl⟩ (by omega) (by omega)) rfl ?_
  refine RunL.call cal91 rfl (s91 rdc.left.left rfl) rfl (fun vx3 Ax3 hx3 => ?_)
  obtain ⟨rfl, rfl⟩ := hx3
  refine RunL.ok (OpOk.not rfl) rfl ?_
  refine RunL.nil ?_
  refine Run.condNT rfl (by first | omega | assumption) ?_
  refine Run.seq ?_
  refine Run.region ?_
  refine RunL.ok (OpOk.loadS rfl rfl ti89 rfl Blk.pts rfl) rfl ?_
  refine RunL.storeAll ti89 rfl rfl rfl (ones rfl) (frl rfl) rfl ?_
  refine RunL.ok (OpOk.assign rfl) rfl ?_
  refine RunL.nil ?_
  refine Run.retC2 (A' := _) Try.func40 rfl rfl rfl ti89 rfl rfl Blk.pts rfl (Grew.refl _) ?_
  exact ⟨_, rfl, (asg as1)⟩
theorem s40b (rd : Rd w0 A u 1 m (B xs)) (hm : m = 512) (hs : sealed ((secOf xs 0).take 30) = secOf xs 0) (hf : ¬ faceOk (secOf xs 0)) : Spec Try.prog w0 40 [u] A (fun v' A' => ∃ J, v' = .tuple #[.agg #[.int .i64 0, .int .i64 0, .int .i64 0, .int .i64 0, .slice none 0 0], .int .i64 12] ∧ A' = A * J) := by
  subst hm
  have hl := rd.lenB
  have rdc : Rd w0 A (cutV u 0 32 1) 1 32 (B (secOf xs 0)) := rd.cutB0 (j := 32) (by omega)
  have rdz : Rd w0 A (cutV u 5 30 1) 1 25 (B (((secOf xs 0).take 30).drop 5)) := by
    have := rd.cutB (i := 5) (j := 30) (by omega) (by omega)
    have e : (xs.drop 5).take (30 - 5) = ((secOf xs 0).take 30).drop 5 := by
      show _ = ((xs.take 32).take 30).drop 5
      rw [List.take_take, List.drop_take]
      rfl
    rwa [e] at this
  rw [faceOk_doc (secOf_length hl (by decide)) hs, card_is, iss_is, sec_at _ (by decide), sec_at _ (by decide)] at hf
  have b0 := (xs.getD (Int.toNat 0) 0).toNat_lt
  have b1 := (xs.getD (Int.toNat 1) 0).toNat_lt
  have b2 := (xs.getD (Int.toNat 2) 0).toNat_lt
  have b3 := (xs.getD (Int.toNat 3) 0).toNat_lt
  have b4 := (xs.getD (Int.toNat 4) 0).toNat_lt
  refine Spec.of_run [(0, u)] Try.func40 rfl (Nat.le_of_ble_eq_true rfl) (by repeat (first | exact trivial | refine ⟨rfl, ?_⟩)) ?_
  refine Run.seq ?_
  refine Run.region ?_
  refine RunL.alloc ti89 rfl (fun bx1 => ?_)
  refine RunL.ok (OpOk.assign rfl) rfl ?_
  refine RunL.nil ?_
  refine Run.seq ?_
  refine Run.region ?_
  refine RunL.alloc ti89 rfl (fun bx2 => ?_)
  refine RunL.nil ?_
  refine Run.seq ?_
  refine Run.seq ?_
  refine Run.region ?_
  refine RunL.ok (OpOk.move rfl) rfl ?_
  refine RunL.ok (OpOk.cut (j := 32) rfl ti5 rfl rd.left.left rfl ⟨_, rfl⟩ (by omega) (by omega)) rfl ?_
  refine RunL.call cal91 rfl (s91 rdc.left.left rfl) rfl (fun vx3 Ax3 hx3 => ?_)
  obtain ⟨rfl, rfl⟩ := hx3
  refine RunL.ok (OpOk.not rfl) rfl ?_
  refine RunL.nil ?_
  refine Run.condNF rfl (by first | omega | with_reducible rfl | assumption) ?_
  refine Run.skip ?_
  refine Run.seq ?_
  (apply Run.drawD [] (by rfl) (sep_emp _).symm; case hchk => kernel_rfl)
  refine Sd.quiet 0 _ _ rfl rfl rfl rfl rfl (QOp.ok (fun X => OpOk.move rfl)) ?_
  refine Sd.quiet 1 _ _ rfl rfl rfl rfl rfl (QOp.ok (fun X => OpOk.idx1 rfl ti5 rfl rd.left.left.left.left rfl (by omega) (by omega))) ?_
  refine Sd.quiet 2 _ _ rfl rfl rfl rfl rfl (QOp.ok (fun X => OpOk.load rfl rfl rfl (Rd.getB rd.left.left.left.left (by omega)))) ?_
  refine Sd.quiet 3 _ _ rfl rfl rfl rfl rfl (QOp.ok (fun X => OpOk.convInt rfl rfl rfl (wrapI (by omega) (by omega)))) ?_
  refine Sd.quiet 4 _ _ rfl rfl rfl rfl rfl (QOp.ok (fun X => OpOk.mulN _ 256 rfl rfl rfl rfl (by omega))) ?_
  refine Sd.quiet 5 _ _ rfl rfl rfl rfl rfl (QOp.ok (fun X => OpOk.move rfl)) ?_
  refine Sd.quiet 6 _ _ rfl rfl rfl rfl rfl (QOp.ok (fun X => OpOk.idx1 rfl ti5 rfl rd.left.left.left.left rfl (by omega) (by omega))) ?_
  refine Sd.quiet 7 _ _ rfl rfl rfl rfl rfl (QOp.ok (fun X => OpOk.load rfl rfl rfl (Rd.getB rd.left.left.left.left (by omega)))) ?_
  refine Sd.quiet 8 _ _ rfl rfl rfl rfl rfl (QOp.ok (fun X => OpOk.convInt rfl rfl rfl (wrapI (by omega) (by omega)))) ?_
  refine Sd.quiet 9 _ _ rfl rfl rfl rfl rfl (QOp.ok (fun X => OpOk.addN _ _ rfl rfl rfl rfl (by omega))) ?_
  refine Sd.quiet 10 _ _ rfl rfl rfl rfl rfl (QOp.ok (fun X => OpOk.assign rfl)) ?_
  (apply Sd.tail; case hall => kernel_rfl)
  refine RunL.mem (fl2 (sep_emp _) (sep_emp _)) ?_
  refine RunL.nil ?_
  refine Run.seq ?_
  refine Run.seq ?_
  refine Run.region ?_
  refine RunL.ok (OpOk.move rfl) rfl ?_
  refine RunL.ok (OpOk.idx1 rfl ti5 rfl rd.left.left rfl (by omega) (by omega)) rfl ?_
  refine RunL.ok (OpOk.load rfl rfl rfl (Rd.getB rd.left.left (by omega))) rfl ?_
  refine RunL.ok (OpOk.neq rfl rfl) rfl ?_
  refine RunL.ok (OpOk.move rfl) rfl ?_
  refine RunL.splitN (t := 30) rfl (fun x4 => ?_) (fun x4 => ?_)
  · refine RunL.off rfl rfl rfl rfl ?_
    refine RunL.off rfl rfl rfl rfl ?_
    refine RunL.off rfl rfl rfl rfl ?_
    refine RunL.off rfl rfl rfl rfl ?_
    refine RunL.ok (OpOk.pickT rfl rfl) rfl ?_
    refine RunL.ok (OpOk.move rfl) rfl ?_
    refine RunL.off rfl rfl rfl rfl ?_
    refine RunL.off rfl rfl rfl rfl ?_
    refine RunL.ok (OpOk.pickT rfl rfl) rfl ?_
    refine RunL.ok (OpOk.move rfl) rfl ?_
    refine RunL.off rfl rfl rfl rfl ?_
    refine RunL.off rfl rfl rfl rfl ?_
    refine RunL.off rfl rfl rfl rfl ?_
    refine RunL.off rfl rfl rfl rfl ?_
    refine RunL.ok (OpOk.pickT rfl rfl) rfl ?_
    refine RunL.ok (OpOk.move rfl) rfl ?_
    refine RunL.off rfl rfl rfl rfl ?_
    refine RunL.off rfl rfl rfl rfl ?_
    refine RunL.off rfl rfl rfl rfl ?_
    refine RunL.off rfl rfl rfl rfl ?_
    refine RunL.ok (OpOk.pickT rfl rfl) rfl ?_
    refine RunL.ok (OpOk.move rfl) rfl ?_
    refine RunL.off rfl rfl rfl rfl ?_
    refine RunL.off rfl rfl rfl rfl ?_
    refine RunL.off rfl rfl rfl rfl ?_
    refine RunL.off rfl rfl rfl rfl ?_
    refine RunL.ok (OpOk.pickT rfl rfl) rfl ?_
    refine RunL.nil ?_
    refine Run.condT rfl ?_
    refine Run.seq ?_
    refine Run.region ?_
    refine RunL.ok (OpOk.loadS rfl rfl ti89 rfl Blk.pts rfl) rfl ?_
    refine RunL.storeAll ti89 rfl rfl rfl (ones rfl) (frl rfl) rfl ?_
    refine RunL.ok (OpOk.assign rfl) rfl ?_
    refine RunL.nil ?_
    refine Run.retC2 (A' := _) Try.func40 rfl rfl rfl ti89 rfl rfl Blk.pts rfl (Grew.refl _) ?_
    exact ⟨_, rfl, (asg as1)⟩
  refine RunL.on rfl rfl ?_
  refine RunL.ok (OpOk.move rfl) rfl ?_
  refine RunL.on rfl rfl ?_
  refine RunL.ok (OpOk.idx1 rfl ti5 rfl rd.left.left rfl (by omega) (by omega)) rfl ?_
  refine RunL.on rfl rfl ?_
  refine RunL.ok (OpOk.load rfl rfl rfl (Rd.getB rd.left.left (by omega))) rfl ?_
  refine RunL.on rfl rfl ?_
  refine RunL.ok (OpOk.neq rfl rfl) rfl ?_
  refine RunL.ok (OpOk.pickF rfl rfl) rfl ?_
  refine RunL.ok (OpOk.move rfl) rfl ?_
  refine RunL.splitN (t := 36) rfl (fun x5 => ?_) (fun x5 => ?_)
  · refine RunL.off rfl rfl rfl rfl ?_
    refine RunL.off rfl rfl rfl rfl ?_
    refine RunL.ok (OpOk.pickT rfl rfl) rfl ?_
    refine RunL.ok (OpOk.move rfl) rfl ?_
    refine RunL.off rfl rfl rfl rfl ?_
    refine RunL.off rfl rfl rfl rfl ?_
    refine RunL.off rfl rfl rfl rfl ?_
    refine RunL.off rfl rfl rfl rfl ?_
    refine RunL.ok (OpOk.pickT rfl rfl) rfl ?_
    refine RunL.ok (OpOk.move rfl) rfl ?_
    refine RunL.off rfl rfl rfl rfl ?_
    refine RunL.off rfl rfl rfl rfl ?_
    refine RunL.off rfl rfl rfl rfl ?_
    refine RunL.off rfl rfl rfl rfl ?_
    refine RunL.ok (OpOk.pickT rfl rfl) rfl ?_
    refine RunL.ok (OpOk.move rfl) rfl ?_
    refine RunL.off rfl rfl rfl rfl ?_
    refine RunL.off rfl rfl rfl rfl ?_
    refine RunL.off rfl rfl rfl rfl ?_
    refine RunL.off rfl rfl rfl rfl ?_
    refine RunL.ok (OpOk.pickT rfl rfl) rfl ?_
    refine RunL.nil ?_
    refine Run.condT rfl ?_
    refine Run.seq ?_
    refine Run.region ?_
    refine RunL.ok (OpOk.loadS rfl rfl ti89 rfl Blk.pts rfl) rfl ?_
    refine RunL.storeAll ti89 rfl rfl rfl (ones rfl) (frl rfl) rfl ?_
    refine RunL.ok (OpOk.assign rfl) rfl ?_
    refine RunL.nil ?_
    refine Run.retC2 (A' := _) Try.func40 rfl rfl rfl ti89 rfl rfl Blk.pts rfl (Grew.refl _) ?_
    exact ⟨_, rfl, (asg as1)⟩
  refine RunL.on rfl rfl ?_
  refine RunL.ok (OpOk.move rfl) rfl ?_
  refine RunL.on rfl rfl ?_
  refine RunL.ok (OpOk.lss rfl rfl) rfl ?_
  refine RunL.ok (OpOk.pickF rfl rfl) rfl ?_
  refine RunL.ok (OpOk.move rfl) rfl ?_
  refine RunL.splitD (t := 40) rfl (fun x6 => ?_) (fun x6 => ?_)
  · refine RunL.off rfl rfl rfl rfl ?_
    refine RunL.off rfl rfl rfl rfl ?_
    refine RunL.off rfl rfl rfl rfl ?_
    refine RunL.off rfl rfl rfl rfl ?_
    refine RunL.ok (OpOk.pickT rfl rfl) rfl ?_
    refine RunL.ok (OpOk.move rfl) rfl ?_
    refine RunL.off rfl rfl rfl rfl ?_
    refine RunL.off rfl rfl rfl rfl ?_
    refine RunL.off rfl rfl rfl rfl ?_
    refine RunL.off rfl rfl rfl rfl ?_
    refine RunL.ok (OpOk.pickT rfl rfl) rfl ?_
    refine RunL.ok (OpOk.move rfl) rfl ?_
    refine RunL.off rfl rfl rfl rfl ?_
    refine RunL.off rfl rfl rfl rfl ?_
    refine RunL.off rfl rfl rfl rfl ?_
    refine RunL.off rfl rfl rfl rfl ?_
    refine RunL.ok (OpOk.pickT rfl rfl) rfl ?_
    refine RunL.nil ?_
    refine Run.condT rfl ?_
    refine Run.seq ?_
    refine Run.region ?_
    refine RunL.ok (OpOk.loadS rfl rfl ti89 rfl Blk.pts rfl) rfl ?_
    refine RunL.storeAll ti89 rfl rfl rfl (ones rfl) (frl rfl) rfl ?_
    refine RunL.ok (OpOk.assign rfl) rfl ?_
    refine RunL.nil ?_
    refine Run.retC2 (A' := _) Try.func40 rfl rfl rfl ti89 rfl rfl Blk.pts rfl (Grew.refl _) ?_
    exact ⟨_, rfl, (asg as1)⟩
  refine RunL.on rfl rfl ?_
  refine RunL.ok (OpOk.move rfl) rfl ?_
  refine RunL.on rfl rfl ?_
  refine RunL.ok (OpOk.idx1 rfl ti5 rfl rd.left.left rfl (by omega) (by omega)) rfl ?_
  refine RunL.on rfl rfl ?_
  refine RunL.ok (OpOk.load rfl rfl rfl (Rd.getB rd.left.left (by omega))) rfl ?_
  refine RunL.on rfl rfl ?_
  refine RunL.ok (OpOk.lss rfl rfl) rfl ?_
  refine RunL.ok (OpOk.pickF rfl rfl) rfl ?_
  refine RunL.ok (OpOk.move rfl) rfl ?_
  refine RunL.splitD (t := 46) rfl (fun x7 => ?_) (fun x7 => ?_)
  · refine RunL.off rfl rfl rfl rfl ?_
    refine RunL.off rfl rfl rfl rfl ?_
    refine RunL.off rfl rfl rfl rfl ?_
    refine RunL.off rfl rfl rfl rfl ?_
    refine RunL.ok (OpOk.pickT rfl rfl) rfl ?_
    refine RunL.ok (OpOk.move rfl) rfl ?_
    refine RunL.off rfl rfl rfl rfl ?_
    refine RunL.off rfl rfl rfl rfl ?_
    refine RunL.off rfl rfl rfl rfl ?_
    refine RunL.off rfl rfl rfl rfl ?_
    refine RunL.ok (OpOk.pickT rfl rfl) rfl ?_
    refine RunL.nil ?_
    refine Run.condT rfl ?_
    refine Run.seq ?_
    refine Run.region ?_
    refine RunL.ok (OpOk.loadS rfl rfl ti89 rfl Blk.pts rfl) rfl ?_
    refine RunL.storeAll ti89 rfl rfl rfl (ones rfl) (frl rfl) rfl ?_
    refine RunL.ok (OpOk.assign rfl) rfl ?_
    refine RunL.nil ?_
    refine Run.retC2 (A' := _) Try.func40 rfl rfl rfl ti89 rfl rfl Blk.pts rfl (Grew.refl _) ?_
    exact ⟨_, rfl, (asg as1)⟩
  refine RunL.on rfl rfl ?_
  refine RunL.ok (OpOk.move rfl) rfl ?_
  refine RunL.on rfl rfl ?_
  refine RunL.ok (OpOk.idx1 rfl ti5 rfl rd.left.left rfl (by omega) (by omega)) rfl ?_
  refine RunL.on rfl rfl ?_
  refine RunL.ok (OpOk.load rfl rfl rfl (Rd.getB rd.left.left (by omega))) rfl ?_
  refine RunL.on rfl rfl ?_
  refine RunL.ok (OpOk.gtr rfl rfl) rfl ?_
  refine RunL.ok (OpOk.pickF rfl rfl) rfl ?_
  refine RunL.ok (OpOk.move rfl) rfl ?_
  refine RunL.splitD (t := 52) rfl (fun x8 => ?_) (fun x8 => ?_)
  · refine RunL.off rfl rfl rfl rfl ?_
    refine RunL.off rfl rfl rfl rfl ?_
    refine RunL.off rfl rfl rfl rfl ?_
    refine RunL.off rfl rfl rfl rfl ?_
    refine RunL.ok (OpOk.pickT rfl rfl) rfl ?_
    refine RunL.nil ?_
    refine Run.condT rfl ?_
    refine Run.seq ?_
    refine Run.region ?_
    refine RunL.ok (OpOk.loadS rfl rfl ti89 rfl Blk.pts rfl) rfl ?_
    refine RunL.storeAll ti89 rfl rfl rfl (ones rfl) (frl rfl) rfl ?_
    refine RunL.ok (OpOk.assign rfl) rfl ?_
    refine RunL.nil ?_
    refine Run.retC2 (A' := _) Try.func40 rfl rfl rfl ti89 rfl rfl Blk.pts rfl (Grew.refl _) ?_
    exact ⟨_, rfl, (asg as1)⟩
  refine RunL.on rfl rfl ?_
  refine RunL.ok (OpOk.move rfl) rfl ?_
  refine RunL.on rfl rfl ?_
  refine RunL.ok (OpOk.cut (i := 5) (j := 30) rfl ti5 rfl rd.left.left ⟨_, rfl⟩ ⟨_, rfl⟩ (by omega) (by omega)) rfl ?_
  refine RunL.on rfl rfl ?_
  refine RunL.call cal92 rfl (s92 rdz.left.left) rfl (fun vx9 Ax9 hx9 => ?_)
  obtain ⟨rfl, rfl⟩ := hx9
  refine RunL.on rfl rfl ?_
  refine RunL.ok (OpOk.not rfl) rfl ?_
  refine RunL.ok (OpOk.pickF rfl rfl) rfl ?_
  refine RunL.nil ?_
  refine Run.cond rfl (fun x10 => ?_) (fun x10 => ?_)
  · refine Run.seq ?_
    refine Run.region ?_
    refine RunL.ok (OpOk.loadS rfl rfl ti89 rfl Blk.pts rfl) rfl ?_
    refine RunL.storeAll ti89 rfl rfl rfl (ones rfl) (frl rfl) rfl ?_
    refine RunL.ok (OpOk.assign rfl) rfl ?_
    refine RunL.nil ?_
    refine Run.retC2 (A' := _) Try.func40 rfl rfl rfl ti89 rfl rfl Blk.pts rfl (Grew.refl _) ?_
    exact ⟨_, rfl, (asg as1)⟩
  refine Run.skip ?_
  refine Run.seq ?_
  refine Run.region ?_
  refine RunL.ok (OpOk.move rfl) rfl ?_
  refine RunL.ok (OpOk.cut (i := 32) (j := 64) rfl ti5 rfl rd.left.left ⟨_, rfl⟩ ⟨_, rfl⟩ (by omega) (by omega)) rfl ?_
  exact absurd ⟨⟨(n70 _ 70 (by decide)).2 x4, (n70 _ 66 (by decide)).2 x5⟩, Int.not_lt.1 x6, Int.not_lt.1 x7, Int.not_lt.1 x8, by simpa using x10⟩ hf
theorem refread_go (rd : Rd w0 A u 1 m (B xs)) (hm : m = 512) (hs : sealed ((secOf xs 0).take 30) = secOf xs 0) (hf : faceOk (secOf xs 0)) : Spec Try.prog w0 40 [u] A (fun v' A' => ∃ ad cap J, (v' = if (bestF xs 2).2.1 = 0 then .tuple #[.agg #[.int .i64 0, .int .i64 0, .int .i64 0, .int .i64 0, .slice none 0 0], .int .i64 21] else .tuple #[.agg #[.int .i64 (cardB (secOf xs 0)), .int .i64 (issB (secOf xs 0)), .int .i64 (bestF xs 2).1, .int .i64 (bestF xs 2).2.1, .slice ad (bestF xs 2).2.2.length cap], .int .i64 0]) ∧ A' = A * J * own 111 4 (.slice ad (bestF xs 2).2.2.length cap) (bestF xs 2).2.2.length (Fl encT111 (bestF xs 2).2.2)) := by
  subst hm
  have hl := rd.lenB
  have rdc : Rd w0 A (cutV u 0 32 1) 1 32 (B (secOf xs 0)) := rd.cutB0 (j := 32) (by omega)
  have rd1 : Rd w0 A (cutV u 32 64 1) 1 32 (B (secOf xs 1)) := rd.cutB (i := 32) (j := 64) (by omega) (by omega)
  have rd2 : Rd w0 A (cutV u 64 96 1) 1 32 (B (secOf xs 2)) := rd.cutB (i := 64) (j := 96) (by omega) (by omega)
  have rdz : Rd w0 A (cutV u 5 30 1) 1 25 (B (((secOf xs 0).take 30).drop 5)) := by
    have := rd.cutB (i := 5) (j := 30) (by omega) (by omega)
    have e : (xs.drop 5).take (30 - 5) = ((secOf xs 0).take 30).drop 5 := by
      show _ = ((xs.take 32).take 30).drop 5
      rw [List.take_take, List.drop_take]
      rfl
    rwa [e] at this
  have hci := card_is xs
  have hii := iss_is xs
  rw [faceOk_doc (secOf_length hl (by decide)) hs, sec_at _ (by decide), sec_at _ (by decide), hci, hii] at hf
  obtain ⟨⟨h70, h66⟩, hid, his1, his4, hz⟩ := hf
  have h70b : (((xs.getD (Int.toNat 0) 0).toNat : Nat) : Int) = 70 := (n70 _ 70 (by decide)).1 h70
  have h66b : (((xs.getD (Int.toNat 1) 0).toNat : Nat) : Int) = 66 := (n70 _ 66 (by decide)).1 h66
  have rw_id : (((xs.getD (Int.toNat 2) 0).toNat * 256 + (xs.getD (Int.toNat 3) 0).toNat : Nat) : Int) = cardB (secOf xs 0) := hci.symm
  have rw_is : (((xs.getD (Int.toNat 4) 0).toNat : Nat) : Int) = issB (secOf xs 0) := hii.symm
  rw [← hci] at hid
  have his1b : 1 ≤ (((xs.getD (Int.toNat 4) 0).toNat : Nat) : Int) := his1
  have his4b : (((xs.getD (Int.toNat 4) 0).toNat : Nat) : Int) ≤ 4 := his4
  have b0 := (xs.getD (Int.toNat 0) 0).toNat_lt
  have b1 := (xs.getD (Int.toNat 1) 0).toNat_lt
  have b2 := (xs.getD (Int.toNat 2) 0).toNat_lt
  have b3 := (xs.getD (Int.toNat 3) 0).toNat_lt
  have b4 := (xs.getD (Int.toNat 4) 0).toNat_lt
  have hb2 := bestF_two xs
  have hb1 := bestF_one xs
  cases ok1 : okB (secOf xs 1) with
  | true =>
    cases ok2 : okB (secOf xs 2) with
    | true =>
      have hp1 : 0 < by2 ((secOf xs 1).take 30) 0 := okB_pos ok1
      rw [ok1, if_pos ⟨rfl, hp1⟩] at hb1
      rw [hb1, ok2] at hb2
      rcases Int.lt_or_le (by2 ((secOf xs 1).take 30) 0) (by2 ((secOf xs 2).take 30) 0) with hq | hq
      · have hbst : bestF xs 2 = (by2 ((secOf xs 2).take 30) 0, ((2 : Nat) : Int), entsD ((secOf xs 2).take 30)) := by rw [hb2]; exact if_pos ⟨rfl, hq⟩
        refine Spec.of_run [(0, u)] Try.func40 rfl (Nat.le_of_ble_eq_true rfl) (by repeat (first | exact trivial | refine ⟨rfl, ?_⟩)) ?_
        refine Run.seq ?_
        refine Run.region ?_
        refine RunL.alloc ti89 rfl (fun bx1 => ?_)
        refine RunL.ok (OpOk.assign rfl) rfl ?_
        refine RunL.nil ?_
        refine Run.seq ?_
        refine Run.region ?_
        refine RunL.alloc ti89 rfl (fun bx2 => ?_)
        refine RunL.nil ?_
        refine Run.seq ?_
        refine Run.seq ?_
        refine Run.region ?_
        refine RunL.ok (OpOk.move rfl) rfl ?_
        refine RunL.ok (OpOk.cut (j := 32) rfl ti5 rfl rd.left.left rfl ⟨_, rfl⟩ (by omega) (by omega)) rfl ?_
        refine RunL.call cal91 rfl (s91 rdc.left.left rfl) rfl (fun vx3 Ax3 hx3 => ?_)
        obtain ⟨rfl, rfl⟩ := hx3
        refine RunL.ok (OpOk.not rfl) rfl ?_
        refine RunL.nil ?_
        refine Run.condNF rfl (by first | omega | with_reducible rfl | assumption) ?_
        refine Run.skip ?_
        refine Run.seq ?_
        (apply Run.drawD [] (by rfl) (sep_emp _).symm; case hchk => kernel_rfl)
        refine Sd.quiet 0 _ _ rfl rfl rfl rfl rfl (QOp.ok (fun X => OpOk.move rfl)) ?_
        refine Sd.quiet 1 _ _ rfl rfl rfl rfl rfl (QOp.ok (fun X => OpOk.idx1 rfl ti5 rfl rd.left.left.left.left rfl (by omega) (by omega))) ?_
        refine Sd.quiet 2 _ _ rfl rfl rfl rfl rfl (QOp.ok (fun X => OpOk.load rfl rfl rfl (Rd.getB rd.left.left.left.left (by omega)))) ?_
        refine Sd.quiet 3 _ _ rfl rfl rfl rfl rfl (QOp.ok (fun X => OpOk.convInt rfl rfl rfl (wrapI (by omega) (by omega)))) ?_
        refine Sd.quiet 4 _ _ rfl rfl rfl rfl rfl (QOp.ok (fun X => OpOk.mulN _ 256 rfl rfl rfl rfl (by omega))) ?_
        refine Sd.quiet 5 _ _ rfl rfl rfl rfl rfl (QOp.ok (fun X => OpOk.move rfl)) ?_
        refine Sd.quiet 6 _ _ rfl rfl rfl rfl rfl (QOp.ok (fun X => OpOk.idx1 rfl ti5 rfl rd.left.left.left.left rfl (by omega) (by omega))) ?_
        refine Sd.quiet 7 _ _ rfl rfl rfl rfl rfl (QOp.ok (fun X => OpOk.load rfl rfl rfl (Rd.getB rd.left.left.left.left (by omega)))) ?_
        refine Sd.quiet 8 _ _ rfl rfl rfl rfl rfl (QOp.ok (fun X => OpOk.convInt rfl rfl rfl (wrapI (by omega) (by omega)))) ?_
        refine Sd.quiet 9 _ _ rfl rfl rfl rfl rfl (QOp.ok (fun X => OpOk.addN _ _ rfl rfl rfl rfl (by omega))) ?_
        refine Sd.quiet 10 _ _ rfl rfl rfl rfl rfl (QOp.ok (fun X => OpOk.assign rfl)) ?_
        (apply Sd.tail; case hall => kernel_rfl)
        refine RunL.mem (fl2 (sep_emp _) (sep_emp _)) ?_
        refine RunL.nil ?_
        refine Run.seq ?_
        refine Run.seq ?_
        rw [rw_id]
        refine Run.region ?_
        refine RunL.ok (OpOk.move rfl) rfl ?_
        refine RunL.ok (OpOk.idx1 rfl ti5 rfl rd.left.left rfl (by omega) (by omega)) rfl ?_
        refine RunL.ok (OpOk.load rfl rfl rfl (Rd.getBE (by assumption) rd.left.left (by omega))) rfl ?_
        refine RunL.ok (OpOk.neq rfl rfl) rfl ?_
        refine RunL.ok (OpOk.move rfl) rfl ?_
        refine RunL.on rfl rfl ?_
        refine RunL.ok (OpOk.move rfl) rfl ?_
        refine RunL.on rfl rfl ?_
        refine RunL.ok (OpOk.idx1 rfl ti5 rfl rd.left.left rfl (by omega) (by omega)) rfl ?_
        refine RunL.on rfl rfl ?_
        refine RunL.ok (OpOk.load rfl rfl rfl (Rd.getBE (by assumption) rd.left.left (by omega))) rfl ?_
        refine RunL.on rfl rfl ?_
        refine RunL.ok (OpOk.neq rfl rfl) rfl ?_
        refine RunL.ok (OpOk.pickF rfl rfl) rfl ?_
        refine RunL.ok (OpOk.move rfl) rfl ?_
        refine RunL.on rfl rfl ?_
        refine RunL.ok (OpOk.move rfl) rfl ?_
        refine RunL.on rfl rfl ?_
        refine RunL.ok (OpOk.asF (OpOk.lss rfl rfl) (by omega)) rfl ?_
        refine RunL.ok (OpOk.pickF rfl rfl) rfl ?_
        refine RunL.ok (OpOk.move rfl) rfl ?_
        refine RunL.on rfl rfl ?_
        refine RunL.ok (OpOk.move rfl) rfl ?_
        refine RunL.on rfl rfl ?_
        refine RunL.ok (OpOk.idx1 rfl ti5 rfl rd.left.left rfl (by omega) (by omega)) rfl ?_
        refine RunL.on rfl rfl ?_
        refine RunL.ok (OpOk.load rfl rfl rfl (Rd.getB rd.left.left (by omega))) rfl ?_
        refine RunL.on rfl rfl ?_
        refine RunL.ok (OpOk.asF (OpOk.lss rfl rfl) (by omega)) rfl ?_
        refine RunL.ok (OpOk.pickF rfl rfl) rfl ?_
        refine RunL.ok (OpOk.move rfl) rfl ?_
        refine RunL.on rfl rfl ?_
        refine RunL.ok (OpOk.move rfl) rfl ?_
        refine RunL.on rfl rfl ?_
        refine RunL.ok (OpOk.idx1 rfl ti5 rfl rd.left.left rfl (by omega) (by omega)) rfl ?_
        refine RunL.on rfl rfl ?_
        refine RunL.ok (OpOk.load rfl rfl rfl (Rd.getB rd.left.left (by omega))) rfl ?_
        refine RunL.on rfl rfl ?_
        refine RunL.ok (OpOk.asF (OpOk.gtr rfl rfl) (by omega)) rfl ?_
        refine RunL.ok (OpOk.pickF rfl rfl) rfl ?_
        refine RunL.ok (OpOk.move rfl) rfl ?_
        refine RunL.on rfl rfl ?_
        refine RunL.ok (OpOk.move rfl) rfl ?_
        refine RunL.on rfl rfl ?_
        refine RunL.ok (OpOk.cut (i := 5) (j := 30) rfl ti5 rfl rd.left.left ⟨_, rfl⟩ ⟨_, rfl⟩ (by omega) (by omega)) rfl ?_
        refine RunL.on rfl rfl ?_
        refine RunL.call cal92 rfl (s92 rdz.left.left) rfl (fun vx4 Ax4 hx4 => ?_)
        obtain ⟨rfl, rfl⟩ := hx4
        refine RunL.on rfl rfl ?_
        refine RunL.ok (OpOk.not rfl) rfl ?_
        refine RunL.ok (OpOk.pickF rfl rfl) rfl ?_
        refine RunL.nil ?_
        refine Run.condBF rfl (by rw [hz]; rfl) ?_
        refine Run.skip ?_
        refine Run.seq ?_
        rw [rw_is]
        refine Run.region ?_
        refine RunL.ok (OpOk.move rfl) rfl ?_
        refine RunL.ok (OpOk.cut (i := 32) (j := 64) rfl ti5 rfl rd.left.left ⟨_, rfl⟩ ⟨_, rfl⟩ (by omega) (by omega)) rfl ?_
        refine RunL.call cal93 rfl (s93a rd1.left.left rfl (by assumption)) rfl (fun vx5 Ax5 hx5 => ?_)
        obtain ⟨x6, ⟨x7, ⟨x8, ⟨rfl, rfl⟩⟩⟩⟩ := hx5
        refine RunL.ok (OpOk.move rfl) rfl ?_
        refine RunL.ok (OpOk.ext20 rfl) rfl ?_
        refine RunL.ok (OpOk.ext21 rfl) rfl ?_
        refine RunL.alloc ti89 rfl (fun bx9 => ?_)
        refine RunL.storeAll ti89 rfl rfl rfl (ones rfl) rfl rfl ?_
        refine RunL.ok (OpOk.assign rfl) rfl ?_
        refine RunL.nil ?_
        refine Run.seq ?_
        refine Run.region ?_
        refine RunL.ok (OpOk.move rfl) rfl ?_
        refine RunL.ok (OpOk.cut (i := 64) (j := 96) rfl ti5 rfl rd.left.left.left.left.left ⟨_, rfl⟩ ⟨_, rfl⟩ (by omega) (by omega)) rfl ?_
        refine RunL.call cal93 rfl (s93a rd2.left.left.left.left.left rfl (by assumption)) rfl (fun vx10 Ax10 hx10 => ?_)
        obtain ⟨x11, ⟨x12, ⟨x13, ⟨rfl, rfl⟩⟩⟩⟩ := hx10
        refine RunL.ok (OpOk.move rfl) rfl ?_
        refine RunL.ok (OpOk.ext20 rfl) rfl ?_
        refine RunL.ok (OpOk.ext21 rfl) rfl ?_
        refine RunL.alloc ti89 rfl (fun bx14 => ?_)
        refine RunL.storeAll ti89 rfl rfl rfl (ones rfl) rfl rfl ?_
        refine RunL.ok (OpOk.assign rfl) rfl ?_
        refine RunL.nil ?_
        refine Run.seq ?_
        refine Run.seq ?_
        refine Run.region ?_
        refine RunL.ok (OpOk.move rfl) rfl ?_
        refine RunL.ok (OpOk.not rfl) rfl ?_
        refine RunL.ok (OpOk.move rfl) rfl ?_
        refine RunL.off rfl rfl rfl rfl ?_
        refine RunL.off rfl rfl rfl rfl ?_
        refine RunL.ok (OpOk.pickF rfl rfl) rfl ?_
        refine RunL.nil ?_
        refine Run.condF rfl ?_
        refine Run.skip ?_
        refine Run.seq ?_
        refine Run.region ?_
        refine RunL.ok (OpOk.loadS rfl rfl ti89 rfl Blk.pts.left.left.left rfl) rfl ?_
        refine RunL.alloc ti89 rfl (fun bx15 => ?_)
        refine RunL.storeAll ti89 rfl rfl rfl (ones rfl) rfl rfl ?_
        refine RunL.nil ?_
        refine Run.seq ?_
        refine Run.region ?_
        refine RunL.ok (OpOk.fieldAddr fld89_3 rfl) rfl ?_
        refine RunL.store ti3 rfl rfl rfl rfl (by exact Nat.le_of_ble_eq_true rfl) (.inl rfl) ?_
        refine RunL.nil ?_
        refine Run.seq ?_
        refine Run.seq ?_
        refine Run.region ?_
        refine RunL.ok (OpOk.move rfl) rfl ?_
        refine RunL.ok (OpOk.not rfl) rfl ?_
        refine RunL.ok (OpOk.move rfl) rfl ?_
        refine RunL.on rfl rfl ?_
        refine RunL.ok (OpOk.move rfl) rfl ?_
        refine RunL.on rfl rfl ?_
        refine RunL.ok (OpOk.move rfl) rfl ?_
        refine RunL.on rfl rfl ?_
        refine RunL.ok (OpOk.fieldAddr fld89_2 rfl) rfl ?_
        refine RunL.on rfl rfl ?_
        refine RunL.ok (OpOk.load rfl rfl rfl (Blk.out Blk.pts.left _ _ (by first | rfl | assumption))) rfl ?_
        refine RunL.on rfl rfl ?_
        refine RunL.ok (OpOk.fieldAddr fld89_2 rfl) rfl ?_
        refine RunL.on rfl rfl ?_
        refine RunL.ok (OpOk.load rfl rfl rfl (Blk.out Blk.pts.left.left.left.left _ _ (by first | rfl | assumption))) rfl ?_
        refine RunL.on rfl rfl ?_
        refine RunL.ok (OpOk.asT (OpOk.gtr rfl rfl) (by omega)) rfl ?_
        refine RunL.on rfl rfl ?_
        refine RunL.ok (OpOk.pickT rfl rfl) rfl ?_
        refine RunL.ok (OpOk.pickF rfl rfl) rfl ?_
        refine RunL.nil ?_
        refine Run.condT rfl ?_
        refine Run.seq ?_
        refine Run.region ?_
        refine RunL.ok (OpOk.loadS rfl rfl ti89 rfl Blk.pts.left rfl) rfl ?_
        refine RunL.storeAll ti89 rfl rfl rfl (ones rfl) rfl rfl ?_
        refine RunL.nil ?_
        refine Run.region ?_
        refine RunL.ok (OpOk.fieldAddr fld89_3 rfl) rfl ?_
        refine RunL.store ti3 rfl rfl rfl rfl (by exact Nat.le_of_ble_eq_true rfl) (.inl rfl) ?_
        refine RunL.nil ?_
        refine Run.seq ?_
        refine Run.region ?_
        refine RunL.ok (OpOk.move rfl) rfl ?_
        refine RunL.ok (OpOk.fieldAddr fld89_0 rfl) rfl ?_
        refine RunL.store ti3 rfl rfl rfl rfl (by exact Nat.le_of_ble_eq_true rfl) (.inl rfl) ?_
        refine RunL.nil ?_
        refine Run.seq ?_
        refine Run.region ?_
        refine RunL.ok (OpOk.move rfl) rfl ?_
        refine RunL.ok (OpOk.idx1 rfl ti5 rfl rd.left.left.left.left.left.left.left.left.left rfl (by omega) (by omega)) rfl ?_
        refine RunL.ok (OpOk.load rfl rfl rfl (Rd.getB rd.left.left.left.left.left.left.left.left.left (by omega))) rfl ?_
        refine RunL.ok (OpOk.convInt rfl rfl rfl (wrapI (by omega) (by omega))) rfl ?_
        refine RunL.ok (OpOk.fieldAddr fld89_1 rfl) rfl ?_
        refine RunL.store ti3 rfl rfl rfl rfl (by exact Nat.le_of_ble_eq_true rfl) (.inl rfl) ?_
        refine RunL.nil ?_
        refine Run.seq ?_
        rw [rw_is]
        refine Run.region ?_
        refine RunL.ok (OpOk.loadS rfl rfl ti89 rfl Blk.pts rfl) rfl ?_
        refine RunL.storeAll ti89 rfl rfl rfl (ones rfl) (frl (frl (frl (frl (frl (frl (frl (frl rfl)))))))) rfl ?_
        refine RunL.ok (OpOk.assign rfl) rfl ?_
        refine RunL.nil ?_
        refine Run.retC2 (A' := _) Try.func40 rfl rfl rfl ti89 rfl rfl Blk.pts rfl (Grew.refl _) ?_
        rw [hbst]
        refine ⟨x11, x12, ?_⟩
        refine ex_and (if_neg (by dsimp only; decide)).symm ?_
        repeat (first | exact out_of (by repeat (first | exact Grew.refl _ | refine Grew.mul ?_ _)) | refine out_mid ?_)
      · have hbst : bestF xs 2 = (by2 ((secOf xs 1).take 30) 0, ((1 : Nat) : Int), entsD ((secOf xs 1).take 30)) := by rw [hb2]; exact if_neg (fun h => by have := h.2; dsimp only at this; omega)
        refine Spec.of_run [(0, u)] Try.func40 rfl (Nat.le_of_ble_eq_true rfl) (by repeat (first | exact trivial | refine ⟨rfl, ?_⟩)) ?_
        refine Run.seq ?_
        refine Run.region ?_
        refine RunL.alloc ti89 rfl (fun bx1 => ?_)
        refine RunL.ok (OpOk.assign rfl) rfl ?_
        refine RunL.nil ?_
        refine Run.seq ?_
        refine Run.region ?_
        refine RunL.alloc ti89 rfl (fun bx2 => ?_)
        refine RunL.nil ?_
        refine Run.seq ?_
        refine Run.seq ?_
        refine Run.region ?_
        refine RunL.ok (OpOk.move rfl) rfl ?_
        refine RunL.ok (OpOk.cut (j := 32) rfl ti5 rfl rd.left.left rfl ⟨_, rfl⟩ (by omega) (by omega)) rfl ?_
        refine RunL.call cal91 rfl (s91 rdc.left.left rfl) rfl (fun vx3 Ax3 hx3 => ?_)
        obtain ⟨rfl, rfl⟩ := hx3
        refine RunL.ok (OpOk.not rfl) rfl ?_
        refine RunL.nil ?_
        refine Run.condNF rfl (by first | omega | with_reducible rfl | assumption) ?_
        refine Run.skip ?_
        refine Run.seq ?_
        (apply Run.drawD [] (by rfl) (sep_emp _).symm; case hchk => kernel_rfl)
        refine Sd.quiet 0 _ _ rfl rfl rfl rfl rfl (QOp.ok (fun X => OpOk.move rfl)) ?_
        refine Sd.quiet 1 _ _ rfl rfl rfl rfl rfl (QOp.ok (fun X => OpOk.idx1 rfl ti5 rfl rd.left.left.left.left rfl (by omega) (by omega))) ?_
        refine Sd.quiet 2 _ _ rfl rfl rfl rfl rfl (QOp.ok (fun X => OpOk.load rfl rfl rfl (Rd.getB rd.left.left.left.left (by omega)))) ?_
        refine Sd.quiet 3 _ _ rfl rfl rfl rfl rfl (QOp.ok (fun X => OpOk.convInt rfl rfl rfl (wrapI (by omega) (by omega)))) ?_
        refine Sd.quiet 4 _ _ rfl rfl rfl rfl rfl (QOp.ok (fun X => OpOk.mulN _ 256 rfl rfl rfl rfl (by omega))) ?_
        refine Sd.quiet 5 _ _ rfl rfl rfl rfl rfl (QOp.ok (fun X => OpOk.move rfl)) ?_
        refine Sd.quiet 6 _ _ rfl rfl rfl rfl rfl (QOp.ok (fun X => OpOk.idx1 rfl ti5 rfl rd.left.left.left.left rfl (by omega) (by omega))) ?_
        refine Sd.quiet 7 _ _ rfl rfl rfl rfl rfl (QOp.ok (fun X => OpOk.load rfl rfl rfl (Rd.getB rd.left.left.left.left (by omega)))) ?_
        refine Sd.quiet 8 _ _ rfl rfl rfl rfl rfl (QOp.ok (fun X => OpOk.convInt rfl rfl rfl (wrapI (by omega) (by omega)))) ?_
        refine Sd.quiet 9 _ _ rfl rfl rfl rfl rfl (QOp.ok (fun X => OpOk.addN _ _ rfl rfl rfl rfl (by omega))) ?_
        refine Sd.quiet 10 _ _ rfl rfl rfl rfl rfl (QOp.ok (fun X => OpOk.assign rfl)) ?_
        (apply Sd.tail; case hall => kernel_rfl)
        refine RunL.mem (fl2 (sep_emp _) (sep_emp _)) ?_
        refine RunL.nil ?_
        refine Run.seq ?_
        refine Run.seq ?_
        rw [rw_id]
        refine Run.region ?_
        refine RunL.ok (OpOk.move rfl) rfl ?_
        refine RunL.ok (OpOk.idx1 rfl ti5 rfl rd.left.left rfl (by omega) (by omega)) rfl ?_
        refine RunL.ok (OpOk.load rfl rfl rfl (Rd.getBE (by assumption) rd.left.left (by omega))) rfl ?_
        refine RunL.ok (OpOk.neq rfl rfl) rfl ?_
        refine RunL.ok (OpOk.move rfl) rfl ?_
        refine RunL.on rfl rfl ?_
        refine RunL.ok (OpOk.move rfl) rfl ?_
        refine RunL.on rfl rfl ?_
        refine RunL.ok (OpOk.idx1 rfl ti5 rfl rd.left.left rfl (by omega) (by omega)) rfl ?_
        refine RunL.on rfl rfl ?_
        refine RunL.ok (OpOk.load rfl rfl rfl (Rd.getBE (by assumption) rd.left.left (by omega))) rfl ?_
        refine RunL.on rfl rfl ?_
        refine RunL.ok (OpOk.neq rfl rfl) rfl ?_
        refine RunL.ok (OpOk.pickF rfl rfl) rfl ?_
        refine RunL.ok (OpOk.move rfl) rfl ?_
        refine RunL.on rfl rfl ?_
        refine RunL.ok (OpOk.move rfl) rfl ?_
        refine RunL.on rfl rfl ?_
        refine RunL.ok (OpOk.asF (OpOk.lss rfl rfl) (by omega)) rfl ?_
        refine RunL.ok (OpOk.pickF rfl rfl) rfl ?_
        refine RunL.ok (OpOk.move rfl) rfl ?_
        refine RunL.on rfl rfl ?_
        refine RunL.ok (OpOk.move rfl) rfl ?_
        refine RunL.on rfl rfl ?_
        refine RunL.ok (OpOk.idx1 rfl ti5 rfl rd.left.left rfl (by omega) (by omega)) rfl ?_
        refine RunL.on rfl rfl ?_
        refine RunL.ok (OpOk.load rfl rfl rfl (Rd.getB rd.left.left (by omega))) rfl ?_
        refine RunL.on rfl rfl ?_
        refine RunL.ok (OpOk.asF (OpOk.lss rfl rfl) (by omega)) rfl ?_
        refine RunL.ok (OpOk.pickF rfl rfl) rfl ?_
        refine RunL.ok (OpOk.move rfl) rfl ?_
        refine RunL.on rfl rfl ?_
        refine RunL.ok (OpOk.move rfl) rfl ?_
        refine RunL.on rfl rfl ?_
        refine RunL.ok (OpOk.idx1 rfl ti5 rfl rd.left.left rfl (by omega) (by omega)) rfl ?_
        refine RunL.on rfl rfl ?_
        refine RunL.ok (OpOk.load rfl rfl rfl (Rd.getB rd.left.left (by omega))) rfl ?_
        refine RunL.on rfl rfl ?_
        refine RunL.ok (OpOk.asF (OpOk.gtr rfl rfl) (by omega)) rfl ?_
        refine RunL.ok (OpOk.pickF rfl rfl) rfl ?_
        refine RunL.ok (OpOk.move rfl) rfl ?_
        refine RunL.on rfl rfl ?_
        refine RunL.ok (OpOk.move rfl) rfl ?_
        refine RunL.on rfl rfl ?_
        refine RunL.ok (OpOk.cut (i := 5) (j := 30) rfl ti5 rfl rd.left.left ⟨_, rfl⟩ ⟨_, rfl⟩ (by omega) (by omega)) rfl ?_
        refine RunL.on rfl rfl ?_
        refine RunL.call cal92 rfl (s92 rdz.left.left) rfl (fun vx4 Ax4 hx4 => ?_)
        obtain ⟨rfl, rfl⟩ := hx4
        refine RunL.on rfl rfl ?_
        refine RunL.ok (OpOk.not rfl) rfl ?_
        refine RunL.ok (OpOk.pickF rfl rfl) rfl ?_
        refine RunL.nil ?_
        refine Run.condBF rfl (by rw [hz]; rfl) ?_
        refine Run.skip ?_
        refine Run.seq ?_
        rw [rw_is]
        refine Run.region ?_
        refine RunL.ok (OpOk.move rfl) rfl ?_
        refine RunL.ok (OpOk.cut (i := 32) (j := 64) rfl ti5 rfl rd.left.left ⟨_, rfl⟩ ⟨_, rfl⟩ (by omega) (by omega)) rfl ?_
        refine RunL.call cal93 rfl (s93a rd1.left.left rfl (by assumption)) rfl (fun vx5 Ax5 hx5 => ?_)
        obtain ⟨x6, ⟨x7, ⟨x8, ⟨rfl, rfl⟩⟩⟩⟩ := hx5
        refine RunL.ok (OpOk.move rfl) rfl ?_
        refine RunL.ok (OpOk.ext20 rfl) rfl ?_
        refine RunL.ok (OpOk.ext21 rfl) rfl ?_
        refine RunL.alloc ti89 rfl (fun bx9 => ?_)
        refine RunL.storeAll ti89 rfl rfl rfl (ones rfl) rfl rfl ?_
        refine RunL.ok (OpOk.assign rfl) rfl ?_
        refine RunL.nil ?_
        refine Run.seq ?_
        refine Run.region ?_
        refine RunL.ok (OpOk.move rfl) rfl ?_
        refine RunL.ok (OpOk.cut (i := 64) (j := 96) rfl ti5 rfl rd.left.left.left.left.left ⟨_, rfl⟩ ⟨_, rfl⟩ (by omega) (by omega)) rfl ?_
        refine RunL.call cal93 rfl (s93a rd2.left.left.left.left.left rfl (by assumption)) rfl (fun vx10 Ax10 hx10 => ?_)
        obtain ⟨x11, ⟨x12, ⟨x13, ⟨rfl, rfl⟩⟩⟩⟩ := hx10
        refine RunL.ok (OpOk.move rfl) rfl ?_
        refine RunL.ok (OpOk.ext20 rfl) rfl ?_
        refine RunL.ok (OpOk.ext21 rfl) rfl ?_
        refine RunL.alloc ti89 rfl (fun bx14 => ?_)
        refine RunL.storeAll ti89 rfl rfl rfl (ones rfl) rfl rfl ?_
        refine RunL.ok (OpOk.assign rfl) rfl ?_
        refine RunL.nil ?_
        refine Run.seq ?_
        refine Run.seq ?_
        refine Run.region ?_
        refine RunL.ok (OpOk.move rfl) rfl ?_
        refine RunL.ok (OpOk.not rfl) rfl ?_
        refine RunL.ok (OpOk.move rfl) rfl ?_
        refine RunL.off rfl rfl rfl rfl ?_
        refine RunL.off rfl rfl rfl rfl ?_
        refine RunL.ok (OpOk.pickF rfl rfl) rfl ?_
        refine RunL.nil ?_
        refine Run.condF rfl ?_
        refine Run.skip ?_
        refine Run.seq ?_
        refine Run.region ?_
        refine RunL.ok (OpOk.loadS rfl rfl ti89 rfl Blk.pts.left.left.left rfl) rfl ?_
        refine RunL.alloc ti89 rfl (fun bx15 => ?_)
        refine RunL.storeAll ti89 rfl rfl rfl (ones rfl) rfl rfl ?_
        refine RunL.nil ?_
        refine Run.seq ?_
        refine Run.region ?_
        refine RunL.ok (OpOk.fieldAddr fld89_3 rfl) rfl ?_
        refine RunL.store ti3 rfl rfl rfl rfl (by exact Nat.le_of_ble_eq_true rfl) (.inl rfl) ?_
        refine RunL.nil ?_
        refine Run.seq ?_
        refine Run.seq ?_
        refine Run.region ?_
        refine RunL.ok (OpOk.move rfl) rfl ?_
        refine RunL.ok (OpOk.not rfl) rfl ?_
        refine RunL.ok (OpOk.move rfl) rfl ?_
        refine RunL.on rfl rfl ?_
        refine RunL.ok (OpOk.move rfl) rfl ?_
        refine RunL.on rfl rfl ?_
        refine RunL.ok (OpOk.move rfl) rfl ?_
        refine RunL.on rfl rfl ?_
        refine RunL.ok (OpOk.fieldAddr fld89_2 rfl) rfl ?_
        refine RunL.on rfl rfl ?_
        refine RunL.ok (OpOk.load rfl rfl rfl (Blk.out Blk.pts.left _ _ (by first | rfl | assumption))) rfl ?_
        refine RunL.on rfl rfl ?_
        refine RunL.ok (OpOk.fieldAddr fld89_2 rfl) rfl ?_
        refine RunL.on rfl rfl ?_
        refine RunL.ok (OpOk.load rfl rfl rfl (Blk.out Blk.pts.left.left.left.left _ _ (by first | rfl | assumption))) rfl ?_
        refine RunL.on rfl rfl ?_
        refine RunL.ok (OpOk.asF (OpOk.gtr rfl rfl) (by omega)) rfl ?_
        refine RunL.on rfl rfl ?_
        refine RunL.ok (OpOk.pickT rfl rfl) rfl ?_
        refine RunL.ok (OpOk.pickF rfl rfl) rfl ?_
        refine RunL.nil ?_
        refine Run.condF rfl ?_
        refine Run.skip ?_
        refine Run.seq ?_
        refine Run.region ?_
        refine RunL.ok (OpOk.move rfl) rfl ?_
        refine RunL.ok (OpOk.fieldAddr fld89_0 rfl) rfl ?_
        refine RunL.store ti3 rfl rfl rfl rfl (by exact Nat.le_of_ble_eq_true rfl) (.inl rfl) ?_
        refine RunL.nil ?_
        refine Run.seq ?_
        refine Run.region ?_
        refine RunL.ok (OpOk.move rfl) rfl ?_
        refine RunL.ok (OpOk.idx1 rfl ti5 rfl rd.left.left.left.left.left.left.left.left.left rfl (by omega) (by omega)) rfl ?_
        refine RunL.ok (OpOk.load rfl rfl rfl (Rd.getB rd.left.left.left.left.left.left.left.left.left (by omega))) rfl ?_
        refine RunL.ok (OpOk.convInt rfl rfl rfl (wrapI (by omega) (by omega))) rfl ?_
        refine RunL.ok (OpOk.fieldAddr fld89_1 rfl) rfl ?_
        refine RunL.store ti3 rfl rfl rfl rfl (by exact Nat.le_of_ble_eq_true rfl) (.inl rfl) ?_
        refine RunL.nil ?_
        refine Run.seq ?_
        rw [rw_is]
        refine Run.region ?_
        refine RunL.ok (OpOk.loadS rfl rfl ti89 rfl Blk.pts rfl) rfl ?_
        refine RunL.storeAll ti89 rfl rfl rfl (ones rfl) (frl (frl (frl (frl (frl (frl (frl (frl rfl)))))))) rfl ?_
        refine RunL.ok (OpOk.assign rfl) rfl ?_
        refine RunL.nil ?_
        refine Run.retC2 (A' := _) Try.func40 rfl rfl rfl ti89 rfl rfl Blk.pts rfl (Grew.refl _) ?_
        rw [hbst]
        refine ⟨x6, x7, ?_⟩
        refine ex_and (if_neg (by dsimp only; decide)).symm ?_
        repeat (first | exact out_of (by repeat (first | exact Grew.refl _ | refine Grew.mul ?_ _)) | refine out_mid ?_)
    | false =>
      have hp1 : 0 < by2 ((secOf xs 1).take 30) 0 := okB_pos ok1
      rw [ok1, if_pos ⟨rfl, hp1⟩] at hb1
      rw [hb1, ok2] at hb2
      have hbst : bestF xs 2 = (by2 ((secOf xs 1).take 30) 0, ((1 : Nat) : Int), entsD ((secOf xs 1).take 30)) := by rw [hb2]; exact if_neg (fun h => by cases h.1)
      refine Spec.of_run [(0, u)] Try.func40 rfl (Nat.le_of_ble_eq_true rfl) (by repeat (first | exact trivial | refine ⟨rfl, ?_⟩)) ?_
      refine Run.seq ?_
      refine Run.region ?_
      refine RunL.alloc ti89 rfl (fun bx1 => ?_)
      refine RunL.ok (OpOk.assign rfl) rfl ?_
      refine RunL.nil ?_
      refine Run.seq ?_
      refine Run.region ?_
      refine RunL.alloc ti89 rfl (fun bx2 => ?_)
      refine RunL.nil ?_
      refine Run.seq ?_
      refine Run.seq ?_
      refine Run.region ?_
      refine RunL.ok (OpOk.move rfl) rfl ?_
      refine RunL.ok (OpOk.cut (j := 32) rfl ti5 rfl rd.left.left rfl ⟨_, rfl⟩ (by omega) (by omega)) rfl ?_
      refine RunL.call cal91 rfl (s91 rdc.left.left rfl) rfl (fun vx3 Ax3 hx3 => ?_)
      obtain ⟨rfl, rfl⟩ := hx3
      refine RunL.ok (OpOk.not rfl) rfl ?_
      refine RunL.nil ?_
      refine Run.condNF rfl (by first | omega | with_reducible rfl | assumption) ?_
      refine Run.skip ?_
      refine Run.seq ?_
      (apply Run.drawD [] (by rfl) (sep_emp _).symm; case hchk => kernel_rfl)
      refine Sd.quiet 0 _ _ rfl rfl rfl rfl rfl (QOp.ok (fun X => OpOk.move rfl)) ?_
      refine Sd.quiet 1 _ _ rfl rfl rfl rfl rfl (QOp.ok (fun X => OpOk.idx1 rfl ti5 rfl rd.left.left.left.left rfl (by omega) (by omega))) ?_
      refine Sd.quiet 2 _ _ rfl rfl rfl rfl rfl (QOp.ok (fun X => OpOk.load rfl rfl rfl (Rd.getB rd.left.left.left.left (by omega)))) ?_
      refine Sd.quiet 3 _ _ rfl rfl rfl rfl rfl (QOp.ok (fun X => OpOk.convInt rfl rfl rfl (wrapI (by omega) (by omega)))) ?_
      refine Sd.quiet 4 _ _ rfl rfl rfl rfl rfl (QOp.ok (fun X => OpOk.mulN _ 256 rfl rfl rfl rfl (by omega))) ?_
      refine Sd.quiet 5 _ _ rfl rfl rfl rfl rfl (QOp.ok (fun X => OpOk.move rfl)) ?_
      refine Sd.quiet 6 _ _ rfl rfl rfl rfl rfl (QOp.ok (fun X => OpOk.idx1 rfl ti5 rfl rd.left.left.left.left rfl (by omega) (by omega))) ?_
      refine Sd.quiet 7 _ _ rfl rfl rfl rfl rfl (QOp.ok (fun X => OpOk.load rfl rfl rfl (Rd.getB rd.left.left.left.left (by omega)))) ?_
      refine Sd.quiet 8 _ _ rfl rfl rfl rfl rfl (QOp.ok (fun X => OpOk.convInt rfl rfl rfl (wrapI (by omega) (by omega)))) ?_
      refine Sd.quiet 9 _ _ rfl rfl rfl rfl rfl (QOp.ok (fun X => OpOk.addN _ _ rfl rfl rfl rfl (by omega))) ?_
      refine Sd.quiet 10 _ _ rfl rfl rfl rfl rfl (QOp.ok (fun X => OpOk.assign rfl)) ?_
      (apply Sd.tail; case hall => kernel_rfl)
      refine RunL.mem (fl2 (sep_emp _) (sep_emp _)) ?_
      refine RunL.nil ?_
      refine Run.seq ?_
      refine Run.seq ?_
      rw [rw_id]
      refine Run.region ?_
      refine RunL.ok (OpOk.move rfl) rfl ?_
      refine RunL.ok (OpOk.idx1 rfl ti5 rfl rd.left.left rfl (by omega) (by omega)) rfl ?_
      refine RunL.ok (OpOk.load rfl rfl rfl (Rd.getBE (by assumption) rd.left.left (by omega))) rfl ?_
      refine RunL.ok (OpOk.neq rfl rfl) rfl ?_
      refine RunL.ok (OpOk.move rfl) rfl ?_
      refine RunL.on rfl rfl ?_
      refine RunL.ok (OpOk.move rfl) rfl ?_
      refine RunL.on rfl rfl ?_
      refine RunL.ok (OpOk.idx1 rfl ti5 rfl rd.left.left rfl (by omega) (by omega)) rfl ?_
      refine RunL.on rfl rfl ?_
      refine RunL.ok (OpOk.load rfl rfl rfl (Rd.getBE (by assumption) rd.left.left (by omega))) rfl ?_
      refine RunL.on rfl rfl ?_
      refine RunL.ok (OpOk.neq rfl rfl) rfl ?_
      refine RunL.ok (OpOk.pickF rfl rfl) rfl ?_
      refine RunL.ok (OpOk.move rfl) rfl ?_
      refine RunL.on rfl rfl ?_
      refine RunL.ok (OpOk.move rfl) rfl ?_
      refine RunL.on rfl rfl ?_
      refine RunL.ok (OpOk.asF (OpOk.lss rfl rfl) (by omega)) rfl ?_
      refine RunL.ok (OpOk.pickF rfl rfl) rfl ?_
      refine RunL.ok (OpOk.move rfl) rfl ?_
      refine RunL.on rfl rfl ?_
      refine RunL.ok (OpOk.move rfl) rfl ?_
      refine RunL.on rfl rfl ?_
      refine RunL.ok (OpOk.idx1 rfl ti5 rfl rd.left.left rfl (by omega) (by omega)) rfl ?_
      refine RunL.on rfl rfl ?_
      refine RunL.ok (OpOk.load rfl rfl rfl (Rd.getB rd.left.left (by omega))) rfl ?_
      refine RunL.on rfl rfl ?_
      refine RunL.ok (OpOk.asF (OpOk.lss rfl rfl) (by omega)) rfl ?_
      refine RunL.ok (OpOk.pickF rfl rfl) rfl ?_
      refine RunL.ok (OpOk.move rfl) rfl ?_
      refine RunL.on rfl rfl ?_
      refine RunL.ok (OpOk.move rfl) rfl ?_
      refine RunL.on rfl rfl ?_
      refine RunL.ok (OpOk.idx1 rfl ti5 rfl rd.left.left rfl (by omega) (by omega)) rfl ?_
      refine RunL.on rfl rfl ?_
      refine RunL.ok (OpOk.load rfl rfl rfl (Rd.getB rd.left.left (by omega))) rfl ?_
      refine RunL.on rfl rfl ?_
      refine RunL.ok (OpOk.asF (OpOk.gtr rfl rfl) (by omega)) rfl ?_
      refine RunL.ok (OpOk.pickF rfl rfl) rfl ?_
      refine RunL.ok (OpOk.move rfl) rfl ?_
      refine RunL.on rfl rfl ?_
      refine RunL.ok (OpOk.move rfl) rfl ?_
      refine RunL.on rfl rfl ?_
      refine RunL.ok (OpOk.cut (i := 5) (j := 30) rfl ti5 rfl rd.left.left ⟨_, rfl⟩ ⟨_, rfl⟩ (by omega) (by omega)) rfl ?_
      refine RunL.on rfl rfl ?_
      refine RunL.call cal92 rfl (s92 rdz.left.left) rfl (fun vx4 Ax4 hx4 => ?_)
      obtain ⟨rfl, rfl⟩ := hx4
      refine RunL.on rfl rfl ?_
      refine RunL.ok (OpOk.not rfl) rfl ?_
      refine RunL.ok (OpOk.pickF rfl rfl) rfl ?_
      refine RunL.nil ?_
      refine Run.condBF rfl (by rw [hz]; rfl) ?_
      refine Run.skip ?_
      refine Run.seq ?_
      rw [rw_is]
      refine Run.region ?_
      refine RunL.ok (OpOk.move rfl) rfl ?_
      refine RunL.ok (OpOk.cut (i := 32) (j := 64) rfl ti5 rfl rd.left.left ⟨_, rfl⟩ ⟨_, rfl⟩ (by omega) (by omega)) rfl ?_
      refine RunL.call cal93 rfl (s93a rd1.left.left rfl (by assumption)) rfl (fun vx5 Ax5 hx5 => ?_)
      obtain ⟨x6, ⟨x7, ⟨x8, ⟨rfl, rfl⟩⟩⟩⟩ := hx5
      refine RunL.ok (OpOk.move rfl) rfl ?_
      refine RunL.ok (OpOk.ext20 rfl) rfl ?_
      refine RunL.ok (OpOk.ext21 rfl) rfl ?_
      refine RunL.alloc ti89 rfl (fun bx9 => ?_)
      refine RunL.storeAll ti89 rfl rfl rfl (ones rfl) rfl rfl ?_
      refine RunL.ok (OpOk.assign rfl) rfl ?_
      refine RunL.nil ?_
      refine Run.seq ?_
      refine Run.region ?_
      refine RunL.ok (OpOk.move rfl) rfl ?_
      refine RunL.ok (OpOk.cut (i := 64) (j := 96) rfl ti5 rfl rd.left.left.left.left.left ⟨_, rfl⟩ ⟨_, rfl⟩ (by omega) (by omega)) rfl ?_
      refine RunL.call cal93 rfl (s93b rd2.left.left.left.left.left rfl (by assumption)) rfl (fun vx11 Ax11 hx11 => ?_)
      obtain ⟨x12, ⟨x13, ⟨x14, ⟨x15, ⟨x16, ⟨rfl, rfl⟩⟩⟩⟩⟩⟩ := hx11
      refine RunL.ok (OpOk.move rfl) rfl ?_
      refine RunL.ok (OpOk.ext20 rfl) rfl ?_
      refine RunL.ok (OpOk.ext21 rfl) rfl ?_
      refine RunL.alloc ti89 rfl (fun bx17 => ?_)
      refine RunL.storeAll ti89 rfl rfl rfl (ones rfl) rfl rfl ?_
      refine RunL.ok (OpOk.assign rfl) rfl ?_
      refine RunL.nil ?_
      refine Run.seq ?_
      refine Run.seq ?_
      refine Run.region ?_
      refine RunL.ok (OpOk.move rfl) rfl ?_
      refine RunL.ok (OpOk.not rfl) rfl ?_
      refine RunL.ok (OpOk.move rfl) rfl ?_
      refine RunL.off rfl rfl rfl rfl ?_
      refine RunL.off rfl rfl rfl rfl ?_
      refine RunL.ok (OpOk.pickF rfl rfl) rfl ?_
      refine RunL.nil ?_
      refine Run.condF rfl ?_
      refine Run.skip ?_
      refine Run.seq ?_
      refine Run.region ?_
      refine RunL.ok (OpOk.loadS rfl rfl ti89 rfl Blk.pts.left.left rfl) rfl ?_
      refine RunL.alloc ti89 rfl (fun bx18 => ?_)
      refine RunL.storeAll ti89 rfl rfl rfl (ones rfl) rfl rfl ?_
      refine RunL.nil ?_
      refine Run.seq ?_
      refine Run.region ?_
      refine RunL.ok (OpOk.fieldAddr fld89_3 rfl) rfl ?_
      refine RunL.store ti3 rfl rfl rfl rfl (by exact Nat.le_of_ble_eq_true rfl) (.inl rfl) ?_
      refine RunL.nil ?_
      refine Run.seq ?_
      refine Run.seq ?_
      refine Run.region ?_
      refine RunL.ok (OpOk.move rfl) rfl ?_
      refine RunL.ok (OpOk.not rfl) rfl ?_
      refine RunL.ok (OpOk.move rfl) rfl ?_
      refine RunL.on rfl rfl ?_
      refine RunL.ok (OpOk.move rfl) rfl ?_
      refine RunL.on rfl rfl ?_
      refine RunL.ok (OpOk.move rfl) rfl ?_
      refine RunL.off rfl rfl rfl rfl ?_
      refine RunL.off rfl rfl rfl rfl ?_
      refine RunL.off rfl rfl rfl rfl ?_
      refine RunL.off rfl rfl rfl rfl ?_
      refine RunL.off rfl rfl rfl rfl ?_
      refine RunL.on rfl rfl ?_
      refine RunL.ok (OpOk.pickF rfl rfl) rfl ?_
      refine RunL.ok (OpOk.pickF rfl rfl) rfl ?_
      refine RunL.nil ?_
      refine Run.condF rfl ?_
      refine Run.skip ?_
      refine Run.seq ?_
      refine Run.region ?_
      refine RunL.ok (OpOk.move rfl) rfl ?_
      refine RunL.ok (OpOk.fieldAddr fld89_0 rfl) rfl ?_
      refine RunL.store ti3 rfl rfl rfl rfl (by exact Nat.le_of_ble_eq_true rfl) (.inl rfl) ?_
      refine RunL.nil ?_
      refine Run.seq ?_
      refine Run.region ?_
      refine RunL.ok (OpOk.move rfl) rfl ?_
      refine RunL.ok (OpOk.idx1 rfl ti5 rfl rd.left.left.left.left.left.left.left.left rfl (by omega) (by omega)) rfl ?_
      refine RunL.ok (OpOk.load rfl rfl rfl (Rd.getB rd.left.left.left.left.left.left.left.left (by omega))) rfl ?_
      refine RunL.ok (OpOk.convInt rfl rfl rfl (wrapI (by omega) (by omega))) rfl ?_
      refine RunL.ok (OpOk.fieldAddr fld89_1 rfl) rfl ?_
      refine RunL.store ti3 rfl rfl rfl rfl (by exact Nat.le_of_ble_eq_true rfl) (.inl rfl) ?_
      refine RunL.nil ?_
      refine Run.seq ?_
      rw [rw_is]
      refine Run.region ?_
      refine RunL.ok (OpOk.loadS rfl rfl ti89 rfl Blk.pts rfl) rfl ?_
      refine RunL.storeAll ti89 rfl rfl rfl (ones rfl) (frl (frl (frl (frl (frl (frl (frl rfl))))))) rfl ?_
      refine RunL.ok (OpOk.assign rfl) rfl ?_
      refine RunL.nil ?_
      refine Run.retC2 (A' := _) Try.func40 rfl rfl rfl ti89 rfl rfl Blk.pts rfl (Grew.refl _) ?_
      rw [hbst]
      refine ⟨x6, x7, ?_⟩
      refine ex_and (if_neg (by dsimp only; decide)).symm ?_
      repeat (first | exact out_of (by repeat (first | exact Grew.refl _ | refine Grew.mul ?_ _)) | refine out_mid ?_)
  | false =>
    cases ok2 : okB (secOf xs 2) with
    | true =>
      have hp2 : 0 < by2 ((secOf xs 2).take 30) 0 := okB_pos ok2
      rw [ok1, if_neg (fun h => by cases h.1)] at hb1
      rw [hb1, ok2] at hb2
      have hbst : bestF xs 2 = (by2 ((secOf xs 2).take 30) 0, ((2 : Nat) : Int), entsD ((secOf xs 2).take 30)) := by rw [hb2]; exact if_pos ⟨rfl, hp2⟩
      refine Spec.of_run [(0, u)] Try.func40 rfl (Nat.le_of_ble_eq_true rfl) (by repeat (first | exact trivial | refine ⟨rfl, ?_⟩)) ?_
      refine Run.seq ?_
      refine Run.region ?_
      refine RunL.alloc ti89 rfl (fun bx1 => ?_)
      refine RunL.ok (OpOk.assign rfl) rfl ?_
      refine RunL.nil ?_
      refine Run.seq ?_
      refine Run.region ?_
      refine RunL.alloc ti89 rfl (fun bx2 => ?_)
      refine RunL.nil ?_
      refine Run.seq ?_
      refine Run.seq ?_
      refine Run.region ?_
      refine RunL.ok (OpOk.move rfl) rfl ?_
      refine RunL.ok (OpOk.cut (j := 32) rfl ti5 rfl rd.left.left rfl ⟨_, rfl⟩ (by omega) (by omega)) rfl ?_
      refine RunL.call cal91 rfl (s91 rdc.left.left rfl) rfl (fun vx3 Ax3 hx3 => ?_)
      obtain ⟨rfl, rfl⟩ := hx3
      refine RunL.ok (OpOk.not rfl) rfl ?_
      refine RunL.nil ?_
      refine Run.condNF rfl (by first | omega | with_reducible rfl | assumption) ?_
      refine Run.skip ?_
      refine Run.seq ?_
      (apply Run.drawD [] (by rfl) (sep_emp _).symm; case hchk => kernel_rfl)
      refine Sd.quiet 0 _ _ rfl rfl rfl rfl rfl (QOp.ok (fun X => OpOk.move rfl)) ?_
      refine Sd.quiet 1 _ _ rfl rfl rfl rfl rfl (QOp.ok (fun X => OpOk.idx1 rfl ti5 rfl rd.left.left.left.left rfl (by omega) (by omega))) ?_
      refine Sd.quiet 2 _ _ rfl rfl rfl rfl rfl (QOp.ok (fun X => OpOk.load rfl rfl rfl (Rd.getB rd.left.left.left.left (by omega)))) ?_
      refine Sd.quiet 3 _ _ rfl rfl rfl rfl rfl (QOp.ok (fun X => OpOk.convInt rfl rfl rfl (wrapI (by omega) (by omega)))) ?_
      refine Sd.quiet 4 _ _ rfl rfl rfl rfl rfl (QOp.ok (fun X => OpOk.mulN _ 256 rfl rfl rfl rfl (by omega))) ?_
      refine Sd.quiet 5 _ _ rfl rfl rfl rfl rfl (QOp.ok (fun X => OpOk.move rfl)) ?_
      refine Sd.quiet 6 _ _ rfl rfl rfl rfl rfl (QOp.ok (fun X => OpOk.idx1 rfl ti5 rfl rd.left.left.left.left rfl (by omega) (by omega))) ?_
      refine Sd.quiet 7 _ _ rfl rfl rfl rfl rfl (QOp.ok (fun X => OpOk.load rfl rfl rfl (Rd.getB rd.left.left.left.left (by omega)))) ?_
      refine Sd.quiet 8 _ _ rfl rfl rfl rfl rfl (QOp.ok (fun X => OpOk.convInt rfl rfl rfl (wrapI (by omega) (by omega)))) ?_
      refine Sd.quiet 9 _ _ rfl rfl rfl rfl rfl (QOp.ok (fun X => OpOk.addN _ _ rfl rfl rfl rfl (by omega))) ?_
      refine Sd.quiet 10 _ _ rfl rfl rfl rfl rfl (QOp.ok (fun X => OpOk.assign rfl)) ?_
      (apply Sd.tail; case hall => kernel_rfl)
      refine RunL.mem (fl2 (sep_emp _) (sep_emp _)) ?_
      refine RunL.nil ?_
      refine Run.seq ?_
      refine Run.seq ?_
      rw [rw_id]
      refine Run.region ?_
      refine RunL.ok (OpOk.move rfl) rfl ?_
      refine RunL.ok (OpOk.idx1 rfl ti5 rfl rd.left.left rfl (by omega) (by omega)) rfl ?_
      refine RunL.ok (OpOk.load rfl rfl rfl (Rd.getBE (by assumption) rd.left.left (by omega))) rfl ?_
      refine RunL.ok (OpOk.neq rfl rfl) rfl ?_
      refine RunL.ok (OpOk.move rfl) rfl ?_
      refine RunL.on rfl rfl ?_
      refine RunL.ok (OpOk.move rfl) rfl ?_
      refine RunL.on rfl rfl ?_
      refine RunL.ok (OpOk.idx1 rfl ti5 rfl rd.left.left rfl (by omega) (by omega)) rfl ?_
      refine RunL.on rfl rfl ?_
      refine RunL.ok (OpOk.load rfl rfl rfl (Rd.getBE (by assumption) rd.left.left (by omega))) rfl ?_
      refine RunL.on rfl rfl ?_
      refine RunL.ok (OpOk.neq rfl rfl) rfl ?_
      refine RunL.ok (OpOk.pickF rfl rfl) rfl ?_
      refine RunL.ok (OpOk.move rfl) rfl ?_
      refine RunL.on rfl rfl ?_
      refine RunL.ok (OpOk.move rfl) rfl ?_
      refine RunL.on rfl rfl ?_
      refine RunL.ok (OpOk.asF (OpOk.lss rfl rfl) (by omega)) rfl ?_
      refine RunL.ok (OpOk.pickF rfl rfl) rfl ?_
      refine RunL.ok (OpOk.move rfl) rfl ?_
      refine RunL.on rfl rfl ?_
      refine RunL.ok (OpOk.move rfl) rfl ?_
      refine RunL.on rfl rfl ?_
      refine RunL.ok (OpOk.idx1 rfl ti5 rfl rd.left.left rfl (by omega) (by omega)) rfl ?_
      refine RunL.on rfl rfl ?_
      refine RunL.ok (OpOk.load rfl rfl rfl (Rd.getB rd.left.left (by omega))) rfl ?_
      refine RunL.on rfl rfl ?_
      refine RunL.ok (OpOk.asF (OpOk.lss rfl rfl) (by omega)) rfl ?_
      refine RunL.ok (OpOk.pickF rfl rfl) rfl ?_
      refine RunL.ok (OpOk.move rfl) rfl ?_
      refine RunL.on rfl rfl ?_
      refine RunL.ok (OpOk.move rfl) rfl ?_
      refine RunL.on rfl rfl ?_
      refine RunL.ok (OpOk.idx1 rfl ti5 rfl rd.left.left rfl (by omega) (by omega)) rfl ?_
      refine RunL.on rfl rfl ?_
      refine RunL.ok (OpOk.load rfl rfl rfl (Rd.getB rd.left.left (by omega))) rfl ?_
      refine RunL.on rfl rfl ?_
      refine RunL.ok (OpOk.asF (OpOk.gtr rfl rfl) (by omega)) rfl ?_
      refine RunL.ok (OpOk.pickF rfl rfl) rfl ?_
      refine RunL.ok (OpOk.move rfl) rfl ?_
      refine RunL.on rfl rfl ?_
      refine RunL.ok (OpOk.move rfl) rfl ?_
      refine RunL.on rfl rfl ?_
      refine RunL.ok (OpOk.cut (i := 5) (j := 30) rfl ti5 rfl rd.left.left ⟨_, rfl⟩ ⟨_, rfl⟩ (by omega) (by omega)) rfl ?_
      refine RunL.on rfl rfl ?_
      refine RunL.call cal92 rfl (s92 rdz.left.left) rfl (fun vx4 Ax4 hx4 => ?_)
      obtain ⟨rfl, rfl⟩ := hx4
      refine RunL.on rfl rfl ?_
      refine RunL.ok (OpOk.not rfl) rfl ?_
      refine RunL.ok (OpOk.pickF rfl rfl) rfl ?_
      refine RunL.nil ?_
      refine Run.condBF rfl (by rw [hz]; rfl) ?_
      refine Run.skip ?_
      refine Run.seq ?_
      rw [rw_is]
      refine Run.region ?_
      refine RunL.ok (OpOk.move rfl) rfl ?_
      refine RunL.ok (OpOk.cut (i := 32) (j := 64) rfl ti5 rfl rd.left.left ⟨_, rfl⟩ ⟨_, rfl⟩ (by omega) (by omega)) rfl ?_
      refine RunL.call cal93 rfl (s93b rd1.left.left rfl (by assumption)) rfl (fun vx6 Ax6 hx6 => ?_)
      obtain ⟨x7, ⟨x8, ⟨x9, ⟨x10, ⟨x11, ⟨rfl, rfl⟩⟩⟩⟩⟩⟩ := hx6
      refine RunL.ok (OpOk.move rfl) rfl ?_
      refine RunL.ok (OpOk.ext20 rfl) rfl ?_
      refine RunL.ok (OpOk.ext21 rfl) rfl ?_
      refine RunL.alloc ti89 rfl (fun bx12 => ?_)
      refine RunL.storeAll ti89 rfl rfl rfl (ones rfl) rfl rfl ?_
      refine RunL.ok (OpOk.assign rfl) rfl ?_
      refine RunL.nil ?_
      refine Run.seq ?_
      refine Run.region ?_
      refine RunL.ok (OpOk.move rfl) rfl ?_
      refine RunL.ok (OpOk.cut (i := 64) (j := 96) rfl ti5 rfl rd.left.left.left.left ⟨_, rfl⟩ ⟨_, rfl⟩ (by omega) (by omega)) rfl ?_
      refine RunL.call cal93 rfl (s93a rd2.left.left.left.left rfl (by assumption)) rfl (fun vx13 Ax13 hx13 => ?_)
      obtain ⟨x14, ⟨x15, ⟨x16, ⟨rfl, rfl⟩⟩⟩⟩ := hx13
      refine RunL.ok (OpOk.move rfl) rfl ?_
      refine RunL.ok (OpOk.ext20 rfl) rfl ?_
      refine RunL.ok (OpOk.ext21 rfl) rfl ?_
      refine RunL.alloc ti89 rfl (fun bx17 => ?_)
      refine RunL.storeAll ti89 rfl rfl rfl (ones rfl) rfl rfl ?_
      refine RunL.ok (OpOk.assign rfl) rfl ?_
      refine RunL.nil ?_
      refine Run.seq ?_
      refine Run.seq ?_
      refine Run.region ?_
      refine RunL.ok (OpOk.move rfl) rfl ?_
      refine RunL.ok (OpOk.not rfl) rfl ?_
      refine RunL.ok (OpOk.move rfl) rfl ?_
      refine RunL.on rfl rfl ?_
      refine RunL.ok (OpOk.move rfl) rfl ?_
      refine RunL.on rfl rfl ?_
      refine RunL.ok (OpOk.not rfl) rfl ?_
      refine RunL.ok (OpOk.pickT rfl rfl) rfl ?_
      refine RunL.nil ?_
      refine Run.condF rfl ?_
      refine Run.skip ?_
      refine Run.seq ?_
      refine Run.region ?_
      refine RunL.ok (OpOk.loadS rfl rfl ti89 rfl Blk.pts.left.left.left rfl) rfl ?_
      refine RunL.alloc ti89 rfl (fun bx18 => ?_)
      refine RunL.storeAll ti89 rfl rfl rfl (ones rfl) rfl rfl ?_
      refine RunL.nil ?_
      refine Run.seq ?_
      refine Run.region ?_
      refine RunL.ok (OpOk.fieldAddr fld89_3 rfl) rfl ?_
      refine RunL.store ti3 rfl rfl rfl rfl (by exact Nat.le_of_ble_eq_true rfl) (.inl rfl) ?_
      refine RunL.nil ?_
      refine Run.seq ?_
      refine Run.seq ?_
      refine Run.region ?_
      refine RunL.ok (OpOk.move rfl) rfl ?_
      refine RunL.ok (OpOk.not rfl) rfl ?_
      refine RunL.ok (OpOk.move rfl) rfl ?_
      refine RunL.off rfl rfl rfl rfl ?_
      refine RunL.off rfl rfl rfl rfl ?_
      refine RunL.off rfl rfl rfl rfl ?_
      refine RunL.off rfl rfl rfl rfl ?_
      refine RunL.off rfl rfl rfl rfl ?_
      refine RunL.off rfl rfl rfl rfl ?_
      refine RunL.off rfl rfl rfl rfl ?_
      refine RunL.off rfl rfl rfl rfl ?_
      refine RunL.ok (OpOk.pickT rfl rfl) rfl ?_
      refine RunL.nil ?_
      refine Run.condT rfl ?_
      refine Run.seq ?_
      refine Run.region ?_
      refine RunL.ok (OpOk.loadS rfl rfl ti89 rfl Blk.pts.left rfl) rfl ?_
      refine RunL.storeAll ti89 rfl rfl rfl (ones rfl) rfl rfl ?_
      refine RunL.nil ?_
      refine Run.region ?_
      refine RunL.ok (OpOk.fieldAddr fld89_3 rfl) rfl ?_
      refine RunL.store ti3 rfl rfl rfl rfl (by exact Nat.le_of_ble_eq_true rfl) (.inl rfl) ?_
      refine RunL.nil ?_
      refine Run.seq ?_
      refine Run.region ?_
      refine RunL.ok (OpOk.move rfl) rfl ?_
      refine RunL.ok (OpOk.fieldAddr fld89_0 rfl) rfl ?_
      refine RunL.store ti3 rfl rfl rfl rfl (by exact Nat.le_of_ble_eq_true rfl) (.inl rfl) ?_
      refine RunL.nil ?_
      refine Run.seq ?_
      refine Run.region ?_
      refine RunL.ok (OpOk.move rfl) rfl ?_
      refine RunL.ok (OpOk.idx1 rfl ti5 rfl rd.left.left.left.left.left.left.left.left rfl (by omega) (by omega)) rfl ?_
      refine RunL.ok (OpOk.load rfl rfl rfl (Rd.getB rd.left.left.left.left.left.left.left.left (by omega))) rfl ?_
      refine RunL.ok (OpOk.convInt rfl rfl rfl (wrapI (by omega) (by omega))) rfl ?_
      refine RunL.ok (OpOk.fieldAddr fld89_1 rfl) rfl ?_
      refine RunL.store ti3 rfl rfl rfl rfl (by exact Nat.le_of_ble_eq_true rfl) (.inl rfl) ?_
      refine RunL.nil ?_
      refine Run.seq ?_
      rw [rw_is]
      refine Run.region ?_
      refine RunL.ok (OpOk.loadS rfl rfl ti89 rfl Blk.pts rfl) rfl ?_
      refine RunL.storeAll ti89 rfl rfl rfl (ones rfl) (frl (frl (frl (frl (frl (frl (frl rfl))))))) rfl ?_
      refine RunL.ok (OpOk.assign rfl) rfl ?_
      refine RunL.nil ?_
      refine Run.retC2 (A' := _) Try.func40 rfl rfl rfl ti89 rfl rfl Blk.pts rfl (Grew.refl _) ?_
      rw [hbst]
      refine ⟨x14, x15, ?_⟩
      refine ex_and (if_neg (by dsimp only; decide)).symm ?_
      repeat (first | exact out_of (by repeat (first | exact Grew.refl _ | refine Grew.mul ?_ _)) | refine out_mid ?_)
    | false =>
      rw [ok1, if_neg (fun h => by cases h.1)] at hb1
      rw [hb1, ok2] at hb2
      have hbst : bestF xs 2 = (0, 0, []) := by rw [hb2]; exact if_neg (fun h => by cases h.1)
      refine Spec.of_run [(0, u)] Try.func40 rfl (Nat.le_of_ble_eq_true rfl) (by repeat (first | exact trivial | refine ⟨rfl, ?_⟩)) ?_
      refine Run.seq ?_
      refine Run.region ?_
      refine RunL.alloc ti89 rfl (fun bx1 => ?_)
      refine RunL.ok (OpOk.assign rfl) rfl ?_
      refine RunL.nil ?_
      refine Run.seq ?_
      refine Run.region ?_
      refine RunL.alloc ti89 rfl (fun bx2 => ?_)
      refine RunL.nil ?_
      refine Run.seq ?_
      refine Run.seq ?_
      refine Run.region ?_
      refine RunL.ok (OpOk.move rfl) rfl ?_
      refine RunL.ok (OpOk.cut (j := 32) rfl ti5 rfl rd.left.left rfl ⟨_, rfl⟩ (by omega) (by omega)) rfl ?_
      refine RunL.call cal91 rfl (s91 rdc.left.left rfl) rfl (fun vx3 Ax3 hx3 => ?_)
      obtain ⟨rfl, rfl⟩ := hx3
      refine RunL.ok (OpOk.not rfl) rfl ?_
      refine RunL.nil ?_
      refine Run.condNF rfl (by first | omega | with_reducible rfl | assumption) ?_
      refine Run.skip ?_
      refine Run.seq ?_
      (apply Run.drawD [] (by rfl) (sep_emp _).symm; case hchk => kernel_rfl)
      refine Sd.quiet 0 _ _ rfl rfl rfl rfl rfl (QOp.ok (fun X => OpOk.move rfl)) ?_
      refine Sd.quiet 1 _ _ rfl rfl rfl rfl rfl (QOp.ok (fun X => OpOk.idx1 rfl ti5 rfl rd.left.left.left.left rfl (by omega) (by omega))) ?_
      refine Sd.quiet 2 _ _ rfl rfl rfl rfl rfl (QOp.ok (fun X => OpOk.load rfl rfl rfl (Rd.getB rd.left.left.left.left (by omega)))) ?_
      refine Sd.quiet 3 _ _ rfl rfl rfl rfl rfl (QOp.ok (fun X => OpOk.convInt rfl rfl rfl (wrapI (by omega) (by omega)))) ?_
      refine Sd.quiet 4 _ _ rfl rfl rfl rfl rfl (QOp.ok (fun X => OpOk.mulN _ 256 rfl rfl rfl rfl (by omega))) ?_
      refine Sd.quiet 5 _ _ rfl rfl rfl rfl rfl (QOp.ok (fun X => OpOk.move rfl)) ?_
      refine Sd.quiet 6 _ _ rfl rfl rfl rfl rfl (QOp.ok (fun X => OpOk.idx1 rfl ti5 rfl rd.left.left.left.left rfl (by omega) (by omega))) ?_
      refine Sd.quiet 7 _ _ rfl rfl rfl rfl rfl (QOp.ok (fun X => OpOk.load rfl rfl rfl (Rd.getB rd.left.left.left.left (by omega)))) ?_
      refine Sd.quiet 8 _ _ rfl rfl rfl rfl rfl (QOp.ok (fun X => OpOk.convInt rfl rfl rfl (wrapI (by omega) (by omega)))) ?_
      refine Sd.quiet 9 _ _ rfl rfl rfl rfl rfl (QOp.ok (fun X => OpOk.addN _ _ rfl rfl rfl rfl (by omega))) ?_
      refine Sd.quiet 10 _ _ rfl rfl rfl rfl rfl (QOp.ok (fun X => OpOk.assign rfl)) ?_
      (apply Sd.tail; case hall => kernel_rfl)
      refine RunL.mem (fl2 (sep_emp _) (sep_emp _)) ?_
      refine RunL.nil ?_
      refine Run.seq ?_
      refine Run.seq ?_
      rw [rw_id]
      refine Run.region ?_
      refine RunL.ok (OpOk.move rfl) rfl ?_
      refine RunL.ok (OpOk.idx1 rfl ti5 rfl rd.left.left rfl (by omega) (by omega)) rfl ?_
      refine RunL.ok (OpOk.load rfl rfl rfl (Rd.getBE (by assumption) rd.left.left (by omega))) rfl ?_
      refine RunL.ok (OpOk.neq rfl rfl) rfl ?_
      refine RunL.ok (OpOk.move rfl) rfl ?_
      refine RunL.on rfl rfl ?_
      refine RunL.ok (OpOk.move rfl) rfl ?_
      refine RunL.on rfl rfl ?_
      refine RunL.ok (OpOk.idx1 rfl ti5 rfl rd.left.left rfl (by omega) (by omega)) rfl ?_
      refine RunL.on rfl rfl ?_
      refine RunL.ok (OpOk.load rfl rfl rfl (Rd.getBE (by assumption) rd.left.left (by omega))) rfl ?_
      refine RunL.on rfl rfl ?_
      refine RunL.ok (OpOk.neq rfl rfl) rfl ?_
      refine RunL.ok (OpOk.pickF rfl rfl) rfl ?_
      refine RunL.ok (OpOk.move rfl) rfl ?_
      refine RunL.on rfl rfl ?_
      refine RunL.ok (OpOk.move rfl) rfl ?_
      refine RunL.on rfl rfl ?_
      refine RunL.ok (OpOk.asF (OpOk.lss rfl rfl) (by omega)) rfl ?_
      refine RunL.ok (OpOk.pickF rfl rfl) rfl ?_
      refine RunL.ok (OpOk.move rfl) rfl ?_
      refine RunL.on rfl rfl ?_
      refine RunL.ok (OpOk.move rfl) rfl ?_
      refine RunL.on rfl rfl ?_
      refine RunL.ok (OpOk.idx1 rfl ti5 rfl rd.left.left rfl (by omega) (by omega)) rfl ?_
      refine RunL.on rfl rfl ?_
      refine RunL.ok (OpOk.load rfl rfl rfl (Rd.getB rd.left.left (by omega))) rfl ?_
      refine RunL.on rfl rfl ?_
      refine RunL.ok (OpOk.asF (OpOk.lss rfl rfl) (by omega)) rfl ?_
      refine RunL.ok (OpOk.pickF rfl rfl) rfl ?_
      refine RunL.ok (OpOk.move rfl) rfl ?_
      refine RunL.on rfl rfl ?_
      refine RunL.ok (OpOk.move rfl) rfl ?_
      refine RunL.on rfl rfl ?_
      refine RunL.ok (OpOk.idx1 rfl ti5 rfl rd.left.left rfl (by omega) (by omega)) rfl ?_
      refine RunL.on rfl rfl ?_
      refine RunL.ok (OpOk.load rfl rfl rfl (Rd.getB rd.left.left (by omega))) rfl ?_
      refine RunL.on rfl rfl ?_
      refine RunL.ok (OpOk.asF (OpOk.gtr rfl rfl) (by omega)) rfl ?_
      refine RunL.ok (OpOk.pickF rfl rfl) rfl ?_
      refine RunL.ok (OpOk.move rfl) rfl ?_
      refine RunL.on rfl rfl ?_
      refine RunL.ok (OpOk.move rfl) rfl ?_
      refine RunL.on rfl rfl ?_
      refine RunL.ok (OpOk.cut (i := 5) (j := 30) rfl ti5 rfl rd.left.left ⟨_, rfl⟩ ⟨_, rfl⟩ (by omega) (by omega)) rfl ?_
      refine RunL.on rfl rfl ?_
      refine RunL.call cal92 rfl (s92 rdz.left.left) rfl (fun vx4 Ax4 hx4 => ?_)
      obtain ⟨rfl, rfl⟩ := hx4
      refine RunL.on rfl rfl ?_
      refine RunL.ok (OpOk.not rfl) rfl ?_
      refine RunL.ok (OpOk.pickF rfl rfl) rfl ?_
      refine RunL.nil ?_
      refine Run.condBF rfl (by rw [hz]; rfl) ?_
      refine Run.skip ?_
      refine Run.seq ?_
      rw [rw_is]
      refine Run.region ?_
      refine RunL.ok (OpOk.move rfl) rfl ?_
      refine RunL.ok (OpOk.cut (i := 32) (j := 64) rfl ti5 rfl rd.left.left ⟨_, rfl⟩ ⟨_, rfl⟩ (by omega) (by omega)) rfl ?_
      refine RunL.call cal93 rfl (s93b rd1.left.left rfl (by assumption)) rfl (fun vx6 Ax6 hx6 => ?_)
      obtain ⟨x7, ⟨x8, ⟨x9, ⟨x10, ⟨x11, ⟨rfl, rfl⟩⟩⟩⟩⟩⟩ := hx6
      refine RunL.ok (OpOk.move rfl) rfl ?_
      refine RunL.ok (OpOk.ext20 rfl) rfl ?_
      refine RunL.ok (OpOk.ext21 rfl) rfl ?_
      refine RunL.alloc ti89 rfl (fun bx12 => ?_)
      refine RunL.storeAll ti89 rfl rfl rfl (ones rfl) rfl rfl ?_
      refine RunL.ok (OpOk.assign rfl) rfl ?_
      refine RunL.nil ?_
      refine Run.seq ?_
      refine Run.region ?_
      refine RunL.ok (OpOk.move rfl) rfl ?_
      refine RunL.ok (OpOk.cut (i := 64) (j := 96) rfl ti5 rfl rd.left.left.left.left ⟨_, rfl⟩ ⟨_, rfl⟩ (by omega) (by omega)) rfl ?_
      refine RunL.call cal93 rfl (s93b rd2.left.left.left.left rfl (by assumption)) rfl (fun vx14 Ax14 hx14 => ?_)
      obtain ⟨x15, ⟨x16, ⟨x17, ⟨x18, ⟨x19, ⟨rfl, rfl⟩⟩⟩⟩⟩⟩ := hx14
      refine RunL.ok (OpOk.move rfl) rfl ?_
      refine RunL.ok (OpOk.ext20 rfl) rfl ?_
      refine RunL.ok (OpOk.ext21 rfl) rfl ?_
      refine RunL.alloc ti89 rfl (fun bx20 => ?_)
      refine RunL.storeAll ti89 rfl rfl rfl (ones rfl) rfl rfl ?_
      refine RunL.ok (OpOk.assign rfl) rfl ?_
      refine RunL.nil ?_
      refine Run.seq ?_
      refine Run.seq ?_
      refine Run.region ?_
      refine RunL.ok (OpOk.move rfl) rfl ?_
      refine RunL.ok (OpOk.not rfl) rfl ?_
      refine RunL.ok (OpOk.move rfl) rfl ?_
      refine RunL.on rfl rfl ?_
      refine RunL.ok (OpOk.move rfl) rfl ?_
      refine RunL.on rfl rfl ?_
      refine RunL.ok (OpOk.not rfl) rfl ?_
      refine RunL.ok (OpOk.pickT rfl rfl) rfl ?_
      refine RunL.nil ?_
      refine Run.condT rfl ?_
      refine Run.seq ?_
      refine Run.region ?_
      refine RunL.ok (OpOk.loadS rfl rfl ti89 rfl Blk.pts.left.left.left.left rfl) rfl ?_
      refine RunL.storeAll ti89 rfl rfl rfl (ones rfl) (frl (frl (frl (frl (frl rfl))))) rfl ?_
      refine RunL.ok (OpOk.assign rfl) rfl ?_
      refine RunL.nil ?_
      refine Run.retC2 (A' := _) Try.func40 rfl rfl rfl ti89 rfl rfl Blk.pts rfl (Grew.refl _) ?_
      rw [hbst]
      refine ⟨none, 0, ?_⟩
      refine ex_and (if_pos rfl).symm ?_
      show ∃ J, _ = A * J * own 111 4 (.slice none 0 0) 0 []
      rw [own_nil_eq]
      simp only [sep_emp]
      exact (by repeat (first | exact Grew.refl _ | refine Grew.mul ?_ _))
end
end Go.Proofs.Yteopadjihklkmaa
end

section
namespace Go.Proofs.Yteopadjihklkmaa
open Go Go.Proofs
abbrev K4 := Int × Int × Int × Int
def k4 (p : K4) : Value := .agg #[.int .i64 p.1, .int .i64 p.2.1, .int .i64 p.2.2.1, .int .i64 p.2.2.2]
section
variable {P : Program} {w : World} {d : Nat} {f : Field} {fs : List Field} {xs ys : Array Value}
theorem step_int {a b : Int} (hn : (f.name == "_") = false) (h : P.underlying f.type = some (.int .i64)) (hx : xs[f.offset]? = some (.int .i64 a)) (hy : ys[f.offset]? = some (.int .i64 b)) :
    (Op.eqFields (d + 1) xs ys (f :: fs)).run P w = if a = b then (Op.eqFields (d + 1) xs ys fs).run P w else .ok false w := by
  have hn' : f.name ≠ "_" := by simpa using hn
  have p0 : (part f.type xs f.offset).run P w = .ok (.int .i64 a) w := run_part_int w h hx
  have p1 : (part f.type ys f.offset).run P w = .ok (.int .i64 b) w := run_part_int w h hy
  have q0 : (Op.equalIn (d + 1) f.type (.int .i64 a) (.int .i64 b)).run P w = .ok (a == b) w := run_equalIn_int _ d _ _ _ _ _ h
  simp only [Op.eqFields, if_pos hn', Sem.run_bind, p0, p1, q0, Result.andThen_ok]
  by_cases e : a = b
  · simp [e]
  · simp [e]
end
structure Four (P : Program) (t : TypeId) : Prop where
  out : ∃ f0 f1 f2 f3 : Field, P.underlying t = some (.struct #[f0, f1, f2, f3]) ∧ P.stoodInHeld t = false ∧ P.eqGuardType P.depth t = false ∧ P.cellsOf t = 4 ∧
    ((f0.name == "_") = false ∧ (f1.name == "_") = false ∧ (f2.name == "_") = false ∧ (f3.name == "_") = false) ∧ (f0.offset = 0 ∧ f1.offset = 1 ∧ f2.offset = 2 ∧ f3.offset = 3) ∧
    P.underlying f0.type = some (.int .i64) ∧ P.underlying f1.type = some (.int .i64) ∧ P.underlying f2.type = some (.int .i64) ∧ P.underlying f3.type = some (.int .i64)
section
variable {P : Program} {n : Nat} {w0 w : World} {E : Env} {A : Asn} {ty t : TypeId}
theorem run_equal_four {d : Nat} (h : Four P t) (p q : K4) : (Op.equalIn (d + 2) t (k4 p) (k4 q)).run P w = .ok (decide (p = q)) w := by
  obtain ⟨f0, f1, f2, f3, hu, hp, _, _, ⟨n0, n1, n2, n3⟩, ⟨o0, o1, o2, o3⟩, h0, h1, h2, h3⟩ := h.out
  have hf : P.fieldsOf t = #[f0, f1, f2, f3] := by simp [Program.fieldsOf, hu]
  obtain ⟨a, b, c, e⟩ := p
  obtain ⟨a', b', c', e'⟩ := q
  unfold k4
  rw [run_equalIn_struct (P := P) w (d + 1) t _ _ (by rw [hf]; exact hu) hp, hf]
  show (Op.eqFields (d + 1) _ _ [f0, f1, f2, f3]).run P w = _
  rw [step_int (a := a) (b := a') n0 h0 (by rw [o0]; rfl) (by rw [o0]; rfl), step_int (a := b) (b := b') n1 h1 (by rw [o1]; rfl) (by rw [o1]; rfl), step_int (a := c) (b := c') n2 h2 (by rw [o2]; rfl) (by rw [o2]; rfl), step_int (a := e) (b := e') n3 h3 (by rw [o3]; rfl) (by rw [o3]; rfl)]
  by_cases e0 : a = a'
  · by_cases e1 : b = b'
    · by_cases e2 : c = c'
      · by_cases e3 : e = e'
        · simp [e0, e1, e2, e3, Op.eqFields]
        · simp [e0, e1, e2, e3]
      · simp [e0, e1, e2]
    · simp [e0, e1]
  · simp [e0]
theorem OpOk.neqK4 {u : TypeId} {x y : Operand} {p q : K4} (h : Four P t) (hx : ev E x = some (k4 p)) (hy : ev E y = some (k4 q)) : OpOk P n w0 (.binOp .neq t x y u) ty E A (.bool (!decide (p = q))) :=
  .pure fun w' w _ _ _ _ he => by
    obtain ⟨f0, f1, f2, f3, hu, hp, hg, _⟩ := h.out
    have e1 := run_equal_four (w := w) (d := 9998) h p q
    have e2 := run_eqGuard_agg (P := P) (w := w) .neq t x y #[.int .i64 p.1, .int .i64 p.2.1, .int .i64 p.2.2.1, .int .i64 p.2.2.2] #[.int .i64 q.1, .int .i64 q.2.1, .int .i64 q.2.2.1, .int .i64 q.2.2.2] hg
    have e3 := run_neq_struct (P := P) (w := w) t #[.int .i64 p.1, .int .i64 p.2.1, .int .i64 p.2.2.1, .int .i64 p.2.2.2] #[.int .i64 q.1, .int .i64 q.2.1, .int .i64 q.2.2.1, .int .i64 q.2.2.2]
    unfold k4 at e1 hx hy
    rw [e1] at e3
    simp only [execOp, he.eval hx, he.eval hy, Sem.run_bind, e2, e3, Result.andThen_ok]
    rfl
end
end Go.Proofs.Yteopadjihklkmaa
end

section
namespace Go.Proofs.Yteopadjihklkmaa
open Go Go.Proofs
set_option maxRecDepth 100000
set_option maxHeartbeats 4000000
set_option linter.unusedSimpArgs false
set_option linter.unusedVariables false
theorem four111 : Four Try.prog 111 := ⟨_, _, _, _, Try.underlying111, by kernel_rfl, by kernel_rfl, by rfl, ⟨by rfl, by rfl, by rfl, by rfl⟩, ⟨by rfl, by rfl, by rfl, by rfl⟩, by rfl, by rfl, by rfl, by rfl⟩
section
variable {w0 : World} {A : Asn} {u : Value} {m : Nat} {bs xs : List UInt8}
theorem s40c (rd : Rd w0 A u 1 m (B xs)) (hm : m = 512) (hs : sealed ((secOf xs 0).take 30) = secOf xs 0) (hf : faceOk (secOf xs 0)) (hb : (bestF xs 2).2.1 = 0) : Spec Try.prog w0 40 [u] A (fun v' A' => ∃ J, v' = .tuple #[.agg #[.int .i64 0, .int .i64 0, .int .i64 0, .int .i64 0, .slice none 0 0], .int .i64 21] ∧ A' = A * J) := by
  refine (refread_go rd hm hs hf).mono ?_
  rintro v' A' ⟨ad, cap, J, h1, rfl⟩
  rw [if_pos hb] at h1
  exact ⟨J * own 111 4 (.slice ad (bestF xs 2).2.2.length cap) (bestF xs 2).2.2.length (Fl encT111 (bestF xs 2).2.2), h1, by rw [sep_assoc A]⟩
theorem s40d (rd : Rd w0 A u 1 m (B xs)) (hm : m = 512) (hs : sealed ((secOf xs 0).take 30) = secOf xs 0) (hf : faceOk (secOf xs 0)) (hb : (bestF xs 2).2.1 ≠ 0) : Spec Try.prog w0 40 [u] A (fun v' A' => ∃ ad cap J, v' = .tuple #[.agg #[.int .i64 (cardB (secOf xs 0)), .int .i64 (issB (secOf xs 0)), .int .i64 (bestF xs 2).1, .int .i64 (bestF xs 2).2.1, .slice ad (bestF xs 2).2.2.length cap], .int .i64 0] ∧ A' = A * J * own 111 4 (.slice ad (bestF xs 2).2.2.length cap) (bestF xs 2).2.2.length (Fl encT111 (bestF xs 2).2.2)) := by
  refine (refread_go rd hm hs hf).mono ?_
  rintro v' A' ⟨ad, cap, J, h1, rfl⟩
  rw [if_neg hb] at h1
  exact ⟨ad, cap, J, h1, rfl⟩
end
end Go.Proofs.Yteopadjihklkmaa
end

section
namespace Go.Proofs.Yteopadjihklkmaa
open Go Go.Proofs
set_option maxRecDepth 100000
set_option maxHeartbeats 4000000
set_option linter.unusedSimpArgs false
set_option linter.unusedVariables false
def imgB (bs : List UInt8) : List UInt8 := laid bs (List.replicate 512 0)
theorem imgB_len (bs : List UInt8) : (imgB bs).length = 512 := by rw [imgB, laid_length, List.length_replicate]
section
variable {w0 : World} {A : Asn} {u : Value} {m m2 cap cap2 : Nat} {bs xs : List UInt8} {a b c d : Int} {ad ad2 : Option Addr} {es : List En}
theorem s43 (rd : Rd w0 A (.slice ad m cap) 4 m (Fl encT111 es)) (rd2 : Rd w0 A (.slice ad2 m2 cap2) 4 m2 (Fl encT111 es)) : Spec Try.prog w0 43 [.agg #[.int .i64 a, .int .i64 b, .int .i64 c, .int .i64 d, .slice ad m cap], .agg #[.int .i64 a, .int .i64 b, .int .i64 c, .int .i64 d, .slice ad2 m2 cap2]] A (fun v' A' => ∃ J, v' = .bool true ∧ A' = A * J) := by
  have hl := rd.lenFl (fun _ => rfl) (by decide)
  subst hl
  have hl2 := rd2.lenFl (fun _ => rfl) (by decide)
  subst hl2
  have hmx := rd.max
  refine Spec.of_run [(0, .agg #[.int .i64 a, .int .i64 b, .int .i64 c, .int .i64 d, .slice ad es.length cap]), (1, .agg #[.int .i64 a, .int .i64 b, .int .i64 c, .int .i64 d, .slice ad2 es.length cap2])] Try.func43 rfl (Nat.le_of_ble_eq_true rfl) (by repeat (first | exact trivial | refine ⟨rfl, ?_⟩)) ?_
  refine Run.seq ?_
  refine Run.region ?_
  refine RunL.box rfl rfl (fun bx1 => ?_)
  refine RunL.box rfl rfl (fun bx2 => ?_)
  refine RunL.ok (OpOk.assign rfl) rfl ?_
  refine RunL.nil ?_
  refine Run.seq ?_
  refine Run.seq ?_
  refine Run.region ?_
  refine RunL.ok (OpOk.fieldAddr fld89_0 rfl) rfl ?_
  refine RunL.ok (OpOk.load rfl rfl rfl (Blk.out Blk.pts.left _ _ (by first | rfl | assumption))) rfl ?_
  refine RunL.ok (OpOk.fieldAddr fld89_0 rfl) rfl ?_
  refine RunL.ok (OpOk.load rfl rfl rfl (Blk.out Blk.pts _ _ (by first | rfl | assumption))) rfl ?_
  refine RunL.ok (OpOk.as (c := false) (OpOk.neq rfl rfl) (by rw [decide_eq_true (by omega)]; rfl)) rfl ?_
  refine RunL.ok (OpOk.move rfl) rfl ?_
  refine RunL.on rfl rfl ?_
  refine RunL.ok (OpOk.fieldAddr fld89_1 rfl) rfl ?_
  refine RunL.on rfl rfl ?_
  refine RunL.ok (OpOk.load rfl rfl rfl (Blk.out Blk.pts.left _ _ (by first | rfl | assumption))) rfl ?_
  refine RunL.on rfl rfl ?_
  refine RunL.ok (OpOk.fieldAddr fld89_1 rfl) rfl ?_
  refine RunL.on rfl rfl ?_
  refine RunL.ok (OpOk.load rfl rfl rfl (Blk.out Blk.pts _ _ (by first | rfl | assumption))) rfl ?_
  refine RunL.on rfl rfl ?_
  refine RunL.ok (OpOk.as (c := false) (OpOk.neq rfl rfl) (by rw [decide_eq_true (by omega)]; rfl)) rfl ?_
  refine RunL.ok (OpOk.pickF rfl rfl) rfl ?_
  refine RunL.ok (OpOk.move rfl) rfl ?_
  refine RunL.on rfl rfl ?_
  refine RunL.ok (OpOk.fieldAddr fld89_2 rfl) rfl ?_
  refine RunL.on rfl rfl ?_
  refine RunL.ok (OpOk.load rfl rfl rfl (Blk.out Blk.pts.left _ _ (by first | rfl | assumption))) rfl ?_
  refine RunL.on rfl rfl ?_
  refine RunL.ok (OpOk.fieldAddr fld89_2 rfl) rfl ?_
  refine RunL.on rfl rfl ?_
  refine RunL.ok (OpOk.load rfl rfl rfl (Blk.out Blk.pts _ _ (by first | rfl | assumption))) rfl ?_
  refine RunL.on rfl rfl ?_
  refine RunL.ok (OpOk.as (c := false) (OpOk.neq rfl rfl) (by rw [decide_eq_true (by omega)]; rfl)) rfl ?_
  refine RunL.ok (OpOk.pickF rfl rfl) rfl ?_
  refine RunL.ok (OpOk.move rfl) rfl ?_
  refine RunL.on rfl rfl ?_
  refine RunL.ok (OpOk.fieldAddr fld89_3 rfl) rfl ?_
  refine RunL.on rfl rfl ?_
  refine RunL.ok (OpOk.load rfl rfl rfl (Blk.out Blk.pts.left _ _ (by first | rfl | assumption))) rfl ?_
  refine RunL.on rfl rfl ?_
  refine RunL.ok (OpOk.fieldAddr fld89_3 rfl) rfl ?_
  refine RunL.on rfl rfl ?_
  refine RunL.ok (OpOk.load rfl rfl rfl (Blk.out Blk.pts _ _ (by first | rfl | assumption))) rfl ?_
  refine RunL.on rfl rfl ?_
  refine RunL.ok (OpOk.as (c := false) (OpOk.neq rfl rfl) (by rw [decide_eq_true (by omega)]; rfl)) rfl ?_
  refine RunL.ok (OpOk.pickF rfl rfl) rfl ?_
  refine RunL.ok (OpOk.move rfl) rfl ?_
  refine RunL.on rfl rfl ?_
  refine RunL.ok (OpOk.fieldAddr fld89_4 rfl) rfl ?_
  refine RunL.on rfl rfl ?_
  refine RunL.ok (OpOk.load rfl rfl rfl (Blk.out Blk.pts.left _ _ (by first | rfl | assumption))) rfl ?_
  refine RunL.on rfl rfl ?_
  refine RunL.ok (OpOk.lenV rfl rfl rfl) rfl ?_
  refine RunL.on rfl rfl ?_
  refine RunL.ok (OpOk.fieldAddr fld89_4 rfl) rfl ?_
  refine RunL.on rfl rfl ?_
  refine RunL.ok (OpOk.load rfl rfl rfl (Blk.out Blk.pts _ _ (by first | rfl | assumption))) rfl ?_
  refine RunL.on rfl rfl ?_
  refine RunL.ok (OpOk.lenV rfl rfl rfl) rfl ?_
  refine RunL.on rfl rfl ?_
  refine RunL.ok (OpOk.as (c := false) (OpOk.neq rfl rfl) (by rw [decide_eq_true (by omega)]; rfl)) rfl ?_
  refine RunL.ok (OpOk.pickF rfl rfl) rfl ?_
  refine RunL.nil ?_
  refine Run.condF rfl ?_
  refine Run.skip ?_
  refine Run.seq ?_
  refine Run.seq ?_
  refine Run.region ?_
  refine RunL.ok (OpOk.assign rfl) rfl ?_
  refine RunL.nil ?_
  refine Run.block ?_
  refine Run.jump ((Run.loopJ (X := Nat) (fun x => [(5, .int .i64 (x : Int)), (3, .pointer (some ⟨bx2, 0, none⟩)), (2, .pointer (some ⟨bx1, 0, none⟩))]) (fun x => A * pts bx1 (.cells (Value.agg #[.int .i64 a, .int .i64 b, .int .i64 c, .int .i64 d, .slice ad es.length cap]).cells 89 (0, 0)) * pts bx2 (.cells (Value.agg #[.int .i64 a, .int .i64 b, .int .i64 c, .int .i64 d, .slice ad2 es.length cap2]).cells 89 (0, 0))) (fun x => x ≤ es.length) (fun x => es.length - x) 0 (Nat.zero_le _) (fun x hx ih => ?_))) ⟨rfl, rfl, rfl, trivial⟩ ((Grew.refl _))
  rcases Nat.lt_or_ge x es.length with hlt | hge
  · obtain ⟨e, hoe⟩ : ∃ e, es.getD x default = e := ⟨_, rfl⟩
    obtain ⟨k, o, i, s⟩ := e
    refine Run.seq ?_
    refine Run.seq ?_
    refine Run.region ?_
    refine RunL.ok (OpOk.move rfl) rfl ?_
    refine RunL.ok (OpOk.fieldAddr fld89_4 rfl) rfl ?_
    refine RunL.ok (OpOk.load rfl rfl rfl (Blk.out Blk.pts.left _ _ (by first | rfl | assumption))) rfl ?_
    refine RunL.ok (OpOk.lenV rfl rfl rfl) rfl ?_
    refine RunL.ok (OpOk.asT (OpOk.lss rfl rfl) (by omega)) rfl ?_
    refine RunL.nil ?_
    refine Run.condT rfl ?_
    refine Run.skip ?_
    refine Run.seq ?_
    refine Run.block ?_
    refine Run.seq ?_
    (apply Run.drawD [] (by rfl) (sep_emp _).symm; case hchk => kernel_rfl)
    refine Sd.quiet 0 _ _ rfl rfl rfl rfl rfl (QOp.ok (fun X => OpOk.fieldAddr fld89_4 rfl)) ?_
    refine Sd.quiet 1 _ _ rfl rfl rfl rfl rfl (QOp.ok (fun X => OpOk.load rfl rfl rfl (Blk.out Blk.pts.left.left.left _ _ (by first | rfl | assumption)))) ?_
    refine Sd.quiet 2 _ _ rfl rfl rfl rfl rfl (QOp.ok (fun X => OpOk.move rfl)) ?_
    refine Sd.quiet 3 _ _ rfl rfl rfl rfl rfl (QOp.ok (fun X => OpOk.idxN rfl ti111 rfl rd.left.left.left.left rfl (by omega))) ?_
    refine Sd.quiet 4 _ _ rfl rfl rfl rfl rfl (QOp.ok (fun X => OpOk.loadFlE (by assumption) rfl rfl ti111 rfl rd.left.left.left.left (fun _ => rfl) rfl (by omega))) ?_
    refine Sd.quiet 5 _ _ rfl rfl rfl rfl rfl (QOp.ok (fun X => OpOk.fieldAddr fld89_4 rfl)) ?_
    refine Sd.quiet 6 _ _ rfl rfl rfl rfl rfl (QOp.ok (fun X => OpOk.load rfl rfl rfl (Blk.out Blk.pts.left.left _ _ (by first | rfl | assumption)))) ?_
    refine Sd.quiet 7 _ _ rfl rfl rfl rfl rfl (QOp.ok (fun X => OpOk.move rfl)) ?_
    refine Sd.quiet 8 _ _ rfl rfl rfl rfl rfl (QOp.ok (fun X => OpOk.idxN rfl ti111 rfl rd2.left.left.left.left rfl (by omega))) ?_
    refine Sd.quiet 9 _ _ rfl rfl rfl rfl rfl (QOp.ok (fun X => OpOk.loadFlE (by assumption) rfl rfl ti111 rfl rd2.left.left.left.left (fun _ => rfl) rfl (by omega))) ?_
    refine Sd.quiet 10 _ _ rfl rfl rfl rfl rfl (QOp.ok (fun X => OpOk.neqK4 (p := (k, o, i, s)) (q := (k, o, i, s)) four111 rfl rfl)) ?_
    (apply Sd.tail; case hall => kernel_rfl)
    refine RunL.mem (fl2 (sep_emp _) (sep_emp _)) ?_
    refine RunL.nil ?_
    refine Run.condNF rfl (by first | omega | with_reducible rfl | assumption) ?_
    refine Run.skip ?_
    refine Run.inBlock ?_
    refine Run.region ?_
    refine RunL.ok (OpOk.move rfl) rfl ?_
    refine RunL.ok (OpOk.addN _ 1 rfl rfl rfl rfl (by omega)) rfl ?_
    refine RunL.ok (OpOk.assign rfl) rfl ?_
    refine RunL.nil ?_
    refine Run.jump ((ih (x + 1) (by omega) (by omega))) ⟨rfl, rfl, rfl, trivial⟩ ((Grew.refl _))
  · obtain rfl : x = es.length := by omega
    clear ih
    refine Run.seq ?_
    refine Run.seq ?_
    refine Run.region ?_
    refine RunL.ok (OpOk.move rfl) rfl ?_
    refine RunL.ok (OpOk.fieldAddr fld89_4 rfl) rfl ?_
    refine RunL.ok (OpOk.load rfl rfl rfl (Blk.out Blk.pts.left _ _ (by first | rfl | assumption))) rfl ?_
    refine RunL.ok (OpOk.lenV rfl rfl rfl) rfl ?_
    refine RunL.ok (OpOk.asF (OpOk.lss rfl rfl) (by omega)) rfl ?_
    refine RunL.nil ?_
    refine Run.condF rfl ?_
    refine Run.exit rfl ?_
    refine Run.seq ?_
    refine Run.region ?_
    refine RunL.ok (OpOk.assign rfl) rfl ?_
    refine RunL.nil ?_
    refine Run.ret1 Try.func43 rfl rfl ?_
    exact ⟨_, rfl, (asg as1)⟩
theorem view_spec (rd : Rd w0 A (.slice ad m cap) 4 m (Fl encT111 es)) (hm : m ≤ 1048576) : Spec Try.prog w0 44 [.agg #[.int .i64 a, .int .i64 b, .int .i64 c, .int .i64 d, .slice ad m cap]] A (fun v' A' => ∃ v J, v' = .agg #[.int .i64 a, .int .i64 b, .int .i64 c, .int .i64 d, v] ∧ A' = A * J * own 111 4 v m (Fl encT111 es)) := by
  refine Spec.of_run [(0, .agg #[.int .i64 a, .int .i64 b, .int .i64 c, .int .i64 d, .slice ad m cap])] Try.func44 rfl (Nat.le_of_ble_eq_true rfl) (by repeat (first | exact trivial | refine ⟨rfl, ?_⟩)) ?_
  refine Run.seq ?_
  refine Run.region ?_
  refine RunL.box rfl rfl (fun bx1 => ?_)
  refine RunL.alloc ti89 rfl (fun bx2 => ?_)
  refine RunL.nil ?_
  refine Run.seq ?_
  (apply Run.drawD [13] (by rfl) (sep_emp _).symm; case hchk => kernel_rfl)
  refine Sd.quiet 0 _ _ rfl rfl rfl rfl rfl (QOp.ok (fun X => OpOk.fieldAddr fld86_0 rfl)) ?_
  refine Sd.quiet 1 _ _ rfl rfl rfl rfl rfl (QOp.ok (fun X => OpOk.load rfl rfl rfl (Blk.out Blk.pts.left.left.left _ _ (by first | rfl | assumption)))) ?_
  refine Sd.quiet 2 _ _ rfl rfl rfl rfl rfl (QOp.ok (fun X => OpOk.fieldAddr fld86_1 rfl)) ?_
  refine Sd.quiet 3 _ _ rfl rfl rfl rfl rfl (QOp.ok (fun X => OpOk.load rfl rfl rfl (Blk.out Blk.pts.left.left.left _ _ (by first | rfl | assumption)))) ?_
  refine Sd.quiet 4 _ _ rfl rfl rfl rfl rfl (QOp.ok (fun X => OpOk.fieldAddr fld86_2 rfl)) ?_
  refine Sd.quiet 5 _ _ rfl rfl rfl rfl rfl (QOp.ok (fun X => OpOk.load rfl rfl rfl (Blk.out Blk.pts.left.left.left _ _ (by first | rfl | assumption)))) ?_
  refine Sd.quiet 6 _ _ rfl rfl rfl rfl rfl (QOp.ok (fun X => OpOk.fieldAddr fld86_3 rfl)) ?_
  refine Sd.quiet 7 _ _ rfl rfl rfl rfl rfl (QOp.ok (fun X => OpOk.load rfl rfl rfl (Blk.out Blk.pts.left.left.left _ _ (by first | rfl | assumption)))) ?_
  refine Sd.quiet 9 _ _ rfl rfl rfl rfl rfl (QOp.ok (fun X => OpOk.fieldAddr fld86_4 rfl)) ?_
  refine Sd.quiet 10 _ _ rfl rfl rfl rfl rfl (QOp.ok (fun X => OpOk.load rfl rfl rfl (Blk.out Blk.pts.left.left.left _ _ (by first | rfl | assumption)))) ?_
  (refine Sd.exec 8 rfl rfl rfl rfl rfl ?hrest (by rfl) (fun Xx3 Kx3 hKx3 => ?_); case hrest => kernel_rfl)
  refine RunL.mem (fl2 (sep_emp _) (sep_emp _)) ?_
  refine RunL.lit0 rfl ti111 rfl (fun vx4 rdx4 => ?_)
  refine RunL.know (fun w s => (s.conv rfl).ownRd0) (fun rdx5 => ?_)
  refine Sd.ret hKx3 (Eq.trans rfl (gp2 rfl (sep_emp _).symm)) ⟨emp, (sep_emp _).symm⟩ ?_
  (refine Sd.exec 11 rfl rfl rfl rfl rfl ?hrest (by rfl) (fun Xx6 Kx6 hKx6 => ?_); case hrest => kernel_rfl)
  refine RunL.mem (fl2 (sep_emp _) rfl) ?_
  refine RunL.appendF0 rfl ti111 rfl rfl rfl rfl rd.left.left.left.left rfl (by decide) (by omega) (by simp only [maxLen]; omega) rfl (fun vx7 rdx7 => ?_)
  refine RunL.know (fun w s => (s.conv rfl).ownRd0) (fun rdx8 => ?_)
  refine Sd.ret hKx6 (Eq.trans rfl (gp2 (sep_emp _).symm rfl)) ⟨_, (emp_sep _).symm⟩ ?_
  (refine Sd.exec 12 rfl rfl rfl rfl rfl ?hrest (by rfl) (fun Xx9 Kx9 hKx9 => ?_); case hrest => kernel_rfl)
  refine RunL.mem (fl2 rfl (sep_emp _)) ?_
  obtain ⟨adx10, capx10, rfl, hcapx10, hadx10⟩ := (rdx8).form
  refine RunL.ok (OpOk.build (cells := #[.int (IntKind.i64) (a), .int (IntKind.i64) (b), .int (IntKind.i64) (c), .int (IntKind.i64) (d), .slice (adx10) (m) (capx10)]) rfl (fun w => run_build w 89 _ _ (by rfl))) rfl ?_
  refine Sd.ret hKx9 (Eq.trans rfl (gp2 (sep_emp _).symm rfl)) ⟨emp, (sep_emp _).symm⟩ ?_
  (apply Sd.tail; case hall => kernel_rfl)
  refine RunL.mem (fl2 rfl (sep_emp _)) ?_
  refine RunL.storeAll ti89 rfl rfl rfl (ones rfl) (frl rfl) rfl ?_
  refine RunL.nil ?_
  refine Run.retC (A' := _) Try.func44 rfl rfl rfl ti89 rfl Blk.pts rfl (Grew.refl _) ?_
  exact ⟨_, _, rfl, (Eq.trans (frc (frl rfl) rfl) (congrArg (· * _) (asg as1)))⟩
theorem s44 (rd : Rd w0 A (.slice ad m cap) 4 m (Fl encT111 es)) (hm : m ≤ 1048576) : Spec Try.prog w0 44 [.agg #[.int .i64 a, .int .i64 b, .int .i64 c, .int .i64 d, .slice ad m cap]] A (fun v' A' => ∃ ad2 cap2 J, v' = .agg #[.int .i64 a, .int .i64 b, .int .i64 c, .int .i64 d, .slice ad2 m cap2] ∧ A' = A * J * own 111 4 (.slice ad2 m cap2) m (Fl encT111 es)) := by
  refine Spec.learn2 (view_spec rd hm) ?_
  rintro v' A' w ⟨v, J, rfl, rfl⟩ hs
  obtain ⟨ad2, cap2, rfl, _, _⟩ := hs.ownRd0.form
  exact ⟨ad2, cap2, J, rfl, rfl⟩
theorem s41 (rd : Rd w0 A u 1 m (B bs)) : Spec Try.prog w0 41 [u] A (fun v' A' => A' = A * own 5 1 v' 512 (B (imgB bs))) := by
  have hl := rd.lenB
  subst hl
  have hmx := rd.max
  refine Spec.of_run [(0, u)] Try.func41 rfl (Nat.le_of_ble_eq_true rfl) (by repeat (first | exact trivial | refine ⟨rfl, ?_⟩)) ?_
  refine Run.seq ?_
  refine Run.region ?_
  refine RunL.ok (OpOk.assign rfl) rfl ?_
  refine RunL.nil ?_
  refine Run.seq ?_
  refine Run.region ?_
  refine RunL.makeB (m := 512) rfl ti5 rfl rfl (by omega) rfl (fun vx1 rdx1 => ?_)
  refine RunL.ok (OpOk.assign rfl) rfl ?_
  refine RunL.nil ?_
  refine Run.seq ?_
  refine Run.region ?_
  refine RunL.ok (OpOk.move rfl) rfl ?_
  refine RunL.ok (OpOk.move rfl) rfl ?_
  refine RunL.copyB rfl ti5 rfl rfl rfl rfl rd.left rfl (fun rdx2 => ?_)
  refine RunL.nil ?_
  refine Run.seq ?_
  refine Run.region ?_
  refine RunL.ok (OpOk.move rfl) rfl ?_
  refine RunL.ok (OpOk.assign rfl) rfl ?_
  refine RunL.nil ?_
  refine Run.ret1 Try.func41 rfl rfl ?_
  exact (frc rfl rfl)
theorem s38 (rd : Rd w0 A u 1 m (B bs)) : Spec Try.prog w0 38 [u] A (fun v' A' => ∃ p J, v' = .pointer (some ⟨p, 0, none⟩) ∧ A' = A * J * pts p (.cells (B (imgB bs) ++ [Value.int .i64 (-1)]).toArray 177 (0, 0))) := by
  have hl := imgB_len bs
  refine Spec.of_run [(0, u)] Try.func38 rfl (Nat.le_of_ble_eq_true rfl) (by repeat (first | exact trivial | refine ⟨rfl, ?_⟩)) ?_
  refine Run.seq ?_
  refine Run.region ?_
  refine RunL.ok (OpOk.assign rfl) rfl ?_
  refine RunL.nil ?_
  refine Run.seq ?_
  refine Run.region ?_
  refine RunL.call cal55 rfl (s55) rfl (fun vx1 Ax1 hx1 => ?_)
  obtain ⟨x2, ⟨rfl, rfl⟩⟩ := hx1
  refine RunL.ok (OpOk.assign rfl) rfl ?_
  refine RunL.nil ?_
  refine Run.seq ?_
  refine Run.seq ?_
  refine Run.region ?_
  refine RunL.ok (OpOk.move rfl) rfl ?_
  refine RunL.ok (OpOk.eqlPN rfl rfl) rfl ?_
  refine RunL.ok (OpOk.move rfl) rfl ?_
  refine RunL.on rfl rfl ?_
  refine RunL.ok (OpOk.move rfl) rfl ?_
  refine RunL.on rfl rfl ?_
  refine RunL.ok (OpOk.move rfl) rfl ?_
  refine RunL.on rfl rfl ?_
  refine RunL.call cal41 rfl (s41 rd.left) rfl (fun vx3 Ax3 hx3 => ?_)
  obtain rfl := hx3
  refine RunL.on rfl rfl ?_
  refine RunL.know (fun w s => (s.conv rfl).ownRd0) (fun rdx4 => ?_)
  refine RunL.mem (frc (frl rfl) rfl) ?_
  refine RunL.call cal81 rfl (s81c (Rd.right rdx4) rfl rfl) rfl (fun vx7 Ax7 hx7 => ?_)
  obtain ⟨rfl, rfl⟩ := hx7
  refine RunL.on rfl rfl ?_
  refine RunL.ok (OpOk.as (c := false) (OpOk.neq rfl rfl) (by rw [decide_eq_true (by omega)]; rfl)) rfl ?_
  refine RunL.ok (OpOk.pickF rfl rfl) rfl ?_
  refine RunL.nil ?_
  refine Run.condF rfl ?_
  refine Run.skip ?_
  refine Run.seq ?_
  refine Run.region ?_
  refine RunL.ok (OpOk.move rfl) rfl ?_
  refine RunL.ok (OpOk.assign rfl) rfl ?_
  refine RunL.nil ?_
  refine Run.ret1 Try.func38 rfl rfl ?_
  exact ⟨_, _, rfl, (congrArg (· * _) as1)⟩
end
end Go.Proofs.Yteopadjihklkmaa
end

section
namespace Go.Proofs.Yteopadjihklkmaa
open Go Go.Proofs
set_option maxRecDepth 100000
set_option maxHeartbeats 4000000
set_option linter.unusedSimpArgs false
set_option linter.unusedVariables false
/-- A row: which sector, what. -/
abbrev Rw := Nat × SV × List UInt8
def encT104 : Rw → List Value := fun (s, v, _) => [.int .i64 (s : Int), v.1]
instance : OneC encT104 := ⟨fun ⟨s, v, b⟩ u hu => by
  simp only [encT104, List.mem_cons, List.not_mem_nil, or_false] at hu
  rcases hu with rfl | rfl
  · rfl
  · exact v.2⟩
def GR (w0 : World) (A : Asn) (p : Rw) : Prop := Rd w0 A p.2.1.1 1 p.2.2.length (B p.2.2)
instance {w0 : World} : Lift (GR w0) := ⟨fun h => Rd.left h, fun h => Rd.right h⟩
def rc (p : Rw) : Nat × List UInt8 := (p.1, p.2.2)
def doneF : List UInt8 → List (Nat × List UInt8) → List UInt8
  | xs, [] => xs
  | xs, (s, b) :: r => doneF (setSec xs s b) r
def okRow (p : Nat × List UInt8) : Prop := p.1 ≤ 15 ∧ p.2.length = 32
theorem doneF_append : ∀ (a b : List (Nat × List UInt8)) (xs : List UInt8), doneF xs (a ++ b) = doneF (doneF xs a) b
  | [], _, _ => rfl
  | (s, c) :: r, b, xs => doneF_append r b (setSec xs s c)
theorem doneF_len : ∀ (l : List (Nat × List UInt8)) (xs : List UInt8), xs.length = 512 → (∀ p ∈ l, okRow p) → (doneF xs l).length = 512
  | [], _, h, _ => h
  | (s, b) :: r, xs, h, ho => by
    have hb := ho (s, b) (List.mem_cons_self ..)
    rw [doneF]
    exact doneF_len r _ (setSec_len h hb.1 hb.2) (fun p hp => ho p (List.mem_cons_of_mem _ hp))
def rowsF : Nat → List (List UInt8) → List (Nat × List UInt8)
  | _, [] => []
  | a, b :: r => (a, b) :: rowsF (a + 1) r
theorem rowsF_len : ∀ (l : List (List UInt8)) (a : Nat), (rowsF a l).length = l.length
  | [], _ => rfl
  | _ :: r, a => by rw [rowsF, List.length_cons, rowsF_len r, List.length_cons]
theorem wrote_all : ∀ (l : List (List UInt8)) (xs : List UInt8) (w : Int) (a : Nat), w < 0 ∨ (l.length : Int) ≤ w → wroteF xs w a l = (doneF xs (rowsF a l), if w < 0 then w else w - l.length, 0)
  | [], xs, w, a, h => by
    rw [wroteF]
    simp [rowsF, doneF]
  | b :: r, xs, w, a, h => by
    rw [List.length_cons] at h ⊢
    rw [wroteF, if_neg (by omega), wrote_all r _ _ _ (by split <;> omega), rowsF, doneF]
    congr 2
    split <;> split <;> first | omega | (split <;> omega)
theorem wrote_part : ∀ (l : List (List UInt8)) (xs : List UInt8) (w a : Nat), w < l.length → wroteF xs (w : Int) a l = (doneF xs ((rowsF a l).take w), 0, 30)
  | [], xs, w, a, h => by simp at h
  | b :: r, xs, 0, a, h => rfl
  | b :: r, xs, w + 1, a, h => by
    rw [List.length_cons] at h
    rw [wroteF, if_neg (by omega), if_pos (by omega), show ((w + 1 : Nat) : Int) - 1 = (w : Int) by omega, wrote_part r _ _ _ (by omega), rowsF, List.take_succ_cons, doneF]
section
variable {w0 : World} {A : Asn} {u r : Value} {m : Nat} {xs : List UInt8} {rows : List Rw}
end
end Go.Proofs.Yteopadjihklkmaa
end

section
namespace Go.Proofs.Yteopadjihklkmaa
open Go Go.Proofs
set_option maxRecDepth 100000
set_option maxHeartbeats 4000000
set_option linter.unusedSimpArgs false
set_option linter.unusedVariables false
/-- The entries behind a Store. -/
def putE (es : List En) (x : En) : List En := if atE x.2.1 x.2.2.1 es < 0 then es ++ [x] else es.set (atE x.2.1 x.2.2.1 es).toNat x
/-- What a Store writes, how it ends, the entries then. -/
def storesP (q : Int) (t : Nat) (es : List En) (k o i : Int) (bs : List UInt8) : List (Nat × List UInt8) × Int × List En :=
  if ¬ rightP (k, o, i, 0) then ([], 2, []) else if 64 < bs.length then ([], 11, []) else if atE o i es < 0 ∧ 5 ≤ es.length then ([], 20, []) else if 65535 ≤ q then ([], 29, []) else if freeE es < 0 then ([], 21, []) else
    ([(3 + 2 * (freeE es).toNat, (full64 bs).take 32), (4 + 2 * (freeE es).toNat, (full64 bs).drop 32), (3 - t, sectB (listB (q + 1) (putE es (k, o, i, freeE es))))], 0, putE es (k, o, i, freeE es))
section
variable {w0 : World} {A : Asn} {a b q k o i s w : Int} {ad : Option Addr} {m cap n t : Nat} {es : List En} {u : Value} {bs xs : List UInt8}
end
end Go.Proofs.Yteopadjihklkmaa
end

section
namespace Go.Proofs.Yteopadjihklkmaa
open Go Go.Proofs
set_option maxRecDepth 100000
set_option maxHeartbeats 4000000
set_option linter.unusedSimpArgs false
set_option linter.unusedVariables false
abbrev Out := List (Nat × List UInt8) × Int × List En
/-- How many rows are written; how it ends. -/
def donN (R : Out) (w : Int) : Nat := if 0 ≤ w ∧ w < R.1.length then w.toNat else R.1.length
def errN (R : Out) (w : Int) : Int := if 0 ≤ w ∧ w < R.1.length then 30 else R.2.1
/-- A view: number, issuer, count, copy, entries. -/
abbrev Vw := Int × Int × Int × Int × List En
def vwN (R : Out) (w a b q t : Int) : Vw := if errN R w = 0 then (a, b, q + 1, 3 - t, R.2.2) else (0, 0, 0, 0, [])
/-- A change of a card, told. -/
def ChangeR (A : Asn) (p : Nat) (xs : List UInt8) (w a b q t : Int) (R : Out) : Value → Asn → Prop := fun v' A' => ∃ ad cap w2 J,
  v' = .tuple #[.agg #[.int .i64 (vwN R w a b q t).1, .int .i64 (vwN R w a b q t).2.1, .int .i64 (vwN R w a b q t).2.2.1, .int .i64 (vwN R w a b q t).2.2.2.1, .slice ad (vwN R w a b q t).2.2.2.2.length cap], .int .i64 (errN R w)] ∧ (w < 0 → w2 = w) ∧
  A' = A * J * own 111 4 (.slice ad (vwN R w a b q t).2.2.2.2.length cap) (vwN R w a b q t).2.2.2.2.length (Fl encT111 (vwN R w a b q t).2.2.2.2) * pts p (.cells (B ((doneF xs (R.1.take (donN R w)))) ++ [Value.int .i64 (w2)]).toArray 177 (0, 0))
section
variable {w0 : World} {A : Asn} {p : Nat} {a b q k o i s w : Int} {ad : Option Addr} {m cap n t : Nat} {es : List En} {u : Value} {bs xs : List UInt8}
theorem ChangeR.refuse {R : Out} {e : Int} {J : Asn} {tt : Int} (hR : R.1 = []) (he : R.2.1 = e) (hne : e ≠ 0) (hw : w = w) : ChangeR A p xs w a b q tt R (.tuple #[.agg #[.int .i64 0, .int .i64 0, .int .i64 0, .int .i64 0, .slice none 0 0], .int .i64 e]) (A * pts p (.cells (B (xs) ++ [Value.int .i64 (w)]).toArray 177 (0, 0)) * J) := by
  have hE : errN R w = e := by rw [errN, hR, if_neg (by intro h; have h2 := h.2; simp at h2; omega), he]
  have hV : vwN R w a b q tt = (0, 0, 0, 0, []) := by rw [vwN, hE, if_neg hne]
  unfold ChangeR
  rw [hV, hE, hR, List.take_nil, doneF]
  refine ⟨none, 0, w, J, rfl, fun _ => rfl, ?_⟩
  show _ = A * J * own 111 4 (.slice none 0 0) 0 [] * _
  rw [own_nil_eq, sep_emp, sep_assoc, sep_comm _ J, ← sep_assoc]
theorem ChangeR.torn {R : Out} {J : Asn} {tt w2 : Int} {ys : List UInt8} (hw : 0 ≤ w) (hw2 : w < R.1.length) (hy : ys = doneF xs (R.1.take w.toNat)) : ChangeR A p xs w a b q tt R (.tuple #[.agg #[.int .i64 0, .int .i64 0, .int .i64 0, .int .i64 0, .slice none 0 0], .int .i64 30]) (A * J * pts p (.cells (B (ys) ++ [Value.int .i64 (w2)]).toArray 177 (0, 0))) := by
  have hE : errN R w = 30 := by rw [errN, if_pos ⟨hw, hw2⟩]
  have hV : vwN R w a b q tt = (0, 0, 0, 0, []) := by rw [vwN, hE, if_neg (by decide)]
  have hN : donN R w = w.toNat := by rw [donN, if_pos ⟨hw, hw2⟩]
  subst hy
  unfold ChangeR
  rw [hV, hE, hN]
  refine ⟨none, 0, w2, J, rfl, fun h => by omega, ?_⟩
  show _ = A * J * own 111 4 (.slice none 0 0) 0 [] * _
  rw [own_nil_eq, sep_emp]
theorem ChangeR.done {R : Out} {J : Asn} {tt t2 w2 : Int} {ys : List UInt8} {m2 cap2 : Nat} {ad2 : Option Addr} (hw : w < 0 ∨ R.1.length ≤ w) (h0 : R.2.1 = 0) (hy : ys = doneF xs R.1) (hm : m2 = R.2.2.length) (ht : t2 = 3 - tt) (hw2 : w < 0 → w2 = w) : ChangeR A p xs w a b q tt R (.tuple #[.agg #[.int .i64 a, .int .i64 b, .int .i64 (q + 1), .int .i64 t2, .slice ad2 m2 cap2], .int .i64 0]) (A * J * own 111 4 (.slice ad2 m2 cap2) m2 (Fl encT111 R.2.2) * pts p (.cells (B (ys) ++ [Value.int .i64 (w2)]).toArray 177 (0, 0))) := by
  have hE : errN R w = 0 := by rw [errN, if_neg (by omega), h0]
  have hV : vwN R w a b q tt = (a, b, q + 1, 3 - tt, R.2.2) := by rw [vwN, if_pos hE]
  have hN : donN R w = R.1.length := by rw [donN, if_neg (by omega)]
  subst hy hm ht
  unfold ChangeR
  rw [hV, hE, hN, List.take_length]
  exact ⟨ad2, cap2, w2, J, rfl, hw2, rfl⟩
theorem body_rows (f : Nat) (x y z : List UInt8) (t : Nat) : ([(3 + 2 * f, x), (4 + 2 * f, y), (t, z)] : List (Nat × List UInt8)) = rowsF (3 + 2 * f) [x, y] ++ [(t, z)] := by
  simp only [rowsF, List.cons_append, List.nil_append]
  rw [show 3 + 2 * f + 1 = 4 + 2 * f by omega]
theorem storeR (rd : Rd w0 A (.slice ad m cap) 4 m (Fl encT111 es)) (rdb : Rd w0 A u 1 n (B bs)) (hes : ∀ e ∈ es, okE e) (hm : m ≤ 5) (hq0 : 0 ≤ q) (ht : 1 ≤ t) (ht2 : t ≤ 2) (hx : xs.length = 512) (hw : w ≤ 9223372036854775807) :
    Spec Try.prog w0 57 [.pointer (some ⟨p, 0, none⟩), .agg #[.int .i64 a, .int .i64 b, .int .i64 q, .int .i64 (t : Int), .slice ad m cap], .agg #[.int .i64 k, .int .i64 o, .int .i64 i, .int .i64 s], u] (A * pts p (.cells (B (xs) ++ [Value.int .i64 (w)]).toArray 177 (0, 0))) (ChangeR A p xs w a b q t (storesP q t es k o i bs)) := by
  have hl0 := rd.lenFl (fun _ => rfl) (by decide)
  have hl1 := rdb.lenB
  have hfr := freeE_range es
  have har := atE_range o i es
  unfold storesP
  by_cases h1 : rightP (k, o, i, 0)
  · rw [if_neg (by simpa using h1)]
    by_cases h2 : 64 < bs.length
    · rw [if_pos h2]
      refine (s57b (s := s) rd.left rdb.left h1 (by omega)).mono ?_
      rintro v' A' ⟨J, rfl, rfl⟩
      exact ChangeR.refuse rfl rfl (by decide) rfl
    · rw [if_neg h2]
      by_cases h3 : atE o i es < 0 ∧ 5 ≤ es.length
      · rw [if_pos h3]
        refine (s57c (s := s) rd.left rdb.left h1 (by omega) h3.1 (by omega)).mono ?_
        rintro v' A' ⟨J, rfl, rfl⟩
        exact ChangeR.refuse rfl rfl (by decide) rfl
      · rw [if_neg h3]
        have hroom : roomP o i es := by unfold roomP; omega
        by_cases h4 : 65535 ≤ q
        · rw [if_pos h4]
          refine (s57d (s := s) rd.left rdb.left h1 (by omega) hroom h4).mono ?_
          rintro v' A' ⟨J, rfl, rfl⟩
          exact ChangeR.refuse rfl rfl (by decide) rfl
        · rw [if_neg h4]
          by_cases h5 : freeE es < 0
          · rw [if_pos h5]
            refine (s57e (s := s) rd.left rdb.left h1 (by omega) hroom (by omega) h5).mono ?_
            rintro v' A' ⟨J, rfl, rfl⟩
            exact ChangeR.refuse rfl rfl (by decide) rfl
          · rw [if_neg h5]
            obtain ⟨f, hf⟩ := Int.eq_ofNat_of_zero_le (by omega : 0 ≤ freeE es)
            rw [hf, Int.toNat_natCast, body_rows]
            have hct : 3 - (t : Int) = ((3 - t : Nat) : Int) := by omega
            have h64 : (full64 bs).length = 64 := full64_len (by omega)
            have hly : (doneF xs (rowsF (3 + 2 * f) [(full64 bs).take 32, (full64 bs).drop 32])).length = 512 := doneF_len _ _ hx (fun r hr => by
              simp only [rowsF, List.mem_cons, List.not_mem_nil, or_false] at hr
              rcases hr with rfl | rfl
              · exact ⟨by dsimp only; omega, by dsimp only; rw [List.length_take]; omega⟩
              · exact ⟨by dsimp only; omega, by dsimp only; rw [List.length_drop]; omega⟩)
            by_cases h6 : 0 ≤ w ∧ w < 2
            · obtain ⟨W, rfl⟩ := Int.eq_ofNat_of_zero_le h6.1
              refine (s57f (s := s) rd rdb hf (by omega) h1 (by omega) hroom (by omega) hx hw ⟨wrote_part _ _ W _ (by show W < 2; omega)⟩).mono ?_
              rintro v' A' ⟨J, rfl, rfl⟩
              refine ChangeR.torn h6.1 ?_ ?_
              · dsimp only
                rw [List.length_append, rowsF_len]
                show (W : Int) < ((2 + 1 : Nat) : Int)
                omega
              · dsimp only
                rw [Int.toNat_natCast, List.take_append_of_le_length (by rw [rowsF_len]; show W ≤ 2; omega)]
            · have hWa := wrote_all [(full64 bs).take 32, (full64 bs).drop 32] xs w (3 + 2 * f) (by show w < 0 ∨ ((2 : Nat) : Int) ≤ w; omega)
              generalize hw2 : (if w < 0 then w else w - ([(full64 bs).take 32, (full64 bs).drop 32] : List (List UInt8)).length) = w2 at hWa
              have hw2b : (w < 0 → w2 = w) ∧ (0 ≤ w → w2 = w - 2) := by
                rw [← hw2]
                constructor
                · intro h; rw [if_pos h]
                · intro h; rw [if_neg (by omega)]; rfl
              have hput : ∀ (es2 : List En), wroteF (doneF xs (rowsF (3 + 2 * f) [(full64 bs).take 32, (full64 bs).drop 32])) w2 (3 - t) [sectB (listB (q + 1) es2)] = if w2 = 0 then (doneF xs (rowsF (3 + 2 * f) [(full64 bs).take 32, (full64 bs).drop 32]), w2, 30) else (doneF xs (rowsF (3 + 2 * f) [(full64 bs).take 32, (full64 bs).drop 32] ++ [(3 - t, sectB (listB (q + 1) es2))]), (if 0 < w2 then w2 - 1 else w2), 0) := fun es2 => by
                rw [doneF_append]
                rfl
              by_cases h7 : w = 2
              · have h0 : w2 = 0 := by have := hw2b.2 (by omega); omega
                rw [h0] at hput hWa
                have hfin : ∀ (es2 : List En) (J : Asn), ChangeR A p xs w a b q t (rowsF (3 + 2 * f) [(full64 bs).take 32, (full64 bs).drop 32] ++ [(3 - t, sectB (listB (q + 1) es2))], 0, es2) (.tuple #[.agg #[.int .i64 0, .int .i64 0, .int .i64 0, .int .i64 0, .slice none 0 0], .int .i64 30]) (A * J * pts p (.cells (B ((doneF xs (rowsF (3 + 2 * f) [(full64 bs).take 32, (full64 bs).drop 32]))) ++ [Value.int .i64 (0)]).toArray 177 (0, 0))) := fun es2 J => by
                  refine ChangeR.torn (by omega) ?_ ?_
                  · dsimp only
                    rw [List.length_append, rowsF_len, h7]
                    show (2 : Int) < ((2 + 1 : Nat) : Int)
                    omega
                  · dsimp only
                    rw [h7, show (2 : Int).toNat = 2 from rfl, List.take_left' (show (rowsF (3 + 2 * f) [List.take 32 (full64 bs), List.drop 32 (full64 bs)]).length = 2 from rowsF_len _ _)]
                by_cases h8 : atE o i es < 0
                · have hpe : putE es (k, o, i, (f : Int)) = es ++ [(k, o, i, (f : Int))] := by rw [putE, if_pos h8]
                  rw [hpe]
                  refine (s57g (s := s) (j := 0) h8 (by omega) rd rdb hf (by omega) h1 (by omega) hes hq0 (by omega) hx hly hw (by decide) hct (by omega) ⟨hWa⟩ ⟨hput _⟩).mono ?_
                  rintro v' A' ⟨J, rfl, rfl⟩
                  exact hfin _ J
                · obtain ⟨j, hj⟩ := Int.eq_ofNat_of_zero_le (by omega : 0 ≤ atE o i es)
                  have hpe : putE es (k, o, i, (f : Int)) = es.set j (k, o, i, (f : Int)) := by rw [putE, if_neg h8]; dsimp only; rw [hj, Int.toNat_natCast]
                  rw [hpe]
                  refine (s57i (s := s) hj (by omega) hm rd rdb hf (by omega) h1 (by omega) hes hq0 (by omega) hx hly hw (by decide) hct (by omega) ⟨hWa⟩ ⟨hput _⟩).mono ?_
                  rintro v' A' ⟨J, rfl, rfl⟩
                  exact hfin _ J
              · have h0 : w2 ≠ 0 := by
                  rcases Int.lt_or_le w 0 with h | h
                  · rw [hw2b.1 h]; omega
                  · rw [hw2b.2 h]; omega
                have hw2m : w2 ≤ 9223372036854775807 := by
                  rcases Int.lt_or_le w 0 with h | h
                  · rw [hw2b.1 h]; omega
                  · rw [hw2b.2 h]; omega
                have hput2 := fun es2 => (hput es2).trans (if_neg h0)
                have hfin : ∀ (es2 : List En) (J : Asn) (ad2 : Option Addr) (m2 cap2 : Nat), m2 = es2.length → ChangeR A p xs w a b q t (rowsF (3 + 2 * f) [(full64 bs).take 32, (full64 bs).drop 32] ++ [(3 - t, sectB (listB (q + 1) es2))], 0, es2) (.tuple #[.agg #[.int .i64 a, .int .i64 b, .int .i64 (q + 1), .int .i64 ((3 - t : Nat) : Int), .slice ad2 m2 cap2], .int .i64 0]) (A * J * own 111 4 (.slice ad2 m2 cap2) m2 (Fl encT111 es2) * pts p (.cells (B ((doneF xs (rowsF (3 + 2 * f) [(full64 bs).take 32, (full64 bs).drop 32] ++ [(3 - t, sectB (listB (q + 1) es2))]))) ++ [Value.int .i64 ((if 0 < w2 then w2 - 1 else w2))]).toArray 177 (0, 0))) := fun es2 J ad2 m2 cap2 hm2 => by
                  refine ChangeR.done (R := (rowsF (3 + 2 * f) [(full64 bs).take 32, (full64 bs).drop 32] ++ [(3 - t, sectB (listB (q + 1) es2))], 0, es2)) ?_ rfl rfl hm2 hct.symm (fun h => by rw [hw2b.1 h, if_neg (by omega)])
                  dsimp only
                  rw [List.length_append, rowsF_len]
                  show w < 0 ∨ ((2 + 1 : Nat) : Int) ≤ w
                  omega
                by_cases h8 : atE o i es < 0
                · have hpe : putE es (k, o, i, (f : Int)) = es ++ [(k, o, i, (f : Int))] := by rw [putE, if_pos h8]
                  rw [hpe]
                  refine (s57h (s := s) (j := 0) h8 (by omega) rd rdb hf (by omega) h1 (by omega) hes hq0 (by omega) hx hly hw hw2m hct (by omega) ⟨hWa⟩ ⟨hput2 _⟩).mono ?_
                  rintro v' A' ⟨ad2, cap2, J, rfl, rfl⟩
                  exact hfin _ J ad2 _ cap2 (by simp)
                · obtain ⟨j, hj⟩ := Int.eq_ofNat_of_zero_le (by omega : 0 ≤ atE o i es)
                  have hpe : putE es (k, o, i, (f : Int)) = es.set j (k, o, i, (f : Int)) := by rw [putE, if_neg h8]; dsimp only; rw [hj, Int.toNat_natCast]
                  rw [hpe]
                  refine (s57j (s := s) hj (by omega) hm rd rdb hf (by omega) h1 (by omega) hes hq0 (by omega) hx hly hw hw2m hct (by omega) ⟨hWa⟩ ⟨hput2 _⟩).mono ?_
                  rintro v' A' ⟨ad2, cap2, J, rfl, rfl⟩
                  exact hfin _ J ad2 _ cap2 (by simp)
  · rw [if_pos h1]
    refine (s57a (s := s) rd.left h1).mono ?_
    rintro v' A' ⟨J, rfl, rfl⟩
    exact ChangeR.refuse rfl rfl (by decide) rfl
end
end Go.Proofs.Yteopadjihklkmaa
end

section
namespace Go.Proofs.Yteopadjihklkmaa
open Go Go.Proofs
set_option maxRecDepth 100000
set_option maxHeartbeats 4000000
set_option linter.unusedSimpArgs false
set_option linter.unusedVariables false
theorem face_says {a b : Int} (hn : namedP a b) : sealed ((sectB (faceB a b)).take (32 - 2)) = sectB (faceB a b) ∧ faceOk (sectB (faceB a b)) ∧ cardB (sectB (faceB a b)) = a ∧ issB (sectB (faceB a b)) = b := by
  have hpl : (pad (faceB a b)).length = 30 := pad_len (by show 5 ≤ 30; decide)
  have ht : (sectB (faceB a b)).take (32 - 2) = pad (faceB a b) := by
    rw [sectB, sealed, List.take_append_of_le_length (by omega), List.take_of_length_le (by omega)]
  obtain ⟨h1, h2, h3, h4⟩ := hn
  have hc : cardB (sectB (faceB a b)) = a := by
    rw [cardB, ht]
    exact by2_of (by rw [pad_at (by show 2 < 5; decide)]; rfl) (by rw [pad_at (by show 2 + 1 < 5; decide)]; rfl) (by omega) h2
  have hi : issB (sectB (faceB a b)) = b := by
    rw [issB, ht]
    exact by1_of (by rw [pad_at (by show 4 < 5; decide)]; rfl) (by omega) (by omega)
  refine ⟨by rw [ht]; rfl, ?_, hc, hi⟩
  unfold faceOk
  rw [hc, hi]
  exact ⟨⟨h1, h2, h3, h4⟩, rfl⟩
/-- What a change leaves and tells. -/
structure OutIs (xs : List UInt8) (R : Out) (w a b q t : Int) (zs : List UInt8) (e a2 b2 q2 t2 : Int) (es2 : List En) : Prop where
  out : errN R w = e ∧ vwN R w a b q t = (a2, b2, q2, t2, es2) ∧ doneF xs (R.1.take (donN R w)) = zs
/-- What Format leaves. -/
def fmt2 (xs : List UInt8) : List UInt8 := setSec (setSec xs 1 (sectB (listB 1 []))) 2 (List.replicate 32 0)
def fmtF (xs : List UInt8) (a b : Int) : List UInt8 := setSec (fmt2 xs) 0 (sectB (faceB a b))
theorem d0_len : (sectB (listB 1 [])).length = 32 := by decide +kernel
theorem face_len (a b : Int) : (sectB (faceB a b)).length = 32 := by rw [sectB, sealed_length, pad_len (by show 5 ≤ 30; decide)]
theorem fmt2_len {xs : List UInt8} (h : xs.length = 512) : (fmt2 xs).length = 512 := setSec_len (setSec_len h (by decide) d0_len) (by decide) (by simp)
theorem fmt_says {xs : List UInt8} (h : xs.length = 512) {a b : Int} (hn : namedP a b) : Says (fmtF xs a b) 1 1 [] ∧ cardB (secOf (fmtF xs a b) 0) = a ∧ issB (secOf (fmtF xs a b) 0) = b := by
  obtain ⟨f1, f2, f3, f4⟩ := face_says hn
  have h1 : (setSec xs 1 (sectB (listB 1 []))).length = 512 := setSec_len h (by decide) d0_len
  have h2 := fmt2_len h
  have hfl := face_len a b
  have e0 : secOf (fmtF xs a b) 0 = sectB (faceB a b) := sec_set_same h2 (by decide) hfl
  have e1 : secOf (fmtF xs a b) 1 = sectB (listB 1 []) := by
    rw [fmtF, sec_set_other h2 (by decide) (by decide) hfl (by decide), fmt2, sec_set_other h1 (by decide) (by decide) (by simp) (by decide), sec_set_same h (by decide) d0_len]
  have e2 : secOf (fmtF xs a b) 2 = List.replicate 32 0 := by
    rw [fmtF, sec_set_other h2 (by decide) (by decide) hfl (by decide), fmt2, sec_set_same h1 (by decide) (by simp)]
  obtain ⟨l1, l2, l3⟩ := laid_ok (q := 1) (es := []) (by decide) (by decide) (by decide) ⟨fun e he => (by cases he), List.Pairwise.nil⟩
  have hno : okB (List.replicate 32 0) = false := by decide +kernel
  refine ⟨⟨setSec_len h2 (by decide) hfl, by rw [e0]; exact f1, by rw [e0]; exact f2, ?_, .inl rfl⟩, by rw [e0]; exact f3, by rw [e0]; exact f4⟩
  rw [bestF_two, bestF_one, e1, e2, hno, l1, l2, l3]
  rw [if_neg (fun h => by cases h.1), if_pos ⟨rfl, by decide⟩]
section
variable {w0 : World} {A : Asn} {p : Nat} {xs : List UInt8} {w q : Int} {t m : Nat} {es : List En} {u : Value}
theorem s39f (h : Says xs q t es) : Spec Try.prog w0 39 [.pointer (some ⟨p, 0, none⟩)] (A * pts p (.cells (B (xs) ++ [Value.int .i64 (w)]).toArray 177 (0, 0))) (fun v' A' => ∃ ad cap J, v' = .tuple #[.agg #[.int .i64 (cardB (secOf xs 0)), .int .i64 (issB (secOf xs 0)), .int .i64 q, .int .i64 (t : Int), .slice ad es.length cap], .int .i64 0] ∧ A' = A * J * own 111 4 (.slice ad es.length cap) es.length (Fl encT111 es) * pts p (.cells (B (xs) ++ [Value.int .i64 (w)]).toArray 177 (0, 0))) := by
  have hb := h.best
  have ht := h.copy
  have := s39e (w0 := w0) (A := A) (p := p) (w := w) h.len h.sld h.face (by rw [hb]; dsimp only; omega)
  rw [hb] at this
  exact this
theorem s40e (rd : Rd w0 A u 1 m (B xs)) (hm : m = 512) (h : Says xs q t es) : Spec Try.prog w0 40 [u] A (fun v' A' => ∃ ad cap J, v' = .tuple #[.agg #[.int .i64 (cardB (secOf xs 0)), .int .i64 (issB (secOf xs 0)), .int .i64 q, .int .i64 (t : Int), .slice ad es.length cap], .int .i64 0] ∧ A' = A * J * own 111 4 (.slice ad es.length cap) es.length (Fl encT111 es)) := by
  have hb := h.best
  have ht := h.copy
  have := s40d (w0 := w0) (A := A) rd hm h.sld h.face (by rw [hb]; dsimp only; omega)
  rw [hb] at this
  exact this
section
variable {a b k o i s a2 b2 q2 t2 e : Int} {ad : Option Addr} {cap n : Nat} {es2 : List En} {bs zs : List UInt8}
theorem s57k (rd : Rd w0 A (.slice ad m cap) 4 m (Fl encT111 es)) (rdb : Rd w0 A u 1 n (B bs)) (h : Says xs q t es) (hw : w ≤ 9223372036854775807) (hO : OutIs xs (storesP q t es k o i bs) w a b q t zs e a2 b2 q2 t2 es2) :
    Spec Try.prog w0 57 [.pointer (some ⟨p, 0, none⟩), .agg #[.int .i64 a, .int .i64 b, .int .i64 q, .int .i64 (t : Int), .slice ad m cap], .agg #[.int .i64 k, .int .i64 o, .int .i64 i, .int .i64 s], u] (A * pts p (.cells (B (xs) ++ [Value.int .i64 (w)]).toArray 177 (0, 0))) (fun v' A' => ∃ ad cap w2 J, v' = .tuple #[.agg #[.int .i64 a2, .int .i64 b2, .int .i64 q2, .int .i64 t2, .slice ad es2.length cap], .int .i64 e] ∧ (w < 0 → w2 = w) ∧ A' = A * J * own 111 4 (.slice ad es2.length cap) es2.length (Fl encT111 es2) * pts p (.cells (B (zs) ++ [Value.int .i64 (w2)]).toArray 177 (0, 0))) := by
  have hl0 := rd.lenFl (fun _ => rfl) (by decide)
  obtain ⟨he, hv, hz⟩ := hO.out
  obtain ⟨f1, f2, f3, f4, _⟩ := h.facts
  have ht := h.copy
  have := storeR (w0 := w0) (A := A) (p := p) (q := q) (t := t) (a := a) (b := b) (k := k) (o := o) (i := i) (s := s) rd rdb (fun e he => okE_good (f4.1 e he)) (by omega) (by omega) (by omega) (by omega) h.len hw
  unfold ChangeR at this
  rw [hv, he, hz] at this
  exact this
/-- A whole Format. -/
theorem s51d (hn : namedP a b) (hx : xs.length = 512) (hw : w < 0) : Spec Try.prog w0 51 [.pointer (some ⟨p, 0, none⟩), .int .i64 a, .int .i64 b] (A * pts p (.cells (B (xs) ++ [Value.int .i64 (w)]).toArray 177 (0, 0))) (fun v' A' => ∃ J, v' = .int .i64 0 ∧ A' = A * J * pts p (.cells (B ((fmtF xs a b)) ++ [Value.int .i64 (w)]).toArray 177 (0, 0))) := by
  refine s51c hn hx (ys := fmt2 xs) (w2 := w) (e := 0) ⟨?_⟩ ⟨?_⟩ (by omega) (fmt2_len hx) (by omega) rfl
  · simp only [wroteF]
    rw [if_neg (by omega), if_neg (by omega), if_neg (by omega), if_neg (by omega)]
    rfl
  · simp only [wroteF]
    rw [if_neg (by omega), if_neg (by omega)]
    rfl
end
theorem s37 : Spec Try.prog w0 37 [] A (fun v' A' => ∃ J, v' = .bool true ∧ A' = A * J) := by
  have hz0 : (List.replicate 512 (0 : UInt8)).length = 512 := by simp
  have hn : namedP 7 1 := ⟨by decide, by decide, by decide, by decide⟩
  obtain ⟨hS, hc, hi⟩ := fmt_says hz0 hn
  have rw_c := hc
  have rw_i := hi
  have hR : storesP 1 1 [] 1 2 9 [1] = ([(3, (full64 [1]).take 32), (4, (full64 [1]).drop 32), (2, sectB (listB 2 [(1, 2, 9, 0)]))], 0, [(1, 2, 9, 0)]) := by rfl
  have hE : errN (storesP 1 1 [] 1 2 9 [1]) (-1) = 0 := by rw [hR]; rfl
  have hV : vwN (storesP 1 1 [] 1 2 9 [1]) (-1) 7 1 1 ((1 : Nat) : Int) = (7, 1, 2, 2, [(1, 2, 9, 0)]) := by rw [hR]; rfl
  generalize hys : fmtF (List.replicate 512 0) 7 1 = ys at hS hc hi rw_c rw_i
  obtain ⟨zs, hz⟩ : ∃ zs, doneF ys ((storesP 1 1 [] 1 2 9 [1]).1.take (donN (storesP 1 1 [] 1 2 9 [1]) (-1))) = zs := ⟨_, rfl⟩
  have hSZ : zs.length = 512 ∧ secOf zs 3 = (full64 [1]).take 32 := by
    rw [hR] at hz
    have e : zs = setSec (setSec (setSec ys 3 ((full64 [1]).take 32)) 4 ((full64 [1]).drop 32)) 2 (sectB (listB 2 [(1, 2, 9, 0)])) := hz.symm
    have h1 : (setSec ys 3 ((full64 [1]).take 32)).length = 512 := setSec_len hS.len (by decide) (by decide)
    have h2 : (setSec (setSec ys 3 ((full64 [1]).take 32)) 4 ((full64 [1]).drop 32)).length = 512 := setSec_len h1 (by decide) (by decide)
    have h3 : (sectB (listB 2 [(1, 2, 9, 0)])).length = 32 := by decide +kernel
    rw [e]
    refine ⟨setSec_len h2 (by decide) h3, ?_⟩
    rw [sec_set_other h2 (by decide) (by decide) h3 (by decide), sec_set_other h1 (by decide) (by decide) (by decide) (by decide), sec_set_same hS.len (by decide) (by decide)]
  have hO : OutIs ys (storesP 1 1 [] 1 2 9 [1]) (-1) 7 1 1 ((1 : Nat) : Int) zs 0 7 1 2 2 [(1, 2, 9, 0)] := ⟨hE, hV, hz⟩
  obtain ⟨hzl, hz3⟩ := hSZ
  have hb0 : ((((secOf zs (3 + 2 * 0 : Int).toNat ++ secOf zs (3 + 2 * 0 + 1 : Int).toNat).getD (Int.toNat 0) 0).toNat : Nat) : Int) = 1 := by
    show ((((secOf zs 3 ++ secOf zs 4).getD 0 0).toNat : Nat) : Int) = 1
    rw [hz3]
    rfl
  refine Spec.of_run [] Try.func37 rfl (Nat.le_of_ble_eq_true rfl) (by repeat (first | exact trivial | refine ⟨rfl, ?_⟩)) ?_
  refine Run.seq ?_
  refine Run.region ?_
  refine RunL.ok (OpOk.assign rfl) rfl ?_
  refine RunL.nil ?_
  refine Run.seq ?_
  refine Run.region ?_
  refine RunL.call cal55 rfl (s55) rfl (fun vx1 Ax1 hx1 => ?_)
  obtain ⟨x2, ⟨rfl, rfl⟩⟩ := hx1
  refine RunL.ok (OpOk.assign rfl) rfl ?_
  refine RunL.nil ?_
  refine Run.seq ?_
  refine Run.seq ?_
  refine Run.region ?_
  refine RunL.ok (OpOk.move rfl) rfl ?_
  refine RunL.ok (OpOk.eqlPN rfl rfl) rfl ?_
  refine RunL.ok (OpOk.move rfl) rfl ?_
  refine RunL.on rfl rfl ?_
  refine RunL.ok (OpOk.move rfl) rfl ?_
  refine RunL.on rfl rfl ?_
  refine RunL.call cal51 rfl (s51d (by assumption) rfl (by omega)) rfl (fun vx6 Ax6 hx6 => ?_)
  obtain ⟨x7, ⟨rfl, rfl⟩⟩ := hx6
  refine RunL.on rfl rfl ?_
  refine RunL.ok (OpOk.as (c := false) (OpOk.neq rfl rfl) (by rw [decide_eq_true (by omega)]; rfl)) rfl ?_
  refine RunL.ok (OpOk.pickF rfl rfl) rfl ?_
  refine RunL.nil ?_
  refine Run.condF rfl ?_
  refine Run.skip ?_
  refine Run.seq ?_
  refine Run.region ?_
  refine RunL.ok (OpOk.move rfl) rfl ?_
  rw [hys]
  refine RunL.call cal39 rfl (s39f (by assumption)) rfl (fun vy5 Ay5 hy5 => ?_)
  obtain ⟨y6, ⟨y7, ⟨y8, ⟨rfl, rfl⟩⟩⟩⟩ := hy5
  refine RunL.ok (OpOk.move rfl) rfl ?_
  refine RunL.ok (OpOk.ext20 rfl) rfl ?_
  refine RunL.ok (OpOk.ext21 rfl) rfl ?_
  refine RunL.alloc ti86 rfl (fun by9 => ?_)
  refine RunL.storeAll ti86 rfl rfl rfl (ones rfl) rfl rfl ?_
  refine RunL.ok (OpOk.assign rfl) rfl ?_
  refine RunL.nil ?_
  refine Run.seq ?_
  refine Run.seq ?_
  rw [rw_c]
  rw [rw_i]
  refine Run.region ?_
  refine RunL.ok (OpOk.move rfl) rfl ?_
  refine RunL.ok (OpOk.as (c := false) (OpOk.neq rfl rfl) (by rw [decide_eq_true (by omega)]; rfl)) rfl ?_
  refine RunL.ok (OpOk.move rfl) rfl ?_
  refine RunL.on rfl rfl ?_
  refine RunL.ok (OpOk.fieldAddr fld86_0 rfl) rfl ?_
  refine RunL.on rfl rfl ?_
  refine RunL.ok (OpOk.load rfl rfl rfl (Blk.out Blk.pts _ _ (by first | rfl | assumption))) rfl ?_
  refine RunL.on rfl rfl ?_
  refine RunL.ok (OpOk.as (c := false) (OpOk.neq rfl rfl) (by rw [decide_eq_true (by omega)]; rfl)) rfl ?_
  refine RunL.ok (OpOk.pickF rfl rfl) rfl ?_
  refine RunL.ok (OpOk.move rfl) rfl ?_
  refine RunL.on rfl rfl ?_
  refine RunL.ok (OpOk.fieldAddr fld86_2 rfl) rfl ?_
  refine RunL.on rfl rfl ?_
  refine RunL.ok (OpOk.load rfl rfl rfl (Blk.out Blk.pts _ _ (by first | rfl | assumption))) rfl ?_
  refine RunL.on rfl rfl ?_
  refine RunL.ok (OpOk.as (c := false) (OpOk.neq rfl rfl) (by rw [decide_eq_true (by omega)]; rfl)) rfl ?_
  refine RunL.ok (OpOk.pickF rfl rfl) rfl ?_
  refine RunL.ok (OpOk.move rfl) rfl ?_
  refine RunL.on rfl rfl ?_
  refine RunL.ok (OpOk.fieldAddr fld86_3 rfl) rfl ?_
  refine RunL.on rfl rfl ?_
  refine RunL.ok (OpOk.load rfl rfl rfl (Blk.out Blk.pts _ _ (by first | rfl | assumption))) rfl ?_
  refine RunL.on rfl rfl ?_
  refine RunL.ok (OpOk.as (c := false) (OpOk.neq rfl rfl) (by rw [decide_eq_true (by omega)]; rfl)) rfl ?_
  refine RunL.ok (OpOk.pickF rfl rfl) rfl ?_
  refine RunL.nil ?_
  refine Run.condF rfl ?_
  refine Run.skip ?_
  refine Run.seq ?_
  refine Run.region ?_
  refine RunL.ok (OpOk.move rfl) rfl ?_
  refine RunL.ok (OpOk.loadS rfl rfl ti86 rfl Blk.pts rfl) rfl ?_
  refine RunL.ok (OpOk.build (cells := #[.int (IntKind.i64) (1), .int (IntKind.i64) (2), .int (IntKind.i64) (9), .int (IntKind.i64) (0)]) rfl (fun w => run_build w 111 _ _ (by rfl))) rfl ?_
  refine RunL.litB (xs := [1]) rfl ti5 rfl rfl rfl (by decide) rfl (fun vy10 rdy10 => ?_)
  refine RunL.know (fun w s => (s.conv (frl (frl (frl rfl)))).ownRd0) (fun rdy11 => ?_)
  refine RunL.know (fun w s => (s.conv rfl).ownRd0) (fun rdy12 => ?_)
  refine RunL.mem (frc (frl (frl rfl)) rfl) ?_
  refine RunL.call cal57 rfl (s57k (Rd.right rdy11).left.left (Rd.right rdy12) (by assumption) (by omega) (by assumption)) rfl (fun vy13 Ay13 hy13 => ?_)
  obtain ⟨y14, ⟨y15, ⟨y16, ⟨y17, ⟨rfl, ⟨y18, rfl⟩⟩⟩⟩⟩⟩ := hy13
  refine RunL.ok (OpOk.move rfl) rfl ?_
  refine RunL.ok (OpOk.ext20 rfl) rfl ?_
  refine RunL.ok (OpOk.ext21 rfl) rfl ?_
  refine RunL.alloc ti86 rfl (fun by19 => ?_)
  refine RunL.storeAll ti86 rfl rfl rfl (ones rfl) rfl rfl ?_
  refine RunL.ok (OpOk.assign rfl) rfl ?_
  refine RunL.nil ?_
  refine Run.seq ?_
  refine Run.region ?_
  refine RunL.ok (OpOk.move rfl) rfl ?_
  refine RunL.mem (frc (frl rfl) rfl) ?_
  refine RunL.call cal42 rfl (s42b (by assumption) (by omega) (by omega)) rfl (fun vy21 Ay21 hy21 => ?_)
  obtain ⟨y22, ⟨y23, ⟨rfl, rfl⟩⟩⟩ := hy21
  refine RunL.ok (OpOk.move rfl) rfl ?_
  refine RunL.ok (OpOk.ext20 rfl) rfl ?_
  refine RunL.ok (OpOk.ext21 rfl) rfl ?_
  refine RunL.ok (OpOk.assign rfl) rfl ?_
  refine RunL.ok (OpOk.assign rfl) rfl ?_
  refine RunL.nil ?_
  refine Run.seq ?_
  refine Run.region ?_
  refine RunL.ok (OpOk.move rfl) rfl ?_
  refine RunL.ok (OpOk.asT (OpOk.eql rfl rfl) (by omega)) rfl ?_
  refine RunL.ok (OpOk.move rfl) rfl ?_
  refine RunL.on rfl rfl ?_
  refine RunL.ok (OpOk.move rfl) rfl ?_
  refine RunL.on rfl rfl ?_
  refine RunL.ok (OpOk.asT (OpOk.eql rfl rfl) (by omega)) rfl ?_
  refine RunL.ok (OpOk.pickT rfl rfl) rfl ?_
  refine RunL.ok (OpOk.move rfl) rfl ?_
  refine RunL.on rfl rfl ?_
  refine RunL.ok (OpOk.fieldAddr fld86_2 rfl) rfl ?_
  refine RunL.on rfl rfl ?_
  refine RunL.ok (OpOk.load rfl rfl rfl (Blk.out Blk.pts.left.left.left _ _ (by first | rfl | assumption))) rfl ?_
  refine RunL.on rfl rfl ?_
  refine RunL.ok (OpOk.asT (OpOk.eql rfl rfl) (by omega)) rfl ?_
  refine RunL.ok (OpOk.pickT rfl rfl) rfl ?_
  refine RunL.ok (OpOk.move rfl) rfl ?_
  refine RunL.on rfl rfl ?_
  refine RunL.ok (OpOk.fieldAddr fld86_3 rfl) rfl ?_
  refine RunL.on rfl rfl ?_
  refine RunL.ok (OpOk.load rfl rfl rfl (Blk.out Blk.pts.left.left.left _ _ (by first | rfl | assumption))) rfl ?_
  refine RunL.on rfl rfl ?_
  refine RunL.ok (OpOk.asT (OpOk.eql rfl rfl) (by omega)) rfl ?_
  refine RunL.ok (OpOk.pickT rfl rfl) rfl ?_
  refine RunL.ok (OpOk.move rfl) rfl ?_
  refine RunL.on rfl rfl ?_
  refine RunL.ok (OpOk.fieldAddr fld86_4 rfl) rfl ?_
  refine RunL.on rfl rfl ?_
  refine RunL.ok (OpOk.load rfl rfl rfl (Blk.out Blk.pts.left.left.left _ _ (by first | rfl | assumption))) rfl ?_
  refine RunL.on rfl rfl ?_
  refine RunL.ok (OpOk.lenV rfl rfl rfl) rfl ?_
  refine RunL.on rfl rfl ?_
  refine RunL.ok (OpOk.eql rfl rfl) rfl ?_
  refine RunL.ok (OpOk.pickT rfl rfl) rfl ?_
  refine RunL.ok (OpOk.move rfl) rfl ?_
  refine RunL.on rfl rfl ?_
  refine RunL.ok (OpOk.move rfl) rfl ?_
  refine RunL.on rfl rfl ?_
  refine RunL.know (fun w s => (s.conv (frl rfl)).ownRd0) (fun rdy24 => ?_)
  refine RunL.ok (OpOk.lenR rfl rfl (Rd.right rdy24).left rfl) rfl ?_
  refine RunL.on rfl rfl ?_
  refine RunL.ok (OpOk.asT (OpOk.eql rfl rfl) (by omega)) rfl ?_
  refine RunL.ok (OpOk.pickT rfl rfl) rfl ?_
  refine RunL.ok (OpOk.move rfl) rfl ?_
  refine RunL.on rfl rfl ?_
  refine RunL.ok (OpOk.move rfl) rfl ?_
  refine RunL.on rfl rfl ?_
  refine RunL.ok (OpOk.idx1 rfl ti5 rfl (Rd.right rdy24).left rfl (by omega) (by omega)) rfl ?_
  refine RunL.on rfl rfl ?_
  refine RunL.ok (OpOk.load rfl rfl rfl (Rd.getB (Rd.right rdy24).left (by omega))) rfl ?_
  refine RunL.on rfl rfl ?_
  refine RunL.ok (OpOk.asT (OpOk.eql rfl rfl) (by omega)) rfl ?_
  refine RunL.ok (OpOk.pickT rfl rfl) rfl ?_
  refine RunL.ok (OpOk.assign rfl) rfl ?_
  refine RunL.nil ?_
  refine Run.ret1 Try.func37 rfl rfl ?_
  exact ⟨_, rfl, (asg (asg (asg (asg (asg (asg (asg (asg (asg (asg as1))))))))))⟩
end
end Go.Proofs.Yteopadjihklkmaa
end
