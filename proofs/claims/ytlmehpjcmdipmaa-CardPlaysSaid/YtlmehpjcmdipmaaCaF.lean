/- The law of cards' scripts, walked. -/
import Derived.Test.YtlmehpjcmdipmaaCaE
namespace Go.Proofs.Ytlmehpjcmdipmaa
open Go Go.Proofs
set_option maxRecDepth 100000
set_option maxHeartbeats 4000000
abbrev CdOp := Int × Int × Value × List UInt8
def encCd (o : CdOp) : List Value := [.int .i64 o.1, .int .i64 o.2.1, o.2.2.1]
structure CdOk (w0 : World) (o : CdOp) : Prop where
  rd : Rd w0 (old w0) o.2.2.1 1 o.2.2.2.length (B o.2.2.2)
  sz : o.2.2.2.length ≤ 140737488355328
  lo : -9223372036854775808 ≤ o.2.1
  hi : o.2.1 ≤ 9223372036854775807
theorem cardPlays_spec {w0 : World} {u : Value} {ops : List CdOp} (rd : Rd w0 (old w0) u 3 ops.length (Fl encCd ops)) (hok : ∀ o ∈ ops, CdOk w0 o) :
    Spec Try.prog w0 6 [u] (old w0) (fun v' A' => v' = .bool true ∧ Grew (old w0) A') := by
  have hmax := rd.max
  refine Spec.of_run [(0, u)] Try.func6 rfl (Nat.le_of_ble_eq_true rfl) (by repeat (first | exact trivial | refine ⟨rfl, ?_⟩)) ?_
  refine Run.seq ?_
  refine Run.region ?_
  refine RunL.ok (OpOk.assign rfl) rfl ?_
  refine RunL.nil ?_
  refine Run.seq ?_
  refine Run.seq ?_
  refine Run.region ?_
  refine RunL.call cal17 rfl (s17) rfl (fun vx1 Ax1 hx1 => ?_)
  obtain ⟨x2, ⟨rfl, rfl⟩⟩ := hx1
  refine RunL.ok (OpOk.not rfl) rfl ?_
  refine RunL.nil ?_
  refine Run.condF rfl ?_
  refine Run.skip ?_
  refine Run.seq ?_
  refine Run.region ?_
  refine RunL.call cal18 rfl (s18) rfl (fun vx3 Ax3 hx3 => ?_)
  obtain ⟨x4, ⟨rfl, rfl⟩⟩ := hx3
  refine RunL.ok (OpOk.assign rfl) rfl ?_
  refine RunL.nil ?_
  refine Run.seq ?_
  refine Run.region ?_
  refine RunL.call cal23 rfl (s23) rfl (fun vx5 Ax5 hx5 => ?_)
  obtain ⟨x6, ⟨x7, ⟨rfl, rfl⟩⟩⟩ := hx5
  refine RunL.ok (OpOk.assign rfl) rfl ?_
  refine RunL.nil ?_
  refine Run.seq ?_
  refine Run.seq ?_
  refine Run.region ?_
  refine RunL.ok (OpOk.move rfl) rfl ?_
  refine RunL.ok (OpOk.eqlPN rfl rfl) rfl ?_
  refine RunL.nil ?_
  refine Run.condF rfl ?_
  refine Run.skip ?_
  refine Run.seq ?_
  refine Run.seq ?_
  refine Run.region ?_
  refine RunL.ok (OpOk.assign rfl) rfl ?_
  refine RunL.nil ?_
  refine Run.block ?_
  refine Run.jump ((Run.loopJ (X := Nat × Asn × List UInt8 × Int × Int) (fun x => [(5, .int .i64 (x.1 : Int)), (4, .pointer (some ⟨x6, 0, none⟩)), (3, .pointer (some ⟨x4, 0, none⟩)), (0, u)]) (fun x => old w0 * x.2.1 * pts x4 (.cells (B (x.2.2.1) ++ [Value.int .i64 (x.2.2.2.1)]).toArray 95 (0, 0)) * pts x6 (.cells #[S (x.2.2.1), .int .i64 (x.2.2.2.2)] 57 (0, 0))) (fun x => x.1 ≤ ops.length ∧ x.1 ≤ 200 ∧ x.2.2.1.length = 512 ∧ x.2.2.2.1 = max x.2.2.2.2 (-1) ∧ x.2.2.2.2 ≤ 9223372036854775807) (fun x => ops.length - x.1) (0, _, List.replicate 512 0, -1, -1) ⟨Nat.zero_le _, Nat.zero_le _, List.length_replicate, rfl, show (-1 : Int) ≤ _ by decide⟩ (fun x hx ih => ?_))) ⟨rfl, rfl, rfl, rfl, trivial⟩ (Grew.of (Eq.trans (frc rfl (frc (frl rfl) rfl)) (congrArg (· * _) (congrArg (· * _) (asg as1)))) (Grew.refl _))
  obtain ⟨i, J, xs, w, rw⟩ := x
  simp only at hx ih ⊢
  obtain ⟨hi, hi3, hB1, hB2, hB3⟩ := hx
  rcases Nat.lt_or_ge i ops.length with hlt | hge
  · have hmem := getD_mem hlt
    have rd3 := (hok _ hmem).rd
    have hsz := (hok _ hmem).sz
    have hlo := (hok _ hmem).lo
    have hhi := (hok _ hmem).hi
    have hones : ∀ q ∈ (Value.agg (encCd (ops.getD i default)).toArray).cells.toList, q.oneCell' = true := fun q hq => by
      have e : (Value.agg (encCd (ops.getD i default)).toArray).cells.toList = encCd (ops.getD i default) := rfl
      rw [e] at hq
      simp only [encCd, List.mem_cons, List.not_mem_nil, or_false] at hq
      rcases hq with rfl | rfl | rfl
      · rfl
      · rfl
      · exact rd3.one
    rcases Decidable.em ((ops.getD i default).1 = 0) with k0 | k0
    · rcases Decidable.em ((ops.getD i default).2.1 < 0 ∨ 15 < (ops.getD i default).2.1) with hn | hn
      · refine Run.seq ?_
        refine Run.seq ?_
        refine Run.region ?_
        refine RunL.ok (OpOk.move rfl) rfl ?_
        refine RunL.ok (OpOk.move rfl) rfl ?_
        refine RunL.ok (OpOk.lenR rfl rfl rd.left.left.left rfl) rfl ?_
        refine RunL.ok (OpOk.asT (OpOk.lss rfl rfl) (by omega)) rfl ?_
        refine RunL.ok (OpOk.move rfl) rfl ?_
        refine RunL.on rfl rfl ?_
        refine RunL.ok (OpOk.move rfl) rfl ?_
        refine RunL.on rfl rfl ?_
        refine RunL.ok (OpOk.lss rfl rfl) rfl ?_
        refine RunL.ok (OpOk.pickT rfl rfl) rfl ?_
        refine RunL.nil ?_
        refine Run.condD rfl (fun y1 => ?_) (fun y1 => ?_)
        · refine Run.skip ?_
          refine Run.seq ?_
          refine Run.block ?_
          refine Run.seq ?_
          refine Run.region ?_
          refine RunL.ok (OpOk.move rfl) rfl ?_
          refine RunL.ok (OpOk.move rfl) rfl ?_
          refine RunL.ok (OpOk.idxN rfl ti54 rfl rd.left.left.left rfl (by omega)) rfl ?_
          refine RunL.ok (OpOk.loadFl default rfl rfl ti54 rfl rd.left.left.left (fun _ => rfl) rfl (by omega)) rfl ?_
          refine RunL.alloc ti54 rfl (fun by2 => ?_)
          refine RunL.storeAll ti54 rfl rfl rfl (by assumption) rfl rfl ?_
          refine RunL.nil ?_
          refine Run.seq ?_
          refine Run.region ?_
          refine RunL.lit0B rfl ti5 rfl (fun vy3 rdy3 => ?_)
          refine RunL.ok (OpOk.fieldAddr fld54_2 rfl) rfl ?_
          refine RunL.ok (OpOk.load rfl rfl rfl (Blk.out Blk.pts.left _ _ (by first | rfl | assumption))) rfl ?_
          refine RunL.appendB0 rfl ti5 rfl rfl rfl rfl rd3.left.left.left.left.left (by omega) rfl (fun vy4 rdy4 => ?_)
          refine RunL.ok (OpOk.assign rfl) rfl ?_
          refine RunL.nil ?_
          refine Run.seq ?_
          refine Run.region ?_
          refine RunL.ok (OpOk.assign rfl) rfl ?_
          refine RunL.nil ?_
          refine Run.seq ?_
          refine Run.seq ?_
          refine Run.region ?_
          refine RunL.ok (OpOk.fieldAddr fld54_0 rfl) rfl ?_
          refine RunL.ok (OpOk.load rfl rfl rfl (Blk.out Blk.pts.left _ _ (by first | rfl | assumption))) rfl ?_
          refine RunL.nil ?_
          refine Run.block ?_
          refine Run.seq ?_
          refine Run.region ?_
          refine RunL.ok (OpOk.asT (OpOk.eql rfl rfl) (by omega)) rfl ?_
          refine RunL.ok (OpOk.assign rfl) rfl ?_
          refine RunL.nil ?_
          refine Run.condT rfl ?_
          refine Run.know (fun w s => (s.conv rfl).ownRd0) (fun rdy5 => ?_)
          refine Run.drop [8] ?_
          (apply Run.drawD [] (by rfl) (Eq.trans (frc (frl (frl rfl)) (frc (frl (frl rfl)) rfl)) (asg rfl)); case hchk => kernel_rfl)
          refine Sd.quiet 0 _ _ rfl rfl rfl rfl rfl (QOp.ok (fun X => OpOk.move rfl)) ?_
          refine Sd.quiet 1 _ _ rfl rfl rfl rfl rfl (QOp.ok (fun X => OpOk.fieldAddr fld54_1 rfl)) ?_
          refine Sd.quiet 2 _ _ rfl rfl rfl rfl rfl (QOp.ok (fun X => OpOk.load rfl rfl rfl (Blk.out Blk.pts.left.left.left _ _ (by first | rfl | assumption)))) ?_
          refine Sd.quiet 3 _ _ rfl rfl rfl rfl rfl (QOp.ok (fun X => OpOk.move rfl)) ?_
          refine Sd.quiet 5 _ _ rfl rfl rfl rfl rfl (QOp.ok (fun X => OpOk.move rfl)) ?_
          refine Sd.quiet 6 _ _ rfl rfl rfl rfl rfl (QOp.ok (fun X => OpOk.fieldAddr fld54_1 rfl)) ?_
          refine Sd.quiet 7 _ _ rfl rfl rfl rfl rfl (QOp.ok (fun X => OpOk.load rfl rfl rfl (Blk.out Blk.pts.left.left.left _ _ (by first | rfl | assumption)))) ?_
          refine Sd.quiet 8 _ _ rfl rfl rfl rfl rfl (QOp.ok (fun X => OpOk.fieldAddr fld54_2 rfl)) ?_
          refine Sd.quiet 9 _ _ rfl rfl rfl rfl rfl (QOp.ok (fun X => OpOk.load rfl rfl rfl (Blk.out Blk.pts.left.left.left _ _ (by first | rfl | assumption)))) ?_
          (refine Sd.exec 4 rfl rfl rfl rfl rfl ?hrest (by rfl) (fun Xy6 Ky6 hKy6 => ?_); case hrest => kernel_rfl)
          refine RunL.mem (fl2 (sep_emp _) (flS rfl)) ?_
          refine RunL.mem (frc (frl rfl) rfl) ?_
          refine RunL.call cal20 rfl (s20a (by assumption)) rfl (fun vy7 Ay7 hy7 => ?_)
          obtain ⟨rfl, rfl⟩ := hy7
          refine Sd.ret hKy6 (Eq.trans (frc (frl rfl) rfl) (gp2 rfl rfl)) ⟨_, (emp_sep _).symm⟩ ?_
          (refine Sd.exec 10 rfl rfl rfl rfl rfl ?hrest (by rfl) (fun Xy8 Ky8 hKy8 => ?_); case hrest => kernel_rfl)
          refine RunL.mem (fl2 rfl rfl) ?_
          refine RunL.call cal24 rfl (s24a (by assumption)) rfl (fun vy9 Ay9 hy9 => ?_)
          obtain ⟨rfl, rfl⟩ := hy9
          refine Sd.ret hKy8 (Eq.trans rfl (gp2 (sep_emp _).symm (asg rfl))) ⟨_, rfl⟩ ?_
          refine Sd.quiet 11 _ _ rfl rfl rfl rfl rfl (QOp.ok (fun X => OpOk.asT (OpOk.eql rfl rfl) (by omega))) ?_
          refine Sd.quiet 12 _ _ rfl rfl rfl rfl rfl (QOp.ok (fun X => OpOk.assign rfl)) ?_
          (apply Sd.tail; case hall => kernel_rfl)
          refine RunL.mem (fl2 (flS rfl) (sep_emp _)) ?_
          refine RunL.nil ?_
          refine Run.inBlock ?_
          refine Run.seq ?_
          refine Run.seq ?_
          refine Run.region ?_
          refine RunL.ok (OpOk.move rfl) rfl ?_
          refine RunL.ok (OpOk.not rfl) rfl ?_
          refine RunL.ok (OpOk.move rfl) rfl ?_
          refine RunL.on rfl rfl ?_
          refine RunL.ok (OpOk.move rfl) rfl ?_
          refine RunL.on rfl rfl ?_
          refine RunL.ok (OpOk.strOf rfl rfl rfl rfl (Rd.right rdy5).left.left) rfl ?_
          refine RunL.on rfl rfl ?_
          refine RunL.ok (OpOk.fieldAddr fld54_2 rfl) rfl ?_
          refine RunL.on rfl rfl ?_
          refine RunL.ok (OpOk.load rfl rfl rfl (Blk.out Blk.pts.left.left.left _ _ (by first | rfl | assumption))) rfl ?_
          refine RunL.on rfl rfl ?_
          refine RunL.ok (OpOk.strOf rfl rfl rfl rfl rd3.left.left.left.left.left) rfl ?_
          refine RunL.on rfl rfl ?_
          refine RunL.ok (OpOk.neqSS rfl rfl) rfl ?_
          refine RunL.ok (OpOk.pickF rfl rfl) rfl ?_
          refine RunL.nil ?_
          refine Run.condNF rfl (by first | omega | with_reducible rfl | assumption) ?_
          refine Run.skip ?_
          refine Run.seq ?_
          refine Run.region ?_
          refine RunL.ok (OpOk.assign rfl) rfl ?_
          refine RunL.nil ?_
          refine Run.block ?_
          refine Run.jump ((Run.loopJ (X := Nat × Asn × List UInt8) (fun x => [(16, .int .i64 (x.1 : Int)), (7, vy4), (5, .int .i64 (i : Int)), (4, .pointer (some ⟨x6, 0, none⟩)), (3, .pointer (some ⟨x4, 0, none⟩)), (0, u)]) (fun x => old w0 * x.2.1 * pts x4 (.cells (B (xs) ++ [Value.int .i64 (w)]).toArray 95 (0, 0)) * pts x6 (.cells #[S (xs), .int .i64 (rw)] 57 (0, 0)) * own 5 1 vy4 (ops.getD i default).2.2.2.length (B x.2.2)) (fun x => x.1 ≤ (ops.getD i default).2.2.2.length ∧ x.2.2.length = (ops.getD i default).2.2.2.length) (fun x => (ops.getD i default).2.2.2.length - x.1) (0, _, (ops.getD i default).2.2.2) ⟨Nat.zero_le _, rfl⟩ (fun x hx ih5 => ?_))) ⟨rfl, rfl, rfl, rfl, rfl, rfl, trivial⟩ (Grew.of (Eq.trans (frc (frl (frl rfl)) rfl) (congrArg (· * _) (congrArg (· * _) (congrArg (· * _) (asg as1))))) (Grew.refl _))
          obtain ⟨q, J5, zs⟩ := x
          simp only at hx ih5 ⊢
          obtain ⟨hq, hzl⟩ := hx
          rcases Nat.lt_or_ge q (ops.getD i default).2.2.2.length with hq1 | hq1
          · refine Run.seq ?_
            refine Run.seq ?_
            refine Run.region ?_
            refine RunL.ok (OpOk.move rfl) rfl ?_
            refine RunL.ok (OpOk.move rfl) rfl ?_
            refine RunL.know (fun w s => (s.conv rfl).ownRd0) (fun rdq1 => ?_)
            refine RunL.ok (OpOk.lenR rfl rfl (Rd.right rdq1) rfl) rfl ?_
            refine RunL.ok (OpOk.asT (OpOk.lss rfl rfl) (by omega)) rfl ?_
            refine RunL.nil ?_
            refine Run.condT rfl ?_
            refine Run.skip ?_
            refine Run.seq ?_
            refine Run.block ?_
            refine Run.region ?_
            refine RunL.ok (OpOk.move rfl) rfl ?_
            refine RunL.ok (OpOk.move rfl) rfl ?_
            refine RunL.ok (OpOk.move rfl) rfl ?_
            refine RunL.ok (OpOk.move rfl) rfl ?_
            refine RunL.ok (OpOk.idx1N rfl ti5 rfl (Rd.right rdq1) rfl (by omega)) rfl ?_
            refine RunL.ok (OpOk.load rfl rfl rfl (Rd.getB (Rd.right rdq1) (by omega))) rfl ?_
            refine RunL.ok (OpOk.xor rfl rfl (x255 _)) rfl ?_
            refine RunL.ok (OpOk.idx1N rfl ti5 rfl (Rd.right rdq1) rfl (by omega)) rfl ?_
            refine RunL.storeB _ ti5 rfl rfl rfl rfl (by omega) ?_
            refine RunL.nil ?_
            refine Run.inBlock ?_
            refine Run.region ?_
            refine RunL.ok (OpOk.move rfl) rfl ?_
            refine RunL.ok (OpOk.addN _ 1 rfl rfl rfl rfl (by omega)) rfl ?_
            refine RunL.ok (OpOk.assign rfl) rfl ?_
            refine RunL.nil ?_
            refine Run.jump ((ih5 (q + 1, _, _) ⟨by dsimp only; omega, by simp [hzl]⟩ (by dsimp only; omega))) ⟨rfl, rfl, rfl, rfl, rfl, rfl, trivial⟩ (Grew.of (congrArg (· * _) (congrArg (· * _) (congrArg (· * _) as1))) (Grew.refl _))
          · obtain rfl : q = (ops.getD i default).2.2.2.length := by omega
            clear ih5
            refine Run.seq ?_
            refine Run.seq ?_
            refine Run.region ?_
            refine RunL.ok (OpOk.move rfl) rfl ?_
            refine RunL.ok (OpOk.move rfl) rfl ?_
            refine RunL.know (fun w s => (s.conv rfl).ownRd0) (fun rdq1 => ?_)
            refine RunL.ok (OpOk.lenR rfl rfl (Rd.right rdq1) rfl) rfl ?_
            refine RunL.ok (OpOk.asF (OpOk.lss rfl rfl) (by omega)) rfl ?_
            refine RunL.nil ?_
            refine Run.condF rfl ?_
            refine Run.exit rfl ?_
            refine Run.inBlock ?_
            refine Run.region ?_
            refine RunL.ok (OpOk.move rfl) rfl ?_
            refine RunL.ok (OpOk.addN _ 1 rfl rfl rfl rfl (by omega)) rfl ?_
            refine RunL.ok (OpOk.assign rfl) rfl ?_
            refine RunL.nil ?_
            refine Run.jump ((ih (i + 1, _, xs, w, rw) ⟨by dsimp only; omega, by dsimp only; omega, hB1, hB2, hB3⟩ (by dsimp only; omega))) ⟨rfl, rfl, rfl, rfl, trivial⟩ (Grew.of (Eq.trans (frc (frl rfl) (frc (frl rfl) rfl)) (congrArg (· * _) (congrArg (· * _) (asg as1)))) (Grew.refl _))
        refine Run.exit rfl ?_
        refine Run.seq ?_
        (apply Run.drawD [] (by rfl) (Eq.trans (frc (frl rfl) rfl) rfl); case hchk => kernel_rfl)
        refine Sd.quiet 0 _ _ rfl rfl rfl rfl rfl (QOp.ok (fun X => OpOk.move rfl)) ?_
        refine Sd.quiet 3 _ _ rfl rfl rfl rfl rfl (QOp.ok (fun X => OpOk.move rfl)) ?_
        refine Sd.quiet 4 _ _ rfl rfl rfl rfl rfl (QOp.ok (fun X => OpOk.nilOk rfl)) ?_
        refine Sd.quiet 5 _ _ rfl rfl rfl rfl rfl (QOp.ok (fun X => OpOk.fieldAddr fld57_0 rfl)) ?_
        refine Sd.quiet 6 _ _ rfl rfl rfl rfl rfl (QOp.ok (fun X => OpOk.load rfl rfl rfl (Blk.out Blk.pts.left.left _ _ (by first | rfl | assumption)))) ?_
        (refine Sd.exec 1 rfl rfl rfl rfl rfl ?hrest (by rfl) (fun Xy10 Ky10 hKy10 => ?_); case hrest => kernel_rfl)
        refine RunL.mem (fl2 (sep_emp _) rfl) ?_
        refine RunL.call cal26 rfl (s26 (by assumption)) rfl (fun vy11 Ay11 hy11 => ?_)
        obtain rfl := hy11
        refine RunL.know (fun w s => (s.conv rfl).ownRd0) (fun rdy12 => ?_)
        refine Sd.ret hKy10 (Eq.trans rfl (gp2 (sep_emp _).symm (asg rfl))) ⟨_, (emp_sep _).symm⟩ ?_
        refine Sd.quiet 2 _ _ rfl rfl rfl rfl rfl (QOp.ok (fun X => OpOk.strOf rfl rfl rfl rfl (Rd.right (Rd.right rdy12)).left)) ?_
        refine Sd.quiet 7 _ _ rfl rfl rfl rfl rfl (QOp.ok (fun X => OpOk.eqlSS rfl rfl)) ?_
        refine Sd.quiet 8 _ _ rfl rfl rfl rfl rfl (QOp.ok (fun X => OpOk.assign rfl)) ?_
        (apply Sd.tail; case hall => kernel_rfl)
        refine RunL.mem (fl2 (flS rfl) (sep_emp _)) ?_
        refine RunL.nil ?_
        refine Run.ret1 Try.func6 rfl rfl ?_
        rw [decide_eq_true (by first | omega | with_reducible rfl | assumption)]
        exact ⟨rfl, ⟨_, (asg (asg (asg as1)))⟩⟩
      · rcases Nat.lt_or_ge (ops.getD i default).2.2.2.length 32 with hb | hb
        · refine Run.seq ?_
          refine Run.seq ?_
          refine Run.region ?_
          refine RunL.ok (OpOk.move rfl) rfl ?_
          refine RunL.ok (OpOk.move rfl) rfl ?_
          refine RunL.ok (OpOk.lenR rfl rfl rd.left.left.left rfl) rfl ?_
          refine RunL.ok (OpOk.asT (OpOk.lss rfl rfl) (by omega)) rfl ?_
          refine RunL.ok (OpOk.move rfl) rfl ?_
          refine RunL.on rfl rfl ?_
          refine RunL.ok (OpOk.move rfl) rfl ?_
          refine RunL.on rfl rfl ?_
          refine RunL.ok (OpOk.lss rfl rfl) rfl ?_
          refine RunL.ok (OpOk.pickT rfl rfl) rfl ?_
          refine RunL.nil ?_
          refine Run.condD rfl (fun y1 => ?_) (fun y1 => ?_)
          · refine Run.skip ?_
            refine Run.seq ?_
            refine Run.block ?_
            refine Run.seq ?_
            refine Run.region ?_
            refine RunL.ok (OpOk.move rfl) rfl ?_
            refine RunL.ok (OpOk.move rfl) rfl ?_
            refine RunL.ok (OpOk.idxN rfl ti54 rfl rd.left.left.left rfl (by omega)) rfl ?_
            refine RunL.ok (OpOk.loadFl default rfl rfl ti54 rfl rd.left.left.left (fun _ => rfl) rfl (by omega)) rfl ?_
            refine RunL.alloc ti54 rfl (fun by2 => ?_)
            refine RunL.storeAll ti54 rfl rfl rfl (by assumption) rfl rfl ?_
            refine RunL.nil ?_
            refine Run.seq ?_
            refine Run.region ?_
            refine RunL.lit0B rfl ti5 rfl (fun vy3 rdy3 => ?_)
            refine RunL.ok (OpOk.fieldAddr fld54_2 rfl) rfl ?_
            refine RunL.ok (OpOk.load rfl rfl rfl (Blk.out Blk.pts.left _ _ (by first | rfl | assumption))) rfl ?_
            refine RunL.appendB0 rfl ti5 rfl rfl rfl rfl rd3.left.left.left.left.left (by omega) rfl (fun vy4 rdy4 => ?_)
            refine RunL.ok (OpOk.assign rfl) rfl ?_
            refine RunL.nil ?_
            refine Run.seq ?_
            refine Run.region ?_
            refine RunL.ok (OpOk.assign rfl) rfl ?_
            refine RunL.nil ?_
            refine Run.seq ?_
            refine Run.seq ?_
            refine Run.region ?_
            refine RunL.ok (OpOk.fieldAddr fld54_0 rfl) rfl ?_
            refine RunL.ok (OpOk.load rfl rfl rfl (Blk.out Blk.pts.left _ _ (by first | rfl | assumption))) rfl ?_
            refine RunL.nil ?_
            refine Run.block ?_
            refine Run.seq ?_
            refine Run.region ?_
            refine RunL.ok (OpOk.asT (OpOk.eql rfl rfl) (by omega)) rfl ?_
            refine RunL.ok (OpOk.assign rfl) rfl ?_
            refine RunL.nil ?_
            refine Run.condT rfl ?_
            refine Run.know (fun w s => (s.conv rfl).ownRd0) (fun rdy5 => ?_)
            refine Run.drop [8] ?_
            (apply Run.drawD [] (by rfl) (Eq.trans (frc (frl (frl rfl)) (frc (frl (frl rfl)) rfl)) (asg rfl)); case hchk => kernel_rfl)
            refine Sd.quiet 0 _ _ rfl rfl rfl rfl rfl (QOp.ok (fun X => OpOk.move rfl)) ?_
            refine Sd.quiet 1 _ _ rfl rfl rfl rfl rfl (QOp.ok (fun X => OpOk.fieldAddr fld54_1 rfl)) ?_
            refine Sd.quiet 2 _ _ rfl rfl rfl rfl rfl (QOp.ok (fun X => OpOk.load rfl rfl rfl (Blk.out Blk.pts.left.left.left _ _ (by first | rfl | assumption)))) ?_
            refine Sd.quiet 3 _ _ rfl rfl rfl rfl rfl (QOp.ok (fun X => OpOk.move rfl)) ?_
            refine Sd.quiet 5 _ _ rfl rfl rfl rfl rfl (QOp.ok (fun X => OpOk.move rfl)) ?_
            refine Sd.quiet 6 _ _ rfl rfl rfl rfl rfl (QOp.ok (fun X => OpOk.fieldAddr fld54_1 rfl)) ?_
            refine Sd.quiet 7 _ _ rfl rfl rfl rfl rfl (QOp.ok (fun X => OpOk.load rfl rfl rfl (Blk.out Blk.pts.left.left.left _ _ (by first | rfl | assumption)))) ?_
            refine Sd.quiet 8 _ _ rfl rfl rfl rfl rfl (QOp.ok (fun X => OpOk.fieldAddr fld54_2 rfl)) ?_
            refine Sd.quiet 9 _ _ rfl rfl rfl rfl rfl (QOp.ok (fun X => OpOk.load rfl rfl rfl (Blk.out Blk.pts.left.left.left _ _ (by first | rfl | assumption)))) ?_
            (refine Sd.exec 4 rfl rfl rfl rfl rfl ?hrest (by rfl) (fun Xy6 Ky6 hKy6 => ?_); case hrest => kernel_rfl)
            refine RunL.mem (fl2 (sep_emp _) (flS rfl)) ?_
            refine RunL.mem (frc (frl rfl) rfl) ?_
            refine RunL.call cal20 rfl (s20b (Rd.right rdy5).left.left (by omega) (by omega) (by assumption)) rfl (fun vy8 Ay8 hy8 => ?_)
            obtain ⟨rfl, rfl⟩ := hy8
            refine Sd.ret hKy6 (Eq.trans (frc (frl rfl) rfl) (gp2 rfl rfl)) ⟨_, (emp_sep _).symm⟩ ?_
            (refine Sd.exec 10 rfl rfl rfl rfl rfl ?hrest (by rfl) (fun Xy9 Ky9 hKy9 => ?_); case hrest => kernel_rfl)
            refine RunL.mem (fl2 rfl rfl) ?_
            refine RunL.call cal24 rfl (s24b rd3.left.left.left.left.left (by omega) (by omega) (by assumption)) rfl (fun vy11 Ay11 hy11 => ?_)
            obtain ⟨rfl, rfl⟩ := hy11
            refine Sd.ret hKy9 (Eq.trans rfl (gp2 (sep_emp _).symm (asg rfl))) ⟨_, rfl⟩ ?_
            refine Sd.quiet 11 _ _ rfl rfl rfl rfl rfl (QOp.ok (fun X => OpOk.asT (OpOk.eql rfl rfl) (by omega))) ?_
            refine Sd.quiet 12 _ _ rfl rfl rfl rfl rfl (QOp.ok (fun X => OpOk.assign rfl)) ?_
            (apply Sd.tail; case hall => kernel_rfl)
            refine RunL.mem (fl2 (flS rfl) (sep_emp _)) ?_
            refine RunL.nil ?_
            refine Run.inBlock ?_
            refine Run.seq ?_
            refine Run.seq ?_
            refine Run.region ?_
            refine RunL.ok (OpOk.move rfl) rfl ?_
            refine RunL.ok (OpOk.not rfl) rfl ?_
            refine RunL.ok (OpOk.move rfl) rfl ?_
            refine RunL.on rfl rfl ?_
            refine RunL.ok (OpOk.move rfl) rfl ?_
            refine RunL.on rfl rfl ?_
            refine RunL.ok (OpOk.strOf rfl rfl rfl rfl (Rd.right rdy5).left.left) rfl ?_
            refine RunL.on rfl rfl ?_
            refine RunL.ok (OpOk.fieldAddr fld54_2 rfl) rfl ?_
            refine RunL.on rfl rfl ?_
            refine RunL.ok (OpOk.load rfl rfl rfl (Blk.out Blk.pts.left.left.left _ _ (by first | rfl | assumption))) rfl ?_
            refine RunL.on rfl rfl ?_
            refine RunL.ok (OpOk.strOf rfl rfl rfl rfl rd3.left.left.left.left.left) rfl ?_
            refine RunL.on rfl rfl ?_
            refine RunL.ok (OpOk.neqSS rfl rfl) rfl ?_
            refine RunL.ok (OpOk.pickF rfl rfl) rfl ?_
            refine RunL.nil ?_
            refine Run.condNF rfl (by first | omega | with_reducible rfl | assumption) ?_
            refine Run.skip ?_
            refine Run.seq ?_
            refine Run.region ?_
            refine RunL.ok (OpOk.assign rfl) rfl ?_
            refine RunL.nil ?_
            refine Run.block ?_
            refine Run.jump ((Run.loopJ (X := Nat × Asn × List UInt8) (fun x => [(16, .int .i64 (x.1 : Int)), (7, vy4), (5, .int .i64 (i : Int)), (4, .pointer (some ⟨x6, 0, none⟩)), (3, .pointer (some ⟨x4, 0, none⟩)), (0, u)]) (fun x => old w0 * x.2.1 * pts x4 (.cells (B (xs) ++ [Value.int .i64 (w)]).toArray 95 (0, 0)) * pts x6 (.cells #[S (xs), .int .i64 (rw)] 57 (0, 0)) * own 5 1 vy4 (ops.getD i default).2.2.2.length (B x.2.2)) (fun x => x.1 ≤ (ops.getD i default).2.2.2.length ∧ x.2.2.length = (ops.getD i default).2.2.2.length) (fun x => (ops.getD i default).2.2.2.length - x.1) (0, _, (ops.getD i default).2.2.2) ⟨Nat.zero_le _, rfl⟩ (fun x hx ih5 => ?_))) ⟨rfl, rfl, rfl, rfl, rfl, rfl, trivial⟩ (Grew.of (Eq.trans (frc (frl (frl rfl)) rfl) (congrArg (· * _) (congrArg (· * _) (congrArg (· * _) (asg as1))))) (Grew.refl _))
            obtain ⟨q, J5, zs⟩ := x
            simp only at hx ih5 ⊢
            obtain ⟨hq, hzl⟩ := hx
            rcases Nat.lt_or_ge q (ops.getD i default).2.2.2.length with hq1 | hq1
            · refine Run.seq ?_
              refine Run.seq ?_
              refine Run.region ?_
              refine RunL.ok (OpOk.move rfl) rfl ?_
              refine RunL.ok (OpOk.move rfl) rfl ?_
              refine RunL.know (fun w s => (s.conv rfl).ownRd0) (fun rdq1 => ?_)
              refine RunL.ok (OpOk.lenR rfl rfl (Rd.right rdq1) rfl) rfl ?_
              refine RunL.ok (OpOk.asT (OpOk.lss rfl rfl) (by omega)) rfl ?_
              refine RunL.nil ?_
              refine Run.condT rfl ?_
              refine Run.skip ?_
              refine Run.seq ?_
              refine Run.block ?_
              refine Run.region ?_
              refine RunL.ok (OpOk.move rfl) rfl ?_
              refine RunL.ok (OpOk.move rfl) rfl ?_
              refine RunL.ok (OpOk.move rfl) rfl ?_
              refine RunL.ok (OpOk.move rfl) rfl ?_
              refine RunL.ok (OpOk.idx1N rfl ti5 rfl (Rd.right rdq1) rfl (by omega)) rfl ?_
              refine RunL.ok (OpOk.load rfl rfl rfl (Rd.getB (Rd.right rdq1) (by omega))) rfl ?_
              refine RunL.ok (OpOk.xor rfl rfl (x255 _)) rfl ?_
              refine RunL.ok (OpOk.idx1N rfl ti5 rfl (Rd.right rdq1) rfl (by omega)) rfl ?_
              refine RunL.storeB _ ti5 rfl rfl rfl rfl (by omega) ?_
              refine RunL.nil ?_
              refine Run.inBlock ?_
              refine Run.region ?_
              refine RunL.ok (OpOk.move rfl) rfl ?_
              refine RunL.ok (OpOk.addN _ 1 rfl rfl rfl rfl (by omega)) rfl ?_
              refine RunL.ok (OpOk.assign rfl) rfl ?_
              refine RunL.nil ?_
              refine Run.jump ((ih5 (q + 1, _, _) ⟨by dsimp only; omega, by simp [hzl]⟩ (by dsimp only; omega))) ⟨rfl, rfl, rfl, rfl, rfl, rfl, trivial⟩ (Grew.of (congrArg (· * _) (congrArg (· * _) (congrArg (· * _) as1))) (Grew.refl _))
            · obtain rfl : q = (ops.getD i default).2.2.2.length := by omega
              clear ih5
              refine Run.seq ?_
              refine Run.seq ?_
              refine Run.region ?_
              refine RunL.ok (OpOk.move rfl) rfl ?_
              refine RunL.ok (OpOk.move rfl) rfl ?_
              refine RunL.know (fun w s => (s.conv rfl).ownRd0) (fun rdq1 => ?_)
              refine RunL.ok (OpOk.lenR rfl rfl (Rd.right rdq1) rfl) rfl ?_
              refine RunL.ok (OpOk.asF (OpOk.lss rfl rfl) (by omega)) rfl ?_
              refine RunL.nil ?_
              refine Run.condF rfl ?_
              refine Run.exit rfl ?_
              refine Run.inBlock ?_
              refine Run.region ?_
              refine RunL.ok (OpOk.move rfl) rfl ?_
              refine RunL.ok (OpOk.addN _ 1 rfl rfl rfl rfl (by omega)) rfl ?_
              refine RunL.ok (OpOk.assign rfl) rfl ?_
              refine RunL.nil ?_
              refine Run.jump ((ih (i + 1, _, xs, w, rw) ⟨by dsimp only; omega, by dsimp only; omega, hB1, hB2, hB3⟩ (by dsimp only; omega))) ⟨rfl, rfl, rfl, rfl, trivial⟩ (Grew.of (Eq.trans (frc (frl rfl) (frc (frl rfl) rfl)) (congrArg (· * _) (congrArg (· * _) (asg as1)))) (Grew.refl _))
          refine Run.exit rfl ?_
          refine Run.seq ?_
          (apply Run.drawD [] (by rfl) (Eq.trans (frc (frl rfl) rfl) rfl); case hchk => kernel_rfl)
          refine Sd.quiet 0 _ _ rfl rfl rfl rfl rfl (QOp.ok (fun X => OpOk.move rfl)) ?_
          refine Sd.quiet 3 _ _ rfl rfl rfl rfl rfl (QOp.ok (fun X => OpOk.move rfl)) ?_
          refine Sd.quiet 4 _ _ rfl rfl rfl rfl rfl (QOp.ok (fun X => OpOk.nilOk rfl)) ?_
          refine Sd.quiet 5 _ _ rfl rfl rfl rfl rfl (QOp.ok (fun X => OpOk.fieldAddr fld57_0 rfl)) ?_
          refine Sd.quiet 6 _ _ rfl rfl rfl rfl rfl (QOp.ok (fun X => OpOk.load rfl rfl rfl (Blk.out Blk.pts.left.left _ _ (by first | rfl | assumption)))) ?_
          (refine Sd.exec 1 rfl rfl rfl rfl rfl ?hrest (by rfl) (fun Xy12 Ky12 hKy12 => ?_); case hrest => kernel_rfl)
          refine RunL.mem (fl2 (sep_emp _) rfl) ?_
          refine RunL.call cal26 rfl (s26 (by assumption)) rfl (fun vy13 Ay13 hy13 => ?_)
          obtain rfl := hy13
          refine RunL.know (fun w s => (s.conv rfl).ownRd0) (fun rdy14 => ?_)
          refine Sd.ret hKy12 (Eq.trans rfl (gp2 (sep_emp _).symm (asg rfl))) ⟨_, (emp_sep _).symm⟩ ?_
          refine Sd.quiet 2 _ _ rfl rfl rfl rfl rfl (QOp.ok (fun X => OpOk.strOf rfl rfl rfl rfl (Rd.right (Rd.right rdy14)).left)) ?_
          refine Sd.quiet 7 _ _ rfl rfl rfl rfl rfl (QOp.ok (fun X => OpOk.eqlSS rfl rfl)) ?_
          refine Sd.quiet 8 _ _ rfl rfl rfl rfl rfl (QOp.ok (fun X => OpOk.assign rfl)) ?_
          (apply Sd.tail; case hall => kernel_rfl)
          refine RunL.mem (fl2 (flS rfl) (sep_emp _)) ?_
          refine RunL.nil ?_
          refine Run.ret1 Try.func6 rfl rfl ?_
          rw [decide_eq_true (by first | omega | with_reducible rfl | assumption)]
          exact ⟨rfl, ⟨_, (asg (asg (asg as1)))⟩⟩
        · rcases Nat.lt_or_ge 32 (ops.getD i default).2.2.2.length with hb2 | hb2
          · refine Run.seq ?_
            refine Run.seq ?_
            refine Run.region ?_
            refine RunL.ok (OpOk.move rfl) rfl ?_
            refine RunL.ok (OpOk.move rfl) rfl ?_
            refine RunL.ok (OpOk.lenR rfl rfl rd.left.left.left rfl) rfl ?_
            refine RunL.ok (OpOk.asT (OpOk.lss rfl rfl) (by omega)) rfl ?_
            refine RunL.ok (OpOk.move rfl) rfl ?_
            refine RunL.on rfl rfl ?_
            refine RunL.ok (OpOk.move rfl) rfl ?_
            refine RunL.on rfl rfl ?_
            refine RunL.ok (OpOk.lss rfl rfl) rfl ?_
            refine RunL.ok (OpOk.pickT rfl rfl) rfl ?_
            refine RunL.nil ?_
            refine Run.condD rfl (fun y1 => ?_) (fun y1 => ?_)
            · refine Run.skip ?_
              refine Run.seq ?_
              refine Run.block ?_
              refine Run.seq ?_
              refine Run.region ?_
              refine RunL.ok (OpOk.move rfl) rfl ?_
              refine RunL.ok (OpOk.move rfl) rfl ?_
              refine RunL.ok (OpOk.idxN rfl ti54 rfl rd.left.left.left rfl (by omega)) rfl ?_
              refine RunL.ok (OpOk.loadFl default rfl rfl ti54 rfl rd.left.left.left (fun _ => rfl) rfl (by omega)) rfl ?_
              refine RunL.alloc ti54 rfl (fun by2 => ?_)
              refine RunL.storeAll ti54 rfl rfl rfl (by assumption) rfl rfl ?_
              refine RunL.nil ?_
              refine Run.seq ?_
              refine Run.region ?_
              refine RunL.lit0B rfl ti5 rfl (fun vy3 rdy3 => ?_)
              refine RunL.ok (OpOk.fieldAddr fld54_2 rfl) rfl ?_
              refine RunL.ok (OpOk.load rfl rfl rfl (Blk.out Blk.pts.left _ _ (by first | rfl | assumption))) rfl ?_
              refine RunL.appendB0 rfl ti5 rfl rfl rfl rfl rd3.left.left.left.left.left (by omega) rfl (fun vy4 rdy4 => ?_)
              refine RunL.ok (OpOk.assign rfl) rfl ?_
              refine RunL.nil ?_
              refine Run.seq ?_
              refine Run.region ?_
              refine RunL.ok (OpOk.assign rfl) rfl ?_
              refine RunL.nil ?_
              refine Run.seq ?_
              refine Run.seq ?_
              refine Run.region ?_
              refine RunL.ok (OpOk.fieldAddr fld54_0 rfl) rfl ?_
              refine RunL.ok (OpOk.load rfl rfl rfl (Blk.out Blk.pts.left _ _ (by first | rfl | assumption))) rfl ?_
              refine RunL.nil ?_
              refine Run.block ?_
              refine Run.seq ?_
              refine Run.region ?_
              refine RunL.ok (OpOk.asT (OpOk.eql rfl rfl) (by omega)) rfl ?_
              refine RunL.ok (OpOk.assign rfl) rfl ?_
              refine RunL.nil ?_
              refine Run.condT rfl ?_
              refine Run.know (fun w s => (s.conv rfl).ownRd0) (fun rdy5 => ?_)
              refine Run.drop [8] ?_
              (apply Run.drawD [] (by rfl) (Eq.trans (frc (frl (frl rfl)) (frc (frl (frl rfl)) rfl)) (asg rfl)); case hchk => kernel_rfl)
              refine Sd.quiet 0 _ _ rfl rfl rfl rfl rfl (QOp.ok (fun X => OpOk.move rfl)) ?_
              refine Sd.quiet 1 _ _ rfl rfl rfl rfl rfl (QOp.ok (fun X => OpOk.fieldAddr fld54_1 rfl)) ?_
              refine Sd.quiet 2 _ _ rfl rfl rfl rfl rfl (QOp.ok (fun X => OpOk.load rfl rfl rfl (Blk.out Blk.pts.left.left.left _ _ (by first | rfl | assumption)))) ?_
              refine Sd.quiet 3 _ _ rfl rfl rfl rfl rfl (QOp.ok (fun X => OpOk.move rfl)) ?_
              refine Sd.quiet 5 _ _ rfl rfl rfl rfl rfl (QOp.ok (fun X => OpOk.move rfl)) ?_
              refine Sd.quiet 6 _ _ rfl rfl rfl rfl rfl (QOp.ok (fun X => OpOk.fieldAddr fld54_1 rfl)) ?_
              refine Sd.quiet 7 _ _ rfl rfl rfl rfl rfl (QOp.ok (fun X => OpOk.load rfl rfl rfl (Blk.out Blk.pts.left.left.left _ _ (by first | rfl | assumption)))) ?_
              refine Sd.quiet 8 _ _ rfl rfl rfl rfl rfl (QOp.ok (fun X => OpOk.fieldAddr fld54_2 rfl)) ?_
              refine Sd.quiet 9 _ _ rfl rfl rfl rfl rfl (QOp.ok (fun X => OpOk.load rfl rfl rfl (Blk.out Blk.pts.left.left.left _ _ (by first | rfl | assumption)))) ?_
              (refine Sd.exec 4 rfl rfl rfl rfl rfl ?hrest (by rfl) (fun Xy6 Ky6 hKy6 => ?_); case hrest => kernel_rfl)
              refine RunL.mem (fl2 (sep_emp _) (flS rfl)) ?_
              refine RunL.mem (frc (frl rfl) rfl) ?_
              refine RunL.call cal20 rfl (s20c (Rd.right rdy5).left.left (by omega) (by omega) (by assumption)) rfl (fun vy9 Ay9 hy9 => ?_)
              obtain ⟨rfl, rfl⟩ := hy9
              refine Sd.ret hKy6 (Eq.trans (frc (frl rfl) rfl) (gp2 rfl rfl)) ⟨_, (emp_sep _).symm⟩ ?_
              (refine Sd.exec 10 rfl rfl rfl rfl rfl ?hrest (by rfl) (fun Xy10 Ky10 hKy10 => ?_); case hrest => kernel_rfl)
              refine RunL.mem (fl2 rfl rfl) ?_
              refine RunL.call cal24 rfl (s24c rd3.left.left.left.left.left (by omega) (by omega) (by assumption)) rfl (fun vy13 Ay13 hy13 => ?_)
              obtain ⟨rfl, rfl⟩ := hy13
              refine Sd.ret hKy10 (Eq.trans rfl (gp2 (sep_emp _).symm (asg rfl))) ⟨_, rfl⟩ ?_
              refine Sd.quiet 11 _ _ rfl rfl rfl rfl rfl (QOp.ok (fun X => OpOk.asT (OpOk.eql rfl rfl) (by omega))) ?_
              refine Sd.quiet 12 _ _ rfl rfl rfl rfl rfl (QOp.ok (fun X => OpOk.assign rfl)) ?_
              (apply Sd.tail; case hall => kernel_rfl)
              refine RunL.mem (fl2 (flS rfl) (sep_emp _)) ?_
              refine RunL.nil ?_
              refine Run.inBlock ?_
              refine Run.seq ?_
              refine Run.seq ?_
              refine Run.region ?_
              refine RunL.ok (OpOk.move rfl) rfl ?_
              refine RunL.ok (OpOk.not rfl) rfl ?_
              refine RunL.ok (OpOk.move rfl) rfl ?_
              refine RunL.on rfl rfl ?_
              refine RunL.ok (OpOk.move rfl) rfl ?_
              refine RunL.on rfl rfl ?_
              refine RunL.ok (OpOk.strOf rfl rfl rfl rfl (Rd.right rdy5).left.left) rfl ?_
              refine RunL.on rfl rfl ?_
              refine RunL.ok (OpOk.fieldAddr fld54_2 rfl) rfl ?_
              refine RunL.on rfl rfl ?_
              refine RunL.ok (OpOk.load rfl rfl rfl (Blk.out Blk.pts.left.left.left _ _ (by first | rfl | assumption))) rfl ?_
              refine RunL.on rfl rfl ?_
              refine RunL.ok (OpOk.strOf rfl rfl rfl rfl rd3.left.left.left.left.left) rfl ?_
              refine RunL.on rfl rfl ?_
              refine RunL.ok (OpOk.neqSS rfl rfl) rfl ?_
              refine RunL.ok (OpOk.pickF rfl rfl) rfl ?_
              refine RunL.nil ?_
              refine Run.condNF rfl (by first | omega | with_reducible rfl | assumption) ?_
              refine Run.skip ?_
              refine Run.seq ?_
              refine Run.region ?_
              refine RunL.ok (OpOk.assign rfl) rfl ?_
              refine RunL.nil ?_
              refine Run.block ?_
              refine Run.jump ((Run.loopJ (X := Nat × Asn × List UInt8) (fun x => [(16, .int .i64 (x.1 : Int)), (7, vy4), (5, .int .i64 (i : Int)), (4, .pointer (some ⟨x6, 0, none⟩)), (3, .pointer (some ⟨x4, 0, none⟩)), (0, u)]) (fun x => old w0 * x.2.1 * pts x4 (.cells (B (xs) ++ [Value.int .i64 (w)]).toArray 95 (0, 0)) * pts x6 (.cells #[S (xs), .int .i64 (rw)] 57 (0, 0)) * own 5 1 vy4 (ops.getD i default).2.2.2.length (B x.2.2)) (fun x => x.1 ≤ (ops.getD i default).2.2.2.length ∧ x.2.2.length = (ops.getD i default).2.2.2.length) (fun x => (ops.getD i default).2.2.2.length - x.1) (0, _, (ops.getD i default).2.2.2) ⟨Nat.zero_le _, rfl⟩ (fun x hx ih5 => ?_))) ⟨rfl, rfl, rfl, rfl, rfl, rfl, trivial⟩ (Grew.of (Eq.trans (frc (frl (frl rfl)) rfl) (congrArg (· * _) (congrArg (· * _) (congrArg (· * _) (asg as1))))) (Grew.refl _))
              obtain ⟨q, J5, zs⟩ := x
              simp only at hx ih5 ⊢
              obtain ⟨hq, hzl⟩ := hx
              rcases Nat.lt_or_ge q (ops.getD i default).2.2.2.length with hq1 | hq1
              · refine Run.seq ?_
                refine Run.seq ?_
                refine Run.region ?_
                refine RunL.ok (OpOk.move rfl) rfl ?_
                refine RunL.ok (OpOk.move rfl) rfl ?_
                refine RunL.know (fun w s => (s.conv rfl).ownRd0) (fun rdq1 => ?_)
                refine RunL.ok (OpOk.lenR rfl rfl (Rd.right rdq1) rfl) rfl ?_
                refine RunL.ok (OpOk.asT (OpOk.lss rfl rfl) (by omega)) rfl ?_
                refine RunL.nil ?_
                refine Run.condT rfl ?_
                refine Run.skip ?_
                refine Run.seq ?_
                refine Run.block ?_
                refine Run.region ?_
                refine RunL.ok (OpOk.move rfl) rfl ?_
                refine RunL.ok (OpOk.move rfl) rfl ?_
                refine RunL.ok (OpOk.move rfl) rfl ?_
                refine RunL.ok (OpOk.move rfl) rfl ?_
                refine RunL.ok (OpOk.idx1N rfl ti5 rfl (Rd.right rdq1) rfl (by omega)) rfl ?_
                refine RunL.ok (OpOk.load rfl rfl rfl (Rd.getB (Rd.right rdq1) (by omega))) rfl ?_
                refine RunL.ok (OpOk.xor rfl rfl (x255 _)) rfl ?_
                refine RunL.ok (OpOk.idx1N rfl ti5 rfl (Rd.right rdq1) rfl (by omega)) rfl ?_
                refine RunL.storeB _ ti5 rfl rfl rfl rfl (by omega) ?_
                refine RunL.nil ?_
                refine Run.inBlock ?_
                refine Run.region ?_
                refine RunL.ok (OpOk.move rfl) rfl ?_
                refine RunL.ok (OpOk.addN _ 1 rfl rfl rfl rfl (by omega)) rfl ?_
                refine RunL.ok (OpOk.assign rfl) rfl ?_
                refine RunL.nil ?_
                refine Run.jump ((ih5 (q + 1, _, _) ⟨by dsimp only; omega, by simp [hzl]⟩ (by dsimp only; omega))) ⟨rfl, rfl, rfl, rfl, rfl, rfl, trivial⟩ (Grew.of (congrArg (· * _) (congrArg (· * _) (congrArg (· * _) as1))) (Grew.refl _))
              · obtain rfl : q = (ops.getD i default).2.2.2.length := by omega
                clear ih5
                refine Run.seq ?_
                refine Run.seq ?_
                refine Run.region ?_
                refine RunL.ok (OpOk.move rfl) rfl ?_
                refine RunL.ok (OpOk.move rfl) rfl ?_
                refine RunL.know (fun w s => (s.conv rfl).ownRd0) (fun rdq1 => ?_)
                refine RunL.ok (OpOk.lenR rfl rfl (Rd.right rdq1) rfl) rfl ?_
                refine RunL.ok (OpOk.asF (OpOk.lss rfl rfl) (by omega)) rfl ?_
                refine RunL.nil ?_
                refine Run.condF rfl ?_
                refine Run.exit rfl ?_
                refine Run.inBlock ?_
                refine Run.region ?_
                refine RunL.ok (OpOk.move rfl) rfl ?_
                refine RunL.ok (OpOk.addN _ 1 rfl rfl rfl rfl (by omega)) rfl ?_
                refine RunL.ok (OpOk.assign rfl) rfl ?_
                refine RunL.nil ?_
                refine Run.jump ((ih (i + 1, _, xs, w, rw) ⟨by dsimp only; omega, by dsimp only; omega, hB1, hB2, hB3⟩ (by dsimp only; omega))) ⟨rfl, rfl, rfl, rfl, trivial⟩ (Grew.of (Eq.trans (frc (frl rfl) (frc (frl rfl) rfl)) (congrArg (· * _) (congrArg (· * _) (asg as1)))) (Grew.refl _))
            refine Run.exit rfl ?_
            refine Run.seq ?_
            (apply Run.drawD [] (by rfl) (Eq.trans (frc (frl rfl) rfl) rfl); case hchk => kernel_rfl)
            refine Sd.quiet 0 _ _ rfl rfl rfl rfl rfl (QOp.ok (fun X => OpOk.move rfl)) ?_
            refine Sd.quiet 3 _ _ rfl rfl rfl rfl rfl (QOp.ok (fun X => OpOk.move rfl)) ?_
            refine Sd.quiet 4 _ _ rfl rfl rfl rfl rfl (QOp.ok (fun X => OpOk.nilOk rfl)) ?_
            refine Sd.quiet 5 _ _ rfl rfl rfl rfl rfl (QOp.ok (fun X => OpOk.fieldAddr fld57_0 rfl)) ?_
            refine Sd.quiet 6 _ _ rfl rfl rfl rfl rfl (QOp.ok (fun X => OpOk.load rfl rfl rfl (Blk.out Blk.pts.left.left _ _ (by first | rfl | assumption)))) ?_
            (refine Sd.exec 1 rfl rfl rfl rfl rfl ?hrest (by rfl) (fun Xy14 Ky14 hKy14 => ?_); case hrest => kernel_rfl)
            refine RunL.mem (fl2 (sep_emp _) rfl) ?_
            refine RunL.call cal26 rfl (s26 (by assumption)) rfl (fun vy15 Ay15 hy15 => ?_)
            obtain rfl := hy15
            refine RunL.know (fun w s => (s.conv rfl).ownRd0) (fun rdy16 => ?_)
            refine Sd.ret hKy14 (Eq.trans rfl (gp2 (sep_emp _).symm (asg rfl))) ⟨_, (emp_sep _).symm⟩ ?_
            refine Sd.quiet 2 _ _ rfl rfl rfl rfl rfl (QOp.ok (fun X => OpOk.strOf rfl rfl rfl rfl (Rd.right (Rd.right rdy16)).left)) ?_
            refine Sd.quiet 7 _ _ rfl rfl rfl rfl rfl (QOp.ok (fun X => OpOk.eqlSS rfl rfl)) ?_
            refine Sd.quiet 8 _ _ rfl rfl rfl rfl rfl (QOp.ok (fun X => OpOk.assign rfl)) ?_
            (apply Sd.tail; case hall => kernel_rfl)
            refine RunL.mem (fl2 (flS rfl) (sep_emp _)) ?_
            refine RunL.nil ?_
            refine Run.ret1 Try.func6 rfl rfl ?_
            rw [decide_eq_true (by first | omega | with_reducible rfl | assumption)]
            exact ⟨rfl, ⟨_, (asg (asg (asg as1)))⟩⟩
          · have hsl := setSec_length (xs := xs) (ys := (ops.getD i default).2.2.2) (i := (ops.getD i default).2.1.toNat) hB1 (by omega) (by omega)
            rcases Int.lt_or_le rw 0 with hr | hr
            · refine Run.seq ?_
              refine Run.seq ?_
              refine Run.region ?_
              refine RunL.ok (OpOk.move rfl) rfl ?_
              refine RunL.ok (OpOk.move rfl) rfl ?_
              refine RunL.ok (OpOk.lenR rfl rfl rd.left.left.left rfl) rfl ?_
              refine RunL.ok (OpOk.asT (OpOk.lss rfl rfl) (by omega)) rfl ?_
              refine RunL.ok (OpOk.move rfl) rfl ?_
              refine RunL.on rfl rfl ?_
              refine RunL.ok (OpOk.move rfl) rfl ?_
              refine RunL.on rfl rfl ?_
              refine RunL.ok (OpOk.lss rfl rfl) rfl ?_
              refine RunL.ok (OpOk.pickT rfl rfl) rfl ?_
              refine RunL.nil ?_
              refine Run.condD rfl (fun y1 => ?_) (fun y1 => ?_)
              · refine Run.skip ?_
                refine Run.seq ?_
                refine Run.block ?_
                refine Run.seq ?_
                refine Run.region ?_
                refine RunL.ok (OpOk.move rfl) rfl ?_
                refine RunL.ok (OpOk.move rfl) rfl ?_
                refine RunL.ok (OpOk.idxN rfl ti54 rfl rd.left.left.left rfl (by omega)) rfl ?_
                refine RunL.ok (OpOk.loadFl default rfl rfl ti54 rfl rd.left.left.left (fun _ => rfl) rfl (by omega)) rfl ?_
                refine RunL.alloc ti54 rfl (fun by2 => ?_)
                refine RunL.storeAll ti54 rfl rfl rfl (by assumption) rfl rfl ?_
                refine RunL.nil ?_
                refine Run.seq ?_
                refine Run.region ?_
                refine RunL.lit0B rfl ti5 rfl (fun vy3 rdy3 => ?_)
                refine RunL.ok (OpOk.fieldAddr fld54_2 rfl) rfl ?_
                refine RunL.ok (OpOk.load rfl rfl rfl (Blk.out Blk.pts.left _ _ (by first | rfl | assumption))) rfl ?_
                refine RunL.appendB0 rfl ti5 rfl rfl rfl rfl rd3.left.left.left.left.left (by omega) rfl (fun vy4 rdy4 => ?_)
                refine RunL.ok (OpOk.assign rfl) rfl ?_
                refine RunL.nil ?_
                refine Run.seq ?_
                refine Run.region ?_
                refine RunL.ok (OpOk.assign rfl) rfl ?_
                refine RunL.nil ?_
                refine Run.seq ?_
                refine Run.seq ?_
                refine Run.region ?_
                refine RunL.ok (OpOk.fieldAddr fld54_0 rfl) rfl ?_
                refine RunL.ok (OpOk.load rfl rfl rfl (Blk.out Blk.pts.left _ _ (by first | rfl | assumption))) rfl ?_
                refine RunL.nil ?_
                refine Run.block ?_
                refine Run.seq ?_
                refine Run.region ?_
                refine RunL.ok (OpOk.asT (OpOk.eql rfl rfl) (by omega)) rfl ?_
                refine RunL.ok (OpOk.assign rfl) rfl ?_
                refine RunL.nil ?_
                refine Run.condT rfl ?_
                refine Run.know (fun w s => (s.conv rfl).ownRd0) (fun rdy5 => ?_)
                refine Run.drop [8] ?_
                (apply Run.drawD [] (by rfl) (Eq.trans (frc (frl (frl rfl)) (frc (frl (frl rfl)) rfl)) (asg rfl)); case hchk => kernel_rfl)
                refine Sd.quiet 0 _ _ rfl rfl rfl rfl rfl (QOp.ok (fun X => OpOk.move rfl)) ?_
                refine Sd.quiet 1 _ _ rfl rfl rfl rfl rfl (QOp.ok (fun X => OpOk.fieldAddr fld54_1 rfl)) ?_
                refine Sd.quiet 2 _ _ rfl rfl rfl rfl rfl (QOp.ok (fun X => OpOk.load rfl rfl rfl (Blk.out Blk.pts.left.left.left _ _ (by first | rfl | assumption)))) ?_
                refine Sd.quiet 3 _ _ rfl rfl rfl rfl rfl (QOp.ok (fun X => OpOk.move rfl)) ?_
                refine Sd.quiet 5 _ _ rfl rfl rfl rfl rfl (QOp.ok (fun X => OpOk.move rfl)) ?_
                refine Sd.quiet 6 _ _ rfl rfl rfl rfl rfl (QOp.ok (fun X => OpOk.fieldAddr fld54_1 rfl)) ?_
                refine Sd.quiet 7 _ _ rfl rfl rfl rfl rfl (QOp.ok (fun X => OpOk.load rfl rfl rfl (Blk.out Blk.pts.left.left.left _ _ (by first | rfl | assumption)))) ?_
                refine Sd.quiet 8 _ _ rfl rfl rfl rfl rfl (QOp.ok (fun X => OpOk.fieldAddr fld54_2 rfl)) ?_
                refine Sd.quiet 9 _ _ rfl rfl rfl rfl rfl (QOp.ok (fun X => OpOk.load rfl rfl rfl (Blk.out Blk.pts.left.left.left _ _ (by first | rfl | assumption)))) ?_
                (refine Sd.exec 4 rfl rfl rfl rfl rfl ?hrest (by rfl) (fun Xy6 Ky6 hKy6 => ?_); case hrest => kernel_rfl)
                refine RunL.mem (fl2 (sep_emp _) (flS rfl)) ?_
                refine RunL.mem (frc (frl rfl) rfl) ?_
                refine RunL.call cal20 rfl (s20e (Rd.right rdy5).left.left (by omega) (by omega) (by omega) (by assumption) (by omega)) rfl (fun vy11 Ay11 hy11 => ?_)
                obtain ⟨rfl, rfl⟩ := hy11
                refine Sd.ret hKy6 (Eq.trans (frc (frl rfl) rfl) (gp2 rfl rfl)) ⟨_, (emp_sep _).symm⟩ ?_
                (refine Sd.exec 10 rfl rfl rfl rfl rfl ?hrest (by rfl) (fun Xy12 Ky12 hKy12 => ?_); case hrest => kernel_rfl)
                refine RunL.mem (fl2 rfl rfl) ?_
                refine RunL.call cal24 rfl (s24e rd3.left.left.left.left.left (by omega) (by omega) (by omega) (by assumption) (by assumption)) rfl (fun vy17 Ay17 hy17 => ?_)
                obtain ⟨rfl, rfl⟩ := hy17
                refine Sd.ret hKy12 (Eq.trans rfl (gp2 (sep_emp _).symm (asg rfl))) ⟨_, rfl⟩ ?_
                refine Sd.quiet 11 _ _ rfl rfl rfl rfl rfl (QOp.ok (fun X => OpOk.asT (OpOk.eql rfl rfl) (by omega))) ?_
                refine Sd.quiet 12 _ _ rfl rfl rfl rfl rfl (QOp.ok (fun X => OpOk.assign rfl)) ?_
                (apply Sd.tail; case hall => kernel_rfl)
                refine RunL.mem (fl2 (flS rfl) (sep_emp _)) ?_
                refine RunL.nil ?_
                refine Run.inBlock ?_
                refine Run.seq ?_
                refine Run.seq ?_
                refine Run.region ?_
                refine RunL.ok (OpOk.move rfl) rfl ?_
                refine RunL.ok (OpOk.not rfl) rfl ?_
                refine RunL.ok (OpOk.move rfl) rfl ?_
                refine RunL.on rfl rfl ?_
                refine RunL.ok (OpOk.move rfl) rfl ?_
                refine RunL.on rfl rfl ?_
                refine RunL.ok (OpOk.strOf rfl rfl rfl rfl (Rd.right rdy5).left.left) rfl ?_
                refine RunL.on rfl rfl ?_
                refine RunL.ok (OpOk.fieldAddr fld54_2 rfl) rfl ?_
                refine RunL.on rfl rfl ?_
                refine RunL.ok (OpOk.load rfl rfl rfl (Blk.out Blk.pts.left.left.left _ _ (by first | rfl | assumption))) rfl ?_
                refine RunL.on rfl rfl ?_
                refine RunL.ok (OpOk.strOf rfl rfl rfl rfl rd3.left.left.left.left.left) rfl ?_
                refine RunL.on rfl rfl ?_
                refine RunL.ok (OpOk.neqSS rfl rfl) rfl ?_
                refine RunL.ok (OpOk.pickF rfl rfl) rfl ?_
                refine RunL.nil ?_
                refine Run.condNF rfl (by first | omega | with_reducible rfl | assumption) ?_
                refine Run.skip ?_
                refine Run.seq ?_
                refine Run.region ?_
                refine RunL.ok (OpOk.assign rfl) rfl ?_
                refine RunL.nil ?_
                refine Run.block ?_
                have hB1 := hsl
                refine Run.jump ((Run.loopJ (X := Nat × Asn × List UInt8) (fun x => [(16, .int .i64 (x.1 : Int)), (7, vy4), (5, .int .i64 (i : Int)), (4, .pointer (some ⟨x6, 0, none⟩)), (3, .pointer (some ⟨x4, 0, none⟩)), (0, u)]) (fun x => old w0 * x.2.1 * pts x4 (.cells (B ((setSec xs (ops.getD i default).2.1.toNat (ops.getD i default).2.2.2)) ++ [Value.int .i64 (w)]).toArray 95 (0, 0)) * pts x6 (.cells #[S ((setSec xs (ops.getD i default).2.1.toNat (ops.getD i default).2.2.2)), .int .i64 (rw)] 57 (0, 0)) * own 5 1 vy4 (ops.getD i default).2.2.2.length (B x.2.2)) (fun x => x.1 ≤ (ops.getD i default).2.2.2.length ∧ x.2.2.length = (ops.getD i default).2.2.2.length) (fun x => (ops.getD i default).2.2.2.length - x.1) (0, _, (ops.getD i default).2.2.2) ⟨Nat.zero_le _, rfl⟩ (fun x hx ih5 => ?_))) ⟨rfl, rfl, rfl, rfl, rfl, rfl, trivial⟩ (Grew.of (Eq.trans (frc (frl (frl rfl)) rfl) (congrArg (· * _) (congrArg (· * _) (congrArg (· * _) (asg as1))))) (Grew.refl _))
                obtain ⟨q, J5, zs⟩ := x
                simp only at hx ih5 ⊢
                obtain ⟨hq, hzl⟩ := hx
                rcases Nat.lt_or_ge q (ops.getD i default).2.2.2.length with hq1 | hq1
                · refine Run.seq ?_
                  refine Run.seq ?_
                  refine Run.region ?_
                  refine RunL.ok (OpOk.move rfl) rfl ?_
                  refine RunL.ok (OpOk.move rfl) rfl ?_
                  refine RunL.know (fun w s => (s.conv rfl).ownRd0) (fun rdq1 => ?_)
                  refine RunL.ok (OpOk.lenR rfl rfl (Rd.right rdq1) rfl) rfl ?_
                  refine RunL.ok (OpOk.asT (OpOk.lss rfl rfl) (by omega)) rfl ?_
                  refine RunL.nil ?_
                  refine Run.condT rfl ?_
                  refine Run.skip ?_
                  refine Run.seq ?_
                  refine Run.block ?_
                  refine Run.region ?_
                  refine RunL.ok (OpOk.move rfl) rfl ?_
                  refine RunL.ok (OpOk.move rfl) rfl ?_
                  refine RunL.ok (OpOk.move rfl) rfl ?_
                  refine RunL.ok (OpOk.move rfl) rfl ?_
                  refine RunL.ok (OpOk.idx1N rfl ti5 rfl (Rd.right rdq1) rfl (by omega)) rfl ?_
                  refine RunL.ok (OpOk.load rfl rfl rfl (Rd.getB (Rd.right rdq1) (by omega))) rfl ?_
                  refine RunL.ok (OpOk.xor rfl rfl (x255 _)) rfl ?_
                  refine RunL.ok (OpOk.idx1N rfl ti5 rfl (Rd.right rdq1) rfl (by omega)) rfl ?_
                  refine RunL.storeB _ ti5 rfl rfl rfl rfl (by omega) ?_
                  refine RunL.nil ?_
                  refine Run.inBlock ?_
                  refine Run.region ?_
                  refine RunL.ok (OpOk.move rfl) rfl ?_
                  refine RunL.ok (OpOk.addN _ 1 rfl rfl rfl rfl (by omega)) rfl ?_
                  refine RunL.ok (OpOk.assign rfl) rfl ?_
                  refine RunL.nil ?_
                  refine Run.jump ((ih5 (q + 1, _, _) ⟨by dsimp only; omega, by simp [hzl]⟩ (by dsimp only; omega))) ⟨rfl, rfl, rfl, rfl, rfl, rfl, trivial⟩ (Grew.of (congrArg (· * _) (congrArg (· * _) (congrArg (· * _) as1))) (Grew.refl _))
                · obtain rfl : q = (ops.getD i default).2.2.2.length := by omega
                  clear ih5
                  refine Run.seq ?_
                  refine Run.seq ?_
                  refine Run.region ?_
                  refine RunL.ok (OpOk.move rfl) rfl ?_
                  refine RunL.ok (OpOk.move rfl) rfl ?_
                  refine RunL.know (fun w s => (s.conv rfl).ownRd0) (fun rdq1 => ?_)
                  refine RunL.ok (OpOk.lenR rfl rfl (Rd.right rdq1) rfl) rfl ?_
                  refine RunL.ok (OpOk.asF (OpOk.lss rfl rfl) (by omega)) rfl ?_
                  refine RunL.nil ?_
                  refine Run.condF rfl ?_
                  refine Run.exit rfl ?_
                  refine Run.inBlock ?_
                  refine Run.region ?_
                  refine RunL.ok (OpOk.move rfl) rfl ?_
                  refine RunL.ok (OpOk.addN _ 1 rfl rfl rfl rfl (by omega)) rfl ?_
                  refine RunL.ok (OpOk.assign rfl) rfl ?_
                  refine RunL.nil ?_
                  refine Run.jump ((ih (i + 1, _, (setSec xs (ops.getD i default).2.1.toNat (ops.getD i default).2.2.2), w, rw) ⟨by dsimp only; omega, by dsimp only; omega, hB1, hB2, hB3⟩ (by dsimp only; omega))) ⟨rfl, rfl, rfl, rfl, trivial⟩ (Grew.of (Eq.trans (frc (frl rfl) (frc (frl rfl) rfl)) (congrArg (· * _) (congrArg (· * _) (asg as1)))) (Grew.refl _))
              refine Run.exit rfl ?_
              refine Run.seq ?_
              (apply Run.drawD [] (by rfl) (Eq.trans (frc (frl rfl) rfl) rfl); case hchk => kernel_rfl)
              refine Sd.quiet 0 _ _ rfl rfl rfl rfl rfl (QOp.ok (fun X => OpOk.move rfl)) ?_
              refine Sd.quiet 3 _ _ rfl rfl rfl rfl rfl (QOp.ok (fun X => OpOk.move rfl)) ?_
              refine Sd.quiet 4 _ _ rfl rfl rfl rfl rfl (QOp.ok (fun X => OpOk.nilOk rfl)) ?_
              refine Sd.quiet 5 _ _ rfl rfl rfl rfl rfl (QOp.ok (fun X => OpOk.fieldAddr fld57_0 rfl)) ?_
              refine Sd.quiet 6 _ _ rfl rfl rfl rfl rfl (QOp.ok (fun X => OpOk.load rfl rfl rfl (Blk.out Blk.pts.left.left _ _ (by first | rfl | assumption)))) ?_
              (refine Sd.exec 1 rfl rfl rfl rfl rfl ?hrest (by rfl) (fun Xy18 Ky18 hKy18 => ?_); case hrest => kernel_rfl)
              refine RunL.mem (fl2 (sep_emp _) rfl) ?_
              refine RunL.call cal26 rfl (s26 (by assumption)) rfl (fun vy19 Ay19 hy19 => ?_)
              obtain rfl := hy19
              refine RunL.know (fun w s => (s.conv rfl).ownRd0) (fun rdy20 => ?_)
              refine Sd.ret hKy18 (Eq.trans rfl (gp2 (sep_emp _).symm (asg rfl))) ⟨_, (emp_sep _).symm⟩ ?_
              refine Sd.quiet 2 _ _ rfl rfl rfl rfl rfl (QOp.ok (fun X => OpOk.strOf rfl rfl rfl rfl (Rd.right (Rd.right rdy20)).left)) ?_
              refine Sd.quiet 7 _ _ rfl rfl rfl rfl rfl (QOp.ok (fun X => OpOk.eqlSS rfl rfl)) ?_
              refine Sd.quiet 8 _ _ rfl rfl rfl rfl rfl (QOp.ok (fun X => OpOk.assign rfl)) ?_
              (apply Sd.tail; case hall => kernel_rfl)
              refine RunL.mem (fl2 (flS rfl) (sep_emp _)) ?_
              refine RunL.nil ?_
              refine Run.ret1 Try.func6 rfl rfl ?_
              rw [decide_eq_true (by first | omega | with_reducible rfl | assumption)]
              exact ⟨rfl, ⟨_, (asg (asg (asg as1)))⟩⟩
            · obtain rfl : w = rw := by omega
              rcases Decidable.em (w = 0) with hz | hz
              · refine Run.seq ?_
                refine Run.seq ?_
                refine Run.region ?_
                refine RunL.ok (OpOk.move rfl) rfl ?_
                refine RunL.ok (OpOk.move rfl) rfl ?_
                refine RunL.ok (OpOk.lenR rfl rfl rd.left.left.left rfl) rfl ?_
                refine RunL.ok (OpOk.asT (OpOk.lss rfl rfl) (by omega)) rfl ?_
                refine RunL.ok (OpOk.move rfl) rfl ?_
                refine RunL.on rfl rfl ?_
                refine RunL.ok (OpOk.move rfl) rfl ?_
                refine RunL.on rfl rfl ?_
                refine RunL.ok (OpOk.lss rfl rfl) rfl ?_
                refine RunL.ok (OpOk.pickT rfl rfl) rfl ?_
                refine RunL.nil ?_
                refine Run.condD rfl (fun y1 => ?_) (fun y1 => ?_)
                · refine Run.skip ?_
                  refine Run.seq ?_
                  refine Run.block ?_
                  refine Run.seq ?_
                  refine Run.region ?_
                  refine RunL.ok (OpOk.move rfl) rfl ?_
                  refine RunL.ok (OpOk.move rfl) rfl ?_
                  refine RunL.ok (OpOk.idxN rfl ti54 rfl rd.left.left.left rfl (by omega)) rfl ?_
                  refine RunL.ok (OpOk.loadFl default rfl rfl ti54 rfl rd.left.left.left (fun _ => rfl) rfl (by omega)) rfl ?_
                  refine RunL.alloc ti54 rfl (fun by2 => ?_)
                  refine RunL.storeAll ti54 rfl rfl rfl (by assumption) rfl rfl ?_
                  refine RunL.nil ?_
                  refine Run.seq ?_
                  refine Run.region ?_
                  refine RunL.lit0B rfl ti5 rfl (fun vy3 rdy3 => ?_)
                  refine RunL.ok (OpOk.fieldAddr fld54_2 rfl) rfl ?_
                  refine RunL.ok (OpOk.load rfl rfl rfl (Blk.out Blk.pts.left _ _ (by first | rfl | assumption))) rfl ?_
                  refine RunL.appendB0 rfl ti5 rfl rfl rfl rfl rd3.left.left.left.left.left (by omega) rfl (fun vy4 rdy4 => ?_)
                  refine RunL.ok (OpOk.assign rfl) rfl ?_
                  refine RunL.nil ?_
                  refine Run.seq ?_
                  refine Run.region ?_
                  refine RunL.ok (OpOk.assign rfl) rfl ?_
                  refine RunL.nil ?_
                  refine Run.seq ?_
                  refine Run.seq ?_
                  refine Run.region ?_
                  refine RunL.ok (OpOk.fieldAddr fld54_0 rfl) rfl ?_
                  refine RunL.ok (OpOk.load rfl rfl rfl (Blk.out Blk.pts.left _ _ (by first | rfl | assumption))) rfl ?_
                  refine RunL.nil ?_
                  refine Run.block ?_
                  refine Run.seq ?_
                  refine Run.region ?_
                  refine RunL.ok (OpOk.asT (OpOk.eql rfl rfl) (by omega)) rfl ?_
                  refine RunL.ok (OpOk.assign rfl) rfl ?_
                  refine RunL.nil ?_
                  refine Run.condT rfl ?_
                  refine Run.know (fun w s => (s.conv rfl).ownRd0) (fun rdy5 => ?_)
                  refine Run.drop [8] ?_
                  (apply Run.drawD [] (by rfl) (Eq.trans (frc (frl (frl rfl)) (frc (frl (frl rfl)) rfl)) (asg rfl)); case hchk => kernel_rfl)
                  refine Sd.quiet 0 _ _ rfl rfl rfl rfl rfl (QOp.ok (fun X => OpOk.move rfl)) ?_
                  refine Sd.quiet 1 _ _ rfl rfl rfl rfl rfl (QOp.ok (fun X => OpOk.fieldAddr fld54_1 rfl)) ?_
                  refine Sd.quiet 2 _ _ rfl rfl rfl rfl rfl (QOp.ok (fun X => OpOk.load rfl rfl rfl (Blk.out Blk.pts.left.left.left _ _ (by first | rfl | assumption)))) ?_
                  refine Sd.quiet 3 _ _ rfl rfl rfl rfl rfl (QOp.ok (fun X => OpOk.move rfl)) ?_
                  refine Sd.quiet 5 _ _ rfl rfl rfl rfl rfl (QOp.ok (fun X => OpOk.move rfl)) ?_
                  refine Sd.quiet 6 _ _ rfl rfl rfl rfl rfl (QOp.ok (fun X => OpOk.fieldAddr fld54_1 rfl)) ?_
                  refine Sd.quiet 7 _ _ rfl rfl rfl rfl rfl (QOp.ok (fun X => OpOk.load rfl rfl rfl (Blk.out Blk.pts.left.left.left _ _ (by first | rfl | assumption)))) ?_
                  refine Sd.quiet 8 _ _ rfl rfl rfl rfl rfl (QOp.ok (fun X => OpOk.fieldAddr fld54_2 rfl)) ?_
                  refine Sd.quiet 9 _ _ rfl rfl rfl rfl rfl (QOp.ok (fun X => OpOk.load rfl rfl rfl (Blk.out Blk.pts.left.left.left _ _ (by first | rfl | assumption)))) ?_
                  (refine Sd.exec 4 rfl rfl rfl rfl rfl ?hrest (by rfl) (fun Xy6 Ky6 hKy6 => ?_); case hrest => kernel_rfl)
                  refine RunL.mem (fl2 (sep_emp _) (flS rfl)) ?_
                  refine RunL.mem (frc (frl rfl) rfl) ?_
                  refine RunL.call cal20 rfl (s20d (Rd.right rdy5).left.left (by omega) (by omega) (by omega) (by assumption) (by assumption)) rfl (fun vy10 Ay10 hy10 => ?_)
                  obtain ⟨rfl, rfl⟩ := hy10
                  refine Sd.ret hKy6 (Eq.trans (frc (frl rfl) rfl) (gp2 rfl rfl)) ⟨_, (emp_sep _).symm⟩ ?_
                  (refine Sd.exec 10 rfl rfl rfl rfl rfl ?hrest (by rfl) (fun Xy11 Ky11 hKy11 => ?_); case hrest => kernel_rfl)
                  refine RunL.mem (fl2 rfl rfl) ?_
                  refine RunL.call cal24 rfl (s24d rd3.left.left.left.left.left (by omega) (by omega) (by omega) (by assumption)) rfl (fun vy15 Ay15 hy15 => ?_)
                  obtain ⟨rfl, rfl⟩ := hy15
                  refine Sd.ret hKy11 (Eq.trans rfl (gp2 (sep_emp _).symm (asg rfl))) ⟨_, rfl⟩ ?_
                  refine Sd.quiet 11 _ _ rfl rfl rfl rfl rfl (QOp.ok (fun X => OpOk.asT (OpOk.eql rfl rfl) (by omega))) ?_
                  refine Sd.quiet 12 _ _ rfl rfl rfl rfl rfl (QOp.ok (fun X => OpOk.assign rfl)) ?_
                  (apply Sd.tail; case hall => kernel_rfl)
                  refine RunL.mem (fl2 (flS rfl) (sep_emp _)) ?_
                  refine RunL.nil ?_
                  refine Run.inBlock ?_
                  refine Run.seq ?_
                  refine Run.seq ?_
                  refine Run.region ?_
                  refine RunL.ok (OpOk.move rfl) rfl ?_
                  refine RunL.ok (OpOk.not rfl) rfl ?_
                  refine RunL.ok (OpOk.move rfl) rfl ?_
                  refine RunL.on rfl rfl ?_
                  refine RunL.ok (OpOk.move rfl) rfl ?_
                  refine RunL.on rfl rfl ?_
                  refine RunL.ok (OpOk.strOf rfl rfl rfl rfl (Rd.right rdy5).left.left) rfl ?_
                  refine RunL.on rfl rfl ?_
                  refine RunL.ok (OpOk.fieldAddr fld54_2 rfl) rfl ?_
                  refine RunL.on rfl rfl ?_
                  refine RunL.ok (OpOk.load rfl rfl rfl (Blk.out Blk.pts.left.left.left _ _ (by first | rfl | assumption))) rfl ?_
                  refine RunL.on rfl rfl ?_
                  refine RunL.ok (OpOk.strOf rfl rfl rfl rfl rd3.left.left.left.left.left) rfl ?_
                  refine RunL.on rfl rfl ?_
                  refine RunL.ok (OpOk.neqSS rfl rfl) rfl ?_
                  refine RunL.ok (OpOk.pickF rfl rfl) rfl ?_
                  refine RunL.nil ?_
                  refine Run.condNF rfl (by first | omega | with_reducible rfl | assumption) ?_
                  refine Run.skip ?_
                  refine Run.seq ?_
                  refine Run.region ?_
                  refine RunL.ok (OpOk.assign rfl) rfl ?_
                  refine RunL.nil ?_
                  refine Run.block ?_
                  refine Run.jump ((Run.loopJ (X := Nat × Asn × List UInt8) (fun x => [(16, .int .i64 (x.1 : Int)), (7, vy4), (5, .int .i64 (i : Int)), (4, .pointer (some ⟨x6, 0, none⟩)), (3, .pointer (some ⟨x4, 0, none⟩)), (0, u)]) (fun x => old w0 * x.2.1 * pts x4 (.cells (B (xs) ++ [Value.int .i64 (w)]).toArray 95 (0, 0)) * pts x6 (.cells #[S (xs), .int .i64 (w)] 57 (0, 0)) * own 5 1 vy4 (ops.getD i default).2.2.2.length (B x.2.2)) (fun x => x.1 ≤ (ops.getD i default).2.2.2.length ∧ x.2.2.length = (ops.getD i default).2.2.2.length) (fun x => (ops.getD i default).2.2.2.length - x.1) (0, _, (ops.getD i default).2.2.2) ⟨Nat.zero_le _, rfl⟩ (fun x hx ih5 => ?_))) ⟨rfl, rfl, rfl, rfl, rfl, rfl, trivial⟩ (Grew.of (Eq.trans (frc (frl (frl rfl)) rfl) (congrArg (· * _) (congrArg (· * _) (congrArg (· * _) (asg as1))))) (Grew.refl _))
                  obtain ⟨q, J5, zs⟩ := x
                  simp only at hx ih5 ⊢
                  obtain ⟨hq, hzl⟩ := hx
                  rcases Nat.lt_or_ge q (ops.getD i default).2.2.2.length with hq1 | hq1
                  · refine Run.seq ?_
                    refine Run.seq ?_
                    refine Run.region ?_
                    refine RunL.ok (OpOk.move rfl) rfl ?_
                    refine RunL.ok (OpOk.move rfl) rfl ?_
                    refine RunL.know (fun w s => (s.conv rfl).ownRd0) (fun rdq1 => ?_)
                    refine RunL.ok (OpOk.lenR rfl rfl (Rd.right rdq1) rfl) rfl ?_
                    refine RunL.ok (OpOk.asT (OpOk.lss rfl rfl) (by omega)) rfl ?_
                    refine RunL.nil ?_
                    refine Run.condT rfl ?_
                    refine Run.skip ?_
                    refine Run.seq ?_
                    refine Run.block ?_
                    refine Run.region ?_
                    refine RunL.ok (OpOk.move rfl) rfl ?_
                    refine RunL.ok (OpOk.move rfl) rfl ?_
                    refine RunL.ok (OpOk.move rfl) rfl ?_
                    refine RunL.ok (OpOk.move rfl) rfl ?_
                    refine RunL.ok (OpOk.idx1N rfl ti5 rfl (Rd.right rdq1) rfl (by omega)) rfl ?_
                    refine RunL.ok (OpOk.load rfl rfl rfl (Rd.getB (Rd.right rdq1) (by omega))) rfl ?_
                    refine RunL.ok (OpOk.xor rfl rfl (x255 _)) rfl ?_
                    refine RunL.ok (OpOk.idx1N rfl ti5 rfl (Rd.right rdq1) rfl (by omega)) rfl ?_
                    refine RunL.storeB _ ti5 rfl rfl rfl rfl (by omega) ?_
                    refine RunL.nil ?_
                    refine Run.inBlock ?_
                    refine Run.region ?_
                    refine RunL.ok (OpOk.move rfl) rfl ?_
                    refine RunL.ok (OpOk.addN _ 1 rfl rfl rfl rfl (by omega)) rfl ?_
                    refine RunL.ok (OpOk.assign rfl) rfl ?_
                    refine RunL.nil ?_
                    refine Run.jump ((ih5 (q + 1, _, _) ⟨by dsimp only; omega, by simp [hzl]⟩ (by dsimp only; omega))) ⟨rfl, rfl, rfl, rfl, rfl, rfl, trivial⟩ (Grew.of (congrArg (· * _) (congrArg (· * _) (congrArg (· * _) as1))) (Grew.refl _))
                  · obtain rfl : q = (ops.getD i default).2.2.2.length := by omega
                    clear ih5
                    refine Run.seq ?_
                    refine Run.seq ?_
                    refine Run.region ?_
                    refine RunL.ok (OpOk.move rfl) rfl ?_
                    refine RunL.ok (OpOk.move rfl) rfl ?_
                    refine RunL.know (fun w s => (s.conv rfl).ownRd0) (fun rdq1 => ?_)
                    refine RunL.ok (OpOk.lenR rfl rfl (Rd.right rdq1) rfl) rfl ?_
                    refine RunL.ok (OpOk.asF (OpOk.lss rfl rfl) (by omega)) rfl ?_
                    refine RunL.nil ?_
                    refine Run.condF rfl ?_
                    refine Run.exit rfl ?_
                    refine Run.inBlock ?_
                    refine Run.region ?_
                    refine RunL.ok (OpOk.move rfl) rfl ?_
                    refine RunL.ok (OpOk.addN _ 1 rfl rfl rfl rfl (by omega)) rfl ?_
                    refine RunL.ok (OpOk.assign rfl) rfl ?_
                    refine RunL.nil ?_
                    refine Run.jump ((ih (i + 1, _, xs, w, w) ⟨by dsimp only; omega, by dsimp only; omega, hB1, hB2, hB3⟩ (by dsimp only; omega))) ⟨rfl, rfl, rfl, rfl, trivial⟩ (Grew.of (Eq.trans (frc (frl rfl) (frc (frl rfl) rfl)) (congrArg (· * _) (congrArg (· * _) (asg as1)))) (Grew.refl _))
                refine Run.exit rfl ?_
                refine Run.seq ?_
                (apply Run.drawD [] (by rfl) (Eq.trans (frc (frl rfl) rfl) rfl); case hchk => kernel_rfl)
                refine Sd.quiet 0 _ _ rfl rfl rfl rfl rfl (QOp.ok (fun X => OpOk.move rfl)) ?_
                refine Sd.quiet 3 _ _ rfl rfl rfl rfl rfl (QOp.ok (fun X => OpOk.move rfl)) ?_
                refine Sd.quiet 4 _ _ rfl rfl rfl rfl rfl (QOp.ok (fun X => OpOk.nilOk rfl)) ?_
                refine Sd.quiet 5 _ _ rfl rfl rfl rfl rfl (QOp.ok (fun X => OpOk.fieldAddr fld57_0 rfl)) ?_
                refine Sd.quiet 6 _ _ rfl rfl rfl rfl rfl (QOp.ok (fun X => OpOk.load rfl rfl rfl (Blk.out Blk.pts.left.left _ _ (by first | rfl | assumption)))) ?_
                (refine Sd.exec 1 rfl rfl rfl rfl rfl ?hrest (by rfl) (fun Xy16 Ky16 hKy16 => ?_); case hrest => kernel_rfl)
                refine RunL.mem (fl2 (sep_emp _) rfl) ?_
                refine RunL.call cal26 rfl (s26 (by assumption)) rfl (fun vy17 Ay17 hy17 => ?_)
                obtain rfl := hy17
                refine RunL.know (fun w s => (s.conv rfl).ownRd0) (fun rdy18 => ?_)
                refine Sd.ret hKy16 (Eq.trans rfl (gp2 (sep_emp _).symm (asg rfl))) ⟨_, (emp_sep _).symm⟩ ?_
                refine Sd.quiet 2 _ _ rfl rfl rfl rfl rfl (QOp.ok (fun X => OpOk.strOf rfl rfl rfl rfl (Rd.right (Rd.right rdy18)).left)) ?_
                refine Sd.quiet 7 _ _ rfl rfl rfl rfl rfl (QOp.ok (fun X => OpOk.eqlSS rfl rfl)) ?_
                refine Sd.quiet 8 _ _ rfl rfl rfl rfl rfl (QOp.ok (fun X => OpOk.assign rfl)) ?_
                (apply Sd.tail; case hall => kernel_rfl)
                refine RunL.mem (fl2 (flS rfl) (sep_emp _)) ?_
                refine RunL.nil ?_
                refine Run.ret1 Try.func6 rfl rfl ?_
                rw [decide_eq_true (by first | omega | with_reducible rfl | assumption)]
                exact ⟨rfl, ⟨_, (asg (asg (asg as1)))⟩⟩
              · refine Run.seq ?_
                refine Run.seq ?_
                refine Run.region ?_
                refine RunL.ok (OpOk.move rfl) rfl ?_
                refine RunL.ok (OpOk.move rfl) rfl ?_
                refine RunL.ok (OpOk.lenR rfl rfl rd.left.left.left rfl) rfl ?_
                refine RunL.ok (OpOk.asT (OpOk.lss rfl rfl) (by omega)) rfl ?_
                refine RunL.ok (OpOk.move rfl) rfl ?_
                refine RunL.on rfl rfl ?_
                refine RunL.ok (OpOk.move rfl) rfl ?_
                refine RunL.on rfl rfl ?_
                refine RunL.ok (OpOk.lss rfl rfl) rfl ?_
                refine RunL.ok (OpOk.pickT rfl rfl) rfl ?_
                refine RunL.nil ?_
                refine Run.condD rfl (fun y1 => ?_) (fun y1 => ?_)
                · refine Run.skip ?_
                  refine Run.seq ?_
                  refine Run.block ?_
                  refine Run.seq ?_
                  refine Run.region ?_
                  refine RunL.ok (OpOk.move rfl) rfl ?_
                  refine RunL.ok (OpOk.move rfl) rfl ?_
                  refine RunL.ok (OpOk.idxN rfl ti54 rfl rd.left.left.left rfl (by omega)) rfl ?_
                  refine RunL.ok (OpOk.loadFl default rfl rfl ti54 rfl rd.left.left.left (fun _ => rfl) rfl (by omega)) rfl ?_
                  refine RunL.alloc ti54 rfl (fun by2 => ?_)
                  refine RunL.storeAll ti54 rfl rfl rfl (by assumption) rfl rfl ?_
                  refine RunL.nil ?_
                  refine Run.seq ?_
                  refine Run.region ?_
                  refine RunL.lit0B rfl ti5 rfl (fun vy3 rdy3 => ?_)
                  refine RunL.ok (OpOk.fieldAddr fld54_2 rfl) rfl ?_
                  refine RunL.ok (OpOk.load rfl rfl rfl (Blk.out Blk.pts.left _ _ (by first | rfl | assumption))) rfl ?_
                  refine RunL.appendB0 rfl ti5 rfl rfl rfl rfl rd3.left.left.left.left.left (by omega) rfl (fun vy4 rdy4 => ?_)
                  refine RunL.ok (OpOk.assign rfl) rfl ?_
                  refine RunL.nil ?_
                  refine Run.seq ?_
                  refine Run.region ?_
                  refine RunL.ok (OpOk.assign rfl) rfl ?_
                  refine RunL.nil ?_
                  refine Run.seq ?_
                  refine Run.seq ?_
                  refine Run.region ?_
                  refine RunL.ok (OpOk.fieldAddr fld54_0 rfl) rfl ?_
                  refine RunL.ok (OpOk.load rfl rfl rfl (Blk.out Blk.pts.left _ _ (by first | rfl | assumption))) rfl ?_
                  refine RunL.nil ?_
                  refine Run.block ?_
                  refine Run.seq ?_
                  refine Run.region ?_
                  refine RunL.ok (OpOk.asT (OpOk.eql rfl rfl) (by omega)) rfl ?_
                  refine RunL.ok (OpOk.assign rfl) rfl ?_
                  refine RunL.nil ?_
                  refine Run.condT rfl ?_
                  refine Run.know (fun w s => (s.conv rfl).ownRd0) (fun rdy5 => ?_)
                  refine Run.drop [8] ?_
                  (apply Run.drawD [] (by rfl) (Eq.trans (frc (frl (frl rfl)) (frc (frl (frl rfl)) rfl)) (asg rfl)); case hchk => kernel_rfl)
                  refine Sd.quiet 0 _ _ rfl rfl rfl rfl rfl (QOp.ok (fun X => OpOk.move rfl)) ?_
                  refine Sd.quiet 1 _ _ rfl rfl rfl rfl rfl (QOp.ok (fun X => OpOk.fieldAddr fld54_1 rfl)) ?_
                  refine Sd.quiet 2 _ _ rfl rfl rfl rfl rfl (QOp.ok (fun X => OpOk.load rfl rfl rfl (Blk.out Blk.pts.left.left.left _ _ (by first | rfl | assumption)))) ?_
                  refine Sd.quiet 3 _ _ rfl rfl rfl rfl rfl (QOp.ok (fun X => OpOk.move rfl)) ?_
                  refine Sd.quiet 5 _ _ rfl rfl rfl rfl rfl (QOp.ok (fun X => OpOk.move rfl)) ?_
                  refine Sd.quiet 6 _ _ rfl rfl rfl rfl rfl (QOp.ok (fun X => OpOk.fieldAddr fld54_1 rfl)) ?_
                  refine Sd.quiet 7 _ _ rfl rfl rfl rfl rfl (QOp.ok (fun X => OpOk.load rfl rfl rfl (Blk.out Blk.pts.left.left.left _ _ (by first | rfl | assumption)))) ?_
                  refine Sd.quiet 8 _ _ rfl rfl rfl rfl rfl (QOp.ok (fun X => OpOk.fieldAddr fld54_2 rfl)) ?_
                  refine Sd.quiet 9 _ _ rfl rfl rfl rfl rfl (QOp.ok (fun X => OpOk.load rfl rfl rfl (Blk.out Blk.pts.left.left.left _ _ (by first | rfl | assumption)))) ?_
                  (refine Sd.exec 4 rfl rfl rfl rfl rfl ?hrest (by rfl) (fun Xy6 Ky6 hKy6 => ?_); case hrest => kernel_rfl)
                  refine RunL.mem (fl2 (sep_emp _) (flS rfl)) ?_
                  refine RunL.mem (frc (frl rfl) rfl) ?_
                  refine RunL.call cal20 rfl (s20f (Rd.right rdy5).left.left (by omega) (by omega) (by omega) (by assumption) (by omega) (by assumption)) rfl (fun vy12 Ay12 hy12 => ?_)
                  obtain ⟨rfl, rfl⟩ := hy12
                  refine Sd.ret hKy6 (Eq.trans (frc (frl rfl) rfl) (gp2 rfl rfl)) ⟨_, (emp_sep _).symm⟩ ?_
                  (refine Sd.exec 10 rfl rfl rfl rfl rfl ?hrest (by rfl) (fun Xy13 Ky13 hKy13 => ?_); case hrest => kernel_rfl)
                  refine RunL.mem (fl2 rfl rfl) ?_
                  refine RunL.call cal24 rfl (s24f rd3.left.left.left.left.left (by omega) (by omega) (by omega) (by assumption) (by omega) (by assumption)) rfl (fun vy19 Ay19 hy19 => ?_)
                  obtain ⟨rfl, rfl⟩ := hy19
                  refine Sd.ret hKy13 (Eq.trans rfl (gp2 (sep_emp _).symm (asg rfl))) ⟨_, rfl⟩ ?_
                  refine Sd.quiet 11 _ _ rfl rfl rfl rfl rfl (QOp.ok (fun X => OpOk.asT (OpOk.eql rfl rfl) (by omega))) ?_
                  refine Sd.quiet 12 _ _ rfl rfl rfl rfl rfl (QOp.ok (fun X => OpOk.assign rfl)) ?_
                  (apply Sd.tail; case hall => kernel_rfl)
                  refine RunL.mem (fl2 (flS rfl) (sep_emp _)) ?_
                  refine RunL.nil ?_
                  refine Run.inBlock ?_
                  refine Run.seq ?_
                  refine Run.seq ?_
                  refine Run.region ?_
                  refine RunL.ok (OpOk.move rfl) rfl ?_
                  refine RunL.ok (OpOk.not rfl) rfl ?_
                  refine RunL.ok (OpOk.move rfl) rfl ?_
                  refine RunL.on rfl rfl ?_
                  refine RunL.ok (OpOk.move rfl) rfl ?_
                  refine RunL.on rfl rfl ?_
                  refine RunL.ok (OpOk.strOf rfl rfl rfl rfl (Rd.right rdy5).left.left) rfl ?_
                  refine RunL.on rfl rfl ?_
                  refine RunL.ok (OpOk.fieldAddr fld54_2 rfl) rfl ?_
                  refine RunL.on rfl rfl ?_
                  refine RunL.ok (OpOk.load rfl rfl rfl (Blk.out Blk.pts.left.left.left _ _ (by first | rfl | assumption))) rfl ?_
                  refine RunL.on rfl rfl ?_
                  refine RunL.ok (OpOk.strOf rfl rfl rfl rfl rd3.left.left.left.left.left) rfl ?_
                  refine RunL.on rfl rfl ?_
                  refine RunL.ok (OpOk.neqSS rfl rfl) rfl ?_
                  refine RunL.ok (OpOk.pickF rfl rfl) rfl ?_
                  refine RunL.nil ?_
                  refine Run.condNF rfl (by first | omega | with_reducible rfl | assumption) ?_
                  refine Run.skip ?_
                  refine Run.seq ?_
                  refine Run.region ?_
                  refine RunL.ok (OpOk.assign rfl) rfl ?_
                  refine RunL.nil ?_
                  refine Run.block ?_
                  have hB1 := hsl
                  have hB2 : w - 1 = max (w - 1) (-1) := by omega
                  have hB3 : w - 1 ≤ 9223372036854775807 := by omega
                  refine Run.jump ((Run.loopJ (X := Nat × Asn × List UInt8) (fun x => [(16, .int .i64 (x.1 : Int)), (7, vy4), (5, .int .i64 (i : Int)), (4, .pointer (some ⟨x6, 0, none⟩)), (3, .pointer (some ⟨x4, 0, none⟩)), (0, u)]) (fun x => old w0 * x.2.1 * pts x4 (.cells (B ((setSec xs (ops.getD i default).2.1.toNat (ops.getD i default).2.2.2)) ++ [Value.int .i64 ((w - 1))]).toArray 95 (0, 0)) * pts x6 (.cells #[S ((setSec xs (ops.getD i default).2.1.toNat (ops.getD i default).2.2.2)), .int .i64 ((w - 1))] 57 (0, 0)) * own 5 1 vy4 (ops.getD i default).2.2.2.length (B x.2.2)) (fun x => x.1 ≤ (ops.getD i default).2.2.2.length ∧ x.2.2.length = (ops.getD i default).2.2.2.length) (fun x => (ops.getD i default).2.2.2.length - x.1) (0, _, (ops.getD i default).2.2.2) ⟨Nat.zero_le _, rfl⟩ (fun x hx ih5 => ?_))) ⟨rfl, rfl, rfl, rfl, rfl, rfl, trivial⟩ (Grew.of (Eq.trans (frc (frl (frl rfl)) rfl) (congrArg (· * _) (congrArg (· * _) (congrArg (· * _) (asg as1))))) (Grew.refl _))
                  obtain ⟨q, J5, zs⟩ := x
                  simp only at hx ih5 ⊢
                  obtain ⟨hq, hzl⟩ := hx
                  rcases Nat.lt_or_ge q (ops.getD i default).2.2.2.length with hq1 | hq1
                  · refine Run.seq ?_
                    refine Run.seq ?_
                    refine Run.region ?_
                    refine RunL.ok (OpOk.move rfl) rfl ?_
                    refine RunL.ok (OpOk.move rfl) rfl ?_
                    refine RunL.know (fun w s => (s.conv rfl).ownRd0) (fun rdq1 => ?_)
                    refine RunL.ok (OpOk.lenR rfl rfl (Rd.right rdq1) rfl) rfl ?_
                    refine RunL.ok (OpOk.asT (OpOk.lss rfl rfl) (by omega)) rfl ?_
                    refine RunL.nil ?_
                    refine Run.condT rfl ?_
                    refine Run.skip ?_
                    refine Run.seq ?_
                    refine Run.block ?_
                    refine Run.region ?_
                    refine RunL.ok (OpOk.move rfl) rfl ?_
                    refine RunL.ok (OpOk.move rfl) rfl ?_
                    refine RunL.ok (OpOk.move rfl) rfl ?_
                    refine RunL.ok (OpOk.move rfl) rfl ?_
                    refine RunL.ok (OpOk.idx1N rfl ti5 rfl (Rd.right rdq1) rfl (by omega)) rfl ?_
                    refine RunL.ok (OpOk.load rfl rfl rfl (Rd.getB (Rd.right rdq1) (by omega))) rfl ?_
                    refine RunL.ok (OpOk.xor rfl rfl (x255 _)) rfl ?_
                    refine RunL.ok (OpOk.idx1N rfl ti5 rfl (Rd.right rdq1) rfl (by omega)) rfl ?_
                    refine RunL.storeB _ ti5 rfl rfl rfl rfl (by omega) ?_
                    refine RunL.nil ?_
                    refine Run.inBlock ?_
                    refine Run.region ?_
                    refine RunL.ok (OpOk.move rfl) rfl ?_
                    refine RunL.ok (OpOk.addN _ 1 rfl rfl rfl rfl (by omega)) rfl ?_
                    refine RunL.ok (OpOk.assign rfl) rfl ?_
                    refine RunL.nil ?_
                    refine Run.jump ((ih5 (q + 1, _, _) ⟨by dsimp only; omega, by simp [hzl]⟩ (by dsimp only; omega))) ⟨rfl, rfl, rfl, rfl, rfl, rfl, trivial⟩ (Grew.of (congrArg (· * _) (congrArg (· * _) (congrArg (· * _) as1))) (Grew.refl _))
                  · obtain rfl : q = (ops.getD i default).2.2.2.length := by omega
                    clear ih5
                    refine Run.seq ?_
                    refine Run.seq ?_
                    refine Run.region ?_
                    refine RunL.ok (OpOk.move rfl) rfl ?_
                    refine RunL.ok (OpOk.move rfl) rfl ?_
                    refine RunL.know (fun w s => (s.conv rfl).ownRd0) (fun rdq1 => ?_)
                    refine RunL.ok (OpOk.lenR rfl rfl (Rd.right rdq1) rfl) rfl ?_
                    refine RunL.ok (OpOk.asF (OpOk.lss rfl rfl) (by omega)) rfl ?_
                    refine RunL.nil ?_
                    refine Run.condF rfl ?_
                    refine Run.exit rfl ?_
                    refine Run.inBlock ?_
                    refine Run.region ?_
                    refine RunL.ok (OpOk.move rfl) rfl ?_
                    refine RunL.ok (OpOk.addN _ 1 rfl rfl rfl rfl (by omega)) rfl ?_
                    refine RunL.ok (OpOk.assign rfl) rfl ?_
                    refine RunL.nil ?_
                    refine Run.jump ((ih (i + 1, _, (setSec xs (ops.getD i default).2.1.toNat (ops.getD i default).2.2.2), (w - 1), (w - 1)) ⟨by dsimp only; omega, by dsimp only; omega, hB1, hB2, hB3⟩ (by dsimp only; omega))) ⟨rfl, rfl, rfl, rfl, trivial⟩ (Grew.of (Eq.trans (frc (frl rfl) (frc (frl rfl) rfl)) (congrArg (· * _) (congrArg (· * _) (asg as1)))) (Grew.refl _))
                refine Run.exit rfl ?_
                refine Run.seq ?_
                (apply Run.drawD [] (by rfl) (Eq.trans (frc (frl rfl) rfl) rfl); case hchk => kernel_rfl)
                refine Sd.quiet 0 _ _ rfl rfl rfl rfl rfl (QOp.ok (fun X => OpOk.move rfl)) ?_
                refine Sd.quiet 3 _ _ rfl rfl rfl rfl rfl (QOp.ok (fun X => OpOk.move rfl)) ?_
                refine Sd.quiet 4 _ _ rfl rfl rfl rfl rfl (QOp.ok (fun X => OpOk.nilOk rfl)) ?_
                refine Sd.quiet 5 _ _ rfl rfl rfl rfl rfl (QOp.ok (fun X => OpOk.fieldAddr fld57_0 rfl)) ?_
                refine Sd.quiet 6 _ _ rfl rfl rfl rfl rfl (QOp.ok (fun X => OpOk.load rfl rfl rfl (Blk.out Blk.pts.left.left _ _ (by first | rfl | assumption)))) ?_
                (refine Sd.exec 1 rfl rfl rfl rfl rfl ?hrest (by rfl) (fun Xy20 Ky20 hKy20 => ?_); case hrest => kernel_rfl)
                refine RunL.mem (fl2 (sep_emp _) rfl) ?_
                refine RunL.call cal26 rfl (s26 (by assumption)) rfl (fun vy21 Ay21 hy21 => ?_)
                obtain rfl := hy21
                refine RunL.know (fun w s => (s.conv rfl).ownRd0) (fun rdy22 => ?_)
                refine Sd.ret hKy20 (Eq.trans rfl (gp2 (sep_emp _).symm (asg rfl))) ⟨_, (emp_sep _).symm⟩ ?_
                refine Sd.quiet 2 _ _ rfl rfl rfl rfl rfl (QOp.ok (fun X => OpOk.strOf rfl rfl rfl rfl (Rd.right (Rd.right rdy22)).left)) ?_
                refine Sd.quiet 7 _ _ rfl rfl rfl rfl rfl (QOp.ok (fun X => OpOk.eqlSS rfl rfl)) ?_
                refine Sd.quiet 8 _ _ rfl rfl rfl rfl rfl (QOp.ok (fun X => OpOk.assign rfl)) ?_
                (apply Sd.tail; case hall => kernel_rfl)
                refine RunL.mem (fl2 (flS rfl) (sep_emp _)) ?_
                refine RunL.nil ?_
                refine Run.ret1 Try.func6 rfl rfl ?_
                rw [decide_eq_true (by first | omega | with_reducible rfl | assumption)]
                exact ⟨rfl, ⟨_, (asg (asg (asg as1)))⟩⟩
    · rcases Decidable.em ((ops.getD i default).1 = 1) with k1 | k1
      · refine Run.seq ?_
        refine Run.seq ?_
        refine Run.region ?_
        refine RunL.ok (OpOk.move rfl) rfl ?_
        refine RunL.ok (OpOk.move rfl) rfl ?_
        refine RunL.ok (OpOk.lenR rfl rfl rd.left.left.left rfl) rfl ?_
        refine RunL.ok (OpOk.asT (OpOk.lss rfl rfl) (by omega)) rfl ?_
        refine RunL.ok (OpOk.move rfl) rfl ?_
        refine RunL.on rfl rfl ?_
        refine RunL.ok (OpOk.move rfl) rfl ?_
        refine RunL.on rfl rfl ?_
        refine RunL.ok (OpOk.lss rfl rfl) rfl ?_
        refine RunL.ok (OpOk.pickT rfl rfl) rfl ?_
        refine RunL.nil ?_
        refine Run.condD rfl (fun y1 => ?_) (fun y1 => ?_)
        · refine Run.skip ?_
          refine Run.seq ?_
          refine Run.block ?_
          refine Run.seq ?_
          refine Run.region ?_
          refine RunL.ok (OpOk.move rfl) rfl ?_
          refine RunL.ok (OpOk.move rfl) rfl ?_
          refine RunL.ok (OpOk.idxN rfl ti54 rfl rd.left.left.left rfl (by omega)) rfl ?_
          refine RunL.ok (OpOk.loadFl default rfl rfl ti54 rfl rd.left.left.left (fun _ => rfl) rfl (by omega)) rfl ?_
          refine RunL.alloc ti54 rfl (fun by2 => ?_)
          refine RunL.storeAll ti54 rfl rfl rfl (by assumption) rfl rfl ?_
          refine RunL.nil ?_
          refine Run.seq ?_
          refine Run.region ?_
          refine RunL.lit0B rfl ti5 rfl (fun vy3 rdy3 => ?_)
          refine RunL.ok (OpOk.fieldAddr fld54_2 rfl) rfl ?_
          refine RunL.ok (OpOk.load rfl rfl rfl (Blk.out Blk.pts.left _ _ (by first | rfl | assumption))) rfl ?_
          refine RunL.appendB0 rfl ti5 rfl rfl rfl rfl rd3.left.left.left.left.left (by omega) rfl (fun vy4 rdy4 => ?_)
          refine RunL.ok (OpOk.assign rfl) rfl ?_
          refine RunL.nil ?_
          refine Run.seq ?_
          refine Run.region ?_
          refine RunL.ok (OpOk.assign rfl) rfl ?_
          refine RunL.nil ?_
          refine Run.seq ?_
          refine Run.seq ?_
          refine Run.region ?_
          refine RunL.ok (OpOk.fieldAddr fld54_0 rfl) rfl ?_
          refine RunL.ok (OpOk.load rfl rfl rfl (Blk.out Blk.pts.left _ _ (by first | rfl | assumption))) rfl ?_
          refine RunL.nil ?_
          refine Run.block ?_
          refine Run.seq ?_
          refine Run.region ?_
          refine RunL.ok (OpOk.asF (OpOk.eql rfl rfl) (by omega)) rfl ?_
          refine RunL.ok (OpOk.assign rfl) rfl ?_
          refine RunL.nil ?_
          refine Run.condF rfl ?_
          refine Run.seq ?_
          refine Run.region ?_
          refine RunL.ok (OpOk.asT (OpOk.eql rfl rfl) (by omega)) rfl ?_
          refine RunL.ok (OpOk.assign rfl) rfl ?_
          refine RunL.nil ?_
          refine Run.condT rfl ?_
          refine Run.seq ?_
          refine Run.region ?_
          refine RunL.ok (OpOk.move rfl) rfl ?_
          refine RunL.ok (OpOk.fieldAddr fld54_1 rfl) rfl ?_
          refine RunL.ok (OpOk.load rfl rfl rfl (Blk.out Blk.pts.left _ _ (by first | rfl | assumption))) rfl ?_
          refine RunL.mem (frc (frl (frl (frl rfl))) rfl) ?_
          refine RunL.call cal19 rfl (s19 (by assumption)) rfl (fun vy5 Ay5 hy5 => ?_)
          obtain ⟨rfl, rfl⟩ := hy5
          refine RunL.nil ?_
          refine Run.region ?_
          refine RunL.ok (OpOk.move rfl) rfl ?_
          refine RunL.ok (OpOk.fieldAddr fld54_1 rfl) rfl ?_
          refine RunL.ok (OpOk.load rfl rfl rfl (Blk.out Blk.pts.left.left _ _ (by first | rfl | assumption))) rfl ?_
          refine RunL.ok (OpOk.nilOk rfl) rfl ?_
          refine RunL.ok (OpOk.fieldAddr fld57_1 rfl) rfl ?_
          refine RunL.store ti3 rfl rfl rfl (frl (frl (frl rfl))) (by exact Nat.le_of_ble_eq_true rfl) (.inl rfl) ?_
          refine RunL.nil ?_
          refine Run.inBlock ?_
          refine Run.seq ?_
          refine Run.seq ?_
          refine Run.region ?_
          refine RunL.ok (OpOk.move rfl) rfl ?_
          refine RunL.ok (OpOk.not rfl) rfl ?_
          refine RunL.ok (OpOk.move rfl) rfl ?_
          refine RunL.on rfl rfl ?_
          refine RunL.ok (OpOk.move rfl) rfl ?_
          refine RunL.on rfl rfl ?_
          refine RunL.know (fun w s => (s.conv (frl (frl rfl))).ownRd0) (fun rdy6 => ?_)
          refine RunL.ok (OpOk.strOf rfl rfl rfl rfl (Rd.right rdy6).left.left) rfl ?_
          refine RunL.on rfl rfl ?_
          refine RunL.ok (OpOk.fieldAddr fld54_2 rfl) rfl ?_
          refine RunL.on rfl rfl ?_
          refine RunL.ok (OpOk.load rfl rfl rfl (Blk.out Blk.pts.left.left.left _ _ (by first | rfl | assumption))) rfl ?_
          refine RunL.on rfl rfl ?_
          refine RunL.ok (OpOk.strOf rfl rfl rfl rfl rd3.left.left.left.left.left) rfl ?_
          refine RunL.on rfl rfl ?_
          refine RunL.ok (OpOk.neqSS rfl rfl) rfl ?_
          refine RunL.ok (OpOk.pickF rfl rfl) rfl ?_
          refine RunL.nil ?_
          refine Run.condNF rfl (by first | omega | with_reducible rfl | assumption) ?_
          refine Run.skip ?_
          refine Run.seq ?_
          refine Run.region ?_
          refine RunL.ok (OpOk.assign rfl) rfl ?_
          refine RunL.nil ?_
          refine Run.block ?_
          have hB2 : max (ops.getD i default).2.1 (-1) = max (ops.getD i default).2.1 (-1) := rfl
          have hB3 : (ops.getD i default).2.1 ≤ 9223372036854775807 := hhi
          refine Run.jump ((Run.loopJ (X := Nat × Asn × List UInt8) (fun x => [(16, .int .i64 (x.1 : Int)), (7, vy4), (5, .int .i64 (i : Int)), (4, .pointer (some ⟨x6, 0, none⟩)), (3, .pointer (some ⟨x4, 0, none⟩)), (0, u)]) (fun x => old w0 * x.2.1 * pts x4 (.cells (B (xs) ++ [Value.int .i64 ((max (ops.getD i default).2.1 (-1)))]).toArray 95 (0, 0)) * pts x6 (.cells #[S (xs), .int .i64 ((ops.getD i default).2.1)] 57 (0, 0)) * own 5 1 vy4 (ops.getD i default).2.2.2.length (B x.2.2)) (fun x => x.1 ≤ (ops.getD i default).2.2.2.length ∧ x.2.2.length = (ops.getD i default).2.2.2.length) (fun x => (ops.getD i default).2.2.2.length - x.1) (0, _, (ops.getD i default).2.2.2) ⟨Nat.zero_le _, rfl⟩ (fun x hx ih5 => ?_))) ⟨rfl, rfl, rfl, rfl, rfl, rfl, trivial⟩ (Grew.of (Eq.trans (frc (frl (frl rfl)) (frc rfl rfl)) (congrArg (· * _) (congrArg (· * _) (congrArg (· * _) (asg as1))))) (Grew.refl _))
          obtain ⟨q, J5, zs⟩ := x
          simp only at hx ih5 ⊢
          obtain ⟨hq, hzl⟩ := hx
          rcases Nat.lt_or_ge q (ops.getD i default).2.2.2.length with hq1 | hq1
          · refine Run.seq ?_
            refine Run.seq ?_
            refine Run.region ?_
            refine RunL.ok (OpOk.move rfl) rfl ?_
            refine RunL.ok (OpOk.move rfl) rfl ?_
            refine RunL.know (fun w s => (s.conv rfl).ownRd0) (fun rdq1 => ?_)
            refine RunL.ok (OpOk.lenR rfl rfl (Rd.right rdq1) rfl) rfl ?_
            refine RunL.ok (OpOk.asT (OpOk.lss rfl rfl) (by omega)) rfl ?_
            refine RunL.nil ?_
            refine Run.condT rfl ?_
            refine Run.skip ?_
            refine Run.seq ?_
            refine Run.block ?_
            refine Run.region ?_
            refine RunL.ok (OpOk.move rfl) rfl ?_
            refine RunL.ok (OpOk.move rfl) rfl ?_
            refine RunL.ok (OpOk.move rfl) rfl ?_
            refine RunL.ok (OpOk.move rfl) rfl ?_
            refine RunL.ok (OpOk.idx1N rfl ti5 rfl (Rd.right rdq1) rfl (by omega)) rfl ?_
            refine RunL.ok (OpOk.load rfl rfl rfl (Rd.getB (Rd.right rdq1) (by omega))) rfl ?_
            refine RunL.ok (OpOk.xor rfl rfl (x255 _)) rfl ?_
            refine RunL.ok (OpOk.idx1N rfl ti5 rfl (Rd.right rdq1) rfl (by omega)) rfl ?_
            refine RunL.storeB _ ti5 rfl rfl rfl rfl (by omega) ?_
            refine RunL.nil ?_
            refine Run.inBlock ?_
            refine Run.region ?_
            refine RunL.ok (OpOk.move rfl) rfl ?_
            refine RunL.ok (OpOk.addN _ 1 rfl rfl rfl rfl (by omega)) rfl ?_
            refine RunL.ok (OpOk.assign rfl) rfl ?_
            refine RunL.nil ?_
            refine Run.jump ((ih5 (q + 1, _, _) ⟨by dsimp only; omega, by simp [hzl]⟩ (by dsimp only; omega))) ⟨rfl, rfl, rfl, rfl, rfl, rfl, trivial⟩ (Grew.of (congrArg (· * _) (congrArg (· * _) (congrArg (· * _) as1))) (Grew.refl _))
          · obtain rfl : q = (ops.getD i default).2.2.2.length := by omega
            clear ih5
            refine Run.seq ?_
            refine Run.seq ?_
            refine Run.region ?_
            refine RunL.ok (OpOk.move rfl) rfl ?_
            refine RunL.ok (OpOk.move rfl) rfl ?_
            refine RunL.know (fun w s => (s.conv rfl).ownRd0) (fun rdq1 => ?_)
            refine RunL.ok (OpOk.lenR rfl rfl (Rd.right rdq1) rfl) rfl ?_
            refine RunL.ok (OpOk.asF (OpOk.lss rfl rfl) (by omega)) rfl ?_
            refine RunL.nil ?_
            refine Run.condF rfl ?_
            refine Run.exit rfl ?_
            refine Run.inBlock ?_
            refine Run.region ?_
            refine RunL.ok (OpOk.move rfl) rfl ?_
            refine RunL.ok (OpOk.addN _ 1 rfl rfl rfl rfl (by omega)) rfl ?_
            refine RunL.ok (OpOk.assign rfl) rfl ?_
            refine RunL.nil ?_
            refine Run.jump ((ih (i + 1, _, xs, (max (ops.getD i default).2.1 (-1)), (ops.getD i default).2.1) ⟨by dsimp only; omega, by dsimp only; omega, hB1, hB2, hB3⟩ (by dsimp only; omega))) ⟨rfl, rfl, rfl, rfl, trivial⟩ (Grew.of (Eq.trans (frc (frl rfl) (frc (frl rfl) rfl)) (congrArg (· * _) (congrArg (· * _) (asg as1)))) (Grew.refl _))
        refine Run.exit rfl ?_
        refine Run.seq ?_
        (apply Run.drawD [] (by rfl) (Eq.trans (frc (frl rfl) rfl) rfl); case hchk => kernel_rfl)
        refine Sd.quiet 0 _ _ rfl rfl rfl rfl rfl (QOp.ok (fun X => OpOk.move rfl)) ?_
        refine Sd.quiet 3 _ _ rfl rfl rfl rfl rfl (QOp.ok (fun X => OpOk.move rfl)) ?_
        refine Sd.quiet 4 _ _ rfl rfl rfl rfl rfl (QOp.ok (fun X => OpOk.nilOk rfl)) ?_
        refine Sd.quiet 5 _ _ rfl rfl rfl rfl rfl (QOp.ok (fun X => OpOk.fieldAddr fld57_0 rfl)) ?_
        refine Sd.quiet 6 _ _ rfl rfl rfl rfl rfl (QOp.ok (fun X => OpOk.load rfl rfl rfl (Blk.out Blk.pts.left.left _ _ (by first | rfl | assumption)))) ?_
        (refine Sd.exec 1 rfl rfl rfl rfl rfl ?hrest (by rfl) (fun Xy7 Ky7 hKy7 => ?_); case hrest => kernel_rfl)
        refine RunL.mem (fl2 (sep_emp _) rfl) ?_
        refine RunL.call cal26 rfl (s26 (by assumption)) rfl (fun vy8 Ay8 hy8 => ?_)
        obtain rfl := hy8
        refine RunL.know (fun w s => (s.conv rfl).ownRd0) (fun rdy9 => ?_)
        refine Sd.ret hKy7 (Eq.trans rfl (gp2 (sep_emp _).symm (asg rfl))) ⟨_, (emp_sep _).symm⟩ ?_
        refine Sd.quiet 2 _ _ rfl rfl rfl rfl rfl (QOp.ok (fun X => OpOk.strOf rfl rfl rfl rfl (Rd.right (Rd.right rdy9)).left)) ?_
        refine Sd.quiet 7 _ _ rfl rfl rfl rfl rfl (QOp.ok (fun X => OpOk.eqlSS rfl rfl)) ?_
        refine Sd.quiet 8 _ _ rfl rfl rfl rfl rfl (QOp.ok (fun X => OpOk.assign rfl)) ?_
        (apply Sd.tail; case hall => kernel_rfl)
        refine RunL.mem (fl2 (flS rfl) (sep_emp _)) ?_
        refine RunL.nil ?_
        refine Run.ret1 Try.func6 rfl rfl ?_
        rw [decide_eq_true (by first | omega | with_reducible rfl | assumption)]
        exact ⟨rfl, ⟨_, (asg (asg (asg as1)))⟩⟩
      · rcases Decidable.em ((ops.getD i default).1 = 2) with k2 | k2
        · rcases Nat.lt_or_ge (ops.getD i default).2.2.2.length 512 with hb | hb
          · refine Run.seq ?_
            refine Run.seq ?_
            refine Run.region ?_
            refine RunL.ok (OpOk.move rfl) rfl ?_
            refine RunL.ok (OpOk.move rfl) rfl ?_
            refine RunL.ok (OpOk.lenR rfl rfl rd.left.left.left rfl) rfl ?_
            refine RunL.ok (OpOk.asT (OpOk.lss rfl rfl) (by omega)) rfl ?_
            refine RunL.ok (OpOk.move rfl) rfl ?_
            refine RunL.on rfl rfl ?_
            refine RunL.ok (OpOk.move rfl) rfl ?_
            refine RunL.on rfl rfl ?_
            refine RunL.ok (OpOk.lss rfl rfl) rfl ?_
            refine RunL.ok (OpOk.pickT rfl rfl) rfl ?_
            refine RunL.nil ?_
            refine Run.condD rfl (fun y1 => ?_) (fun y1 => ?_)
            · refine Run.skip ?_
              refine Run.seq ?_
              refine Run.block ?_
              refine Run.seq ?_
              refine Run.region ?_
              refine RunL.ok (OpOk.move rfl) rfl ?_
              refine RunL.ok (OpOk.move rfl) rfl ?_
              refine RunL.ok (OpOk.idxN rfl ti54 rfl rd.left.left.left rfl (by omega)) rfl ?_
              refine RunL.ok (OpOk.loadFl default rfl rfl ti54 rfl rd.left.left.left (fun _ => rfl) rfl (by omega)) rfl ?_
              refine RunL.alloc ti54 rfl (fun by2 => ?_)
              refine RunL.storeAll ti54 rfl rfl rfl (by assumption) rfl rfl ?_
              refine RunL.nil ?_
              refine Run.seq ?_
              refine Run.region ?_
              refine RunL.lit0B rfl ti5 rfl (fun vy3 rdy3 => ?_)
              refine RunL.ok (OpOk.fieldAddr fld54_2 rfl) rfl ?_
              refine RunL.ok (OpOk.load rfl rfl rfl (Blk.out Blk.pts.left _ _ (by first | rfl | assumption))) rfl ?_
              refine RunL.appendB0 rfl ti5 rfl rfl rfl rfl rd3.left.left.left.left.left (by omega) rfl (fun vy4 rdy4 => ?_)
              refine RunL.ok (OpOk.assign rfl) rfl ?_
              refine RunL.nil ?_
              refine Run.seq ?_
              refine Run.region ?_
              refine RunL.ok (OpOk.assign rfl) rfl ?_
              refine RunL.nil ?_
              refine Run.seq ?_
              refine Run.seq ?_
              refine Run.region ?_
              refine RunL.ok (OpOk.fieldAddr fld54_0 rfl) rfl ?_
              refine RunL.ok (OpOk.load rfl rfl rfl (Blk.out Blk.pts.left _ _ (by first | rfl | assumption))) rfl ?_
              refine RunL.nil ?_
              refine Run.block ?_
              refine Run.seq ?_
              refine Run.region ?_
              refine RunL.ok (OpOk.asF (OpOk.eql rfl rfl) (by omega)) rfl ?_
              refine RunL.ok (OpOk.assign rfl) rfl ?_
              refine RunL.nil ?_
              refine Run.condF rfl ?_
              refine Run.seq ?_
              refine Run.region ?_
              refine RunL.ok (OpOk.asF (OpOk.eql rfl rfl) (by omega)) rfl ?_
              refine RunL.ok (OpOk.assign rfl) rfl ?_
              refine RunL.nil ?_
              refine Run.condF rfl ?_
              refine Run.seq ?_
              refine Run.region ?_
              refine RunL.ok (OpOk.asT (OpOk.eql rfl rfl) (by omega)) rfl ?_
              refine RunL.ok (OpOk.assign rfl) rfl ?_
              refine RunL.nil ?_
              refine Run.condT rfl ?_
              refine Run.know (fun w s => (s.conv rfl).ownRd0) (fun rdy5 => ?_)
              refine Run.drop [8] ?_
              (apply Run.drawD [] (by rfl) (Eq.trans (frc (frl (frl rfl)) (frc (frl (frl rfl)) rfl)) (asg rfl)); case hchk => kernel_rfl)
              refine Sd.quiet 0 _ _ rfl rfl rfl rfl rfl (QOp.ok (fun X => OpOk.move rfl)) ?_
              refine Sd.quiet 1 _ _ rfl rfl rfl rfl rfl (QOp.ok (fun X => OpOk.move rfl)) ?_
              refine Sd.quiet 3 _ _ rfl rfl rfl rfl rfl (QOp.ok (fun X => OpOk.move rfl)) ?_
              refine Sd.quiet 4 _ _ rfl rfl rfl rfl rfl (QOp.ok (fun X => OpOk.fieldAddr fld54_2 rfl)) ?_
              refine Sd.quiet 5 _ _ rfl rfl rfl rfl rfl (QOp.ok (fun X => OpOk.load rfl rfl rfl (Blk.out Blk.pts.left.left.left _ _ (by first | rfl | assumption)))) ?_
              (refine Sd.exec 2 rfl rfl rfl rfl rfl ?hrest (by rfl) (fun Xy6 Ky6 hKy6 => ?_); case hrest => kernel_rfl)
              refine RunL.mem (fl2 (sep_emp _) (flS rfl)) ?_
              refine RunL.mem (frc (frl rfl) rfl) ?_
              refine RunL.call cal22 rfl (s22a (Rd.right rdy5).left.left (by assumption)) rfl (fun vy7 Ay7 hy7 => ?_)
              obtain ⟨rfl, rfl⟩ := hy7
              refine Sd.ret hKy6 (Eq.trans (frc (frl rfl) rfl) (gp2 rfl rfl)) ⟨_, (emp_sep _).symm⟩ ?_
              (refine Sd.exec 6 rfl rfl rfl rfl rfl ?hrest (by rfl) (fun Xy8 Ky8 hKy8 => ?_); case hrest => kernel_rfl)
              refine RunL.mem (fl2 rfl rfl) ?_
              refine RunL.call cal25 rfl (s25a rd3.left.left.left.left.left (by assumption)) rfl (fun vy9 Ay9 hy9 => ?_)
              obtain ⟨rfl, rfl⟩ := hy9
              refine Sd.ret hKy8 (Eq.trans rfl (gp2 (sep_emp _).symm (asg rfl))) ⟨_, rfl⟩ ?_
              refine Sd.quiet 7 _ _ rfl rfl rfl rfl rfl (QOp.ok (fun X => OpOk.asT (OpOk.eql rfl rfl) (by omega))) ?_
              refine Sd.quiet 8 _ _ rfl rfl rfl rfl rfl (QOp.ok (fun X => OpOk.assign rfl)) ?_
              (apply Sd.tail; case hall => kernel_rfl)
              refine RunL.mem (fl2 (flS rfl) (sep_emp _)) ?_
              refine RunL.nil ?_
              refine Run.inBlock ?_
              refine Run.seq ?_
              refine Run.seq ?_
              refine Run.region ?_
              refine RunL.ok (OpOk.move rfl) rfl ?_
              refine RunL.ok (OpOk.not rfl) rfl ?_
              refine RunL.ok (OpOk.move rfl) rfl ?_
              refine RunL.on rfl rfl ?_
              refine RunL.ok (OpOk.move rfl) rfl ?_
              refine RunL.on rfl rfl ?_
              refine RunL.ok (OpOk.strOf rfl rfl rfl rfl (Rd.right rdy5).left.left) rfl ?_
              refine RunL.on rfl rfl ?_
              refine RunL.ok (OpOk.fieldAddr fld54_2 rfl) rfl ?_
              refine RunL.on rfl rfl ?_
              refine RunL.ok (OpOk.load rfl rfl rfl (Blk.out Blk.pts.left.left.left _ _ (by first | rfl | assumption))) rfl ?_
              refine RunL.on rfl rfl ?_
              refine RunL.ok (OpOk.strOf rfl rfl rfl rfl rd3.left.left.left.left.left) rfl ?_
              refine RunL.on rfl rfl ?_
              refine RunL.ok (OpOk.neqSS rfl rfl) rfl ?_
              refine RunL.ok (OpOk.pickF rfl rfl) rfl ?_
              refine RunL.nil ?_
              refine Run.condNF rfl (by first | omega | with_reducible rfl | assumption) ?_
              refine Run.skip ?_
              refine Run.seq ?_
              refine Run.region ?_
              refine RunL.ok (OpOk.assign rfl) rfl ?_
              refine RunL.nil ?_
              refine Run.block ?_
              refine Run.jump ((Run.loopJ (X := Nat × Asn × List UInt8) (fun x => [(16, .int .i64 (x.1 : Int)), (7, vy4), (5, .int .i64 (i : Int)), (4, .pointer (some ⟨x6, 0, none⟩)), (3, .pointer (some ⟨x4, 0, none⟩)), (0, u)]) (fun x => old w0 * x.2.1 * pts x4 (.cells (B (xs) ++ [Value.int .i64 (w)]).toArray 95 (0, 0)) * pts x6 (.cells #[S (xs), .int .i64 (rw)] 57 (0, 0)) * own 5 1 vy4 (ops.getD i default).2.2.2.length (B x.2.2)) (fun x => x.1 ≤ (ops.getD i default).2.2.2.length ∧ x.2.2.length = (ops.getD i default).2.2.2.length) (fun x => (ops.getD i default).2.2.2.length - x.1) (0, _, (ops.getD i default).2.2.2) ⟨Nat.zero_le _, rfl⟩ (fun x hx ih5 => ?_))) ⟨rfl, rfl, rfl, rfl, rfl, rfl, trivial⟩ (Grew.of (Eq.trans (frc (frl (frl rfl)) rfl) (congrArg (· * _) (congrArg (· * _) (congrArg (· * _) (asg as1))))) (Grew.refl _))
              obtain ⟨q, J5, zs⟩ := x
              simp only at hx ih5 ⊢
              obtain ⟨hq, hzl⟩ := hx
              rcases Nat.lt_or_ge q (ops.getD i default).2.2.2.length with hq1 | hq1
              · refine Run.seq ?_
                refine Run.seq ?_
                refine Run.region ?_
                refine RunL.ok (OpOk.move rfl) rfl ?_
                refine RunL.ok (OpOk.move rfl) rfl ?_
                refine RunL.know (fun w s => (s.conv rfl).ownRd0) (fun rdq1 => ?_)
                refine RunL.ok (OpOk.lenR rfl rfl (Rd.right rdq1) rfl) rfl ?_
                refine RunL.ok (OpOk.asT (OpOk.lss rfl rfl) (by omega)) rfl ?_
                refine RunL.nil ?_
                refine Run.condT rfl ?_
                refine Run.skip ?_
                refine Run.seq ?_
                refine Run.block ?_
                refine Run.region ?_
                refine RunL.ok (OpOk.move rfl) rfl ?_
                refine RunL.ok (OpOk.move rfl) rfl ?_
                refine RunL.ok (OpOk.move rfl) rfl ?_
                refine RunL.ok (OpOk.move rfl) rfl ?_
                refine RunL.ok (OpOk.idx1N rfl ti5 rfl (Rd.right rdq1) rfl (by omega)) rfl ?_
                refine RunL.ok (OpOk.load rfl rfl rfl (Rd.getB (Rd.right rdq1) (by omega))) rfl ?_
                refine RunL.ok (OpOk.xor rfl rfl (x255 _)) rfl ?_
                refine RunL.ok (OpOk.idx1N rfl ti5 rfl (Rd.right rdq1) rfl (by omega)) rfl ?_
                refine RunL.storeB _ ti5 rfl rfl rfl rfl (by omega) ?_
                refine RunL.nil ?_
                refine Run.inBlock ?_
                refine Run.region ?_
                refine RunL.ok (OpOk.move rfl) rfl ?_
                refine RunL.ok (OpOk.addN _ 1 rfl rfl rfl rfl (by omega)) rfl ?_
                refine RunL.ok (OpOk.assign rfl) rfl ?_
                refine RunL.nil ?_
                refine Run.jump ((ih5 (q + 1, _, _) ⟨by dsimp only; omega, by simp [hzl]⟩ (by dsimp only; omega))) ⟨rfl, rfl, rfl, rfl, rfl, rfl, trivial⟩ (Grew.of (congrArg (· * _) (congrArg (· * _) (congrArg (· * _) as1))) (Grew.refl _))
              · obtain rfl : q = (ops.getD i default).2.2.2.length := by omega
                clear ih5
                refine Run.seq ?_
                refine Run.seq ?_
                refine Run.region ?_
                refine RunL.ok (OpOk.move rfl) rfl ?_
                refine RunL.ok (OpOk.move rfl) rfl ?_
                refine RunL.know (fun w s => (s.conv rfl).ownRd0) (fun rdq1 => ?_)
                refine RunL.ok (OpOk.lenR rfl rfl (Rd.right rdq1) rfl) rfl ?_
                refine RunL.ok (OpOk.asF (OpOk.lss rfl rfl) (by omega)) rfl ?_
                refine RunL.nil ?_
                refine Run.condF rfl ?_
                refine Run.exit rfl ?_
                refine Run.inBlock ?_
                refine Run.region ?_
                refine RunL.ok (OpOk.move rfl) rfl ?_
                refine RunL.ok (OpOk.addN _ 1 rfl rfl rfl rfl (by omega)) rfl ?_
                refine RunL.ok (OpOk.assign rfl) rfl ?_
                refine RunL.nil ?_
                refine Run.jump ((ih (i + 1, _, xs, w, rw) ⟨by dsimp only; omega, by dsimp only; omega, hB1, hB2, hB3⟩ (by dsimp only; omega))) ⟨rfl, rfl, rfl, rfl, trivial⟩ (Grew.of (Eq.trans (frc (frl rfl) (frc (frl rfl) rfl)) (congrArg (· * _) (congrArg (· * _) (asg as1)))) (Grew.refl _))
            refine Run.exit rfl ?_
            refine Run.seq ?_
            (apply Run.drawD [] (by rfl) (Eq.trans (frc (frl rfl) rfl) rfl); case hchk => kernel_rfl)
            refine Sd.quiet 0 _ _ rfl rfl rfl rfl rfl (QOp.ok (fun X => OpOk.move rfl)) ?_
            refine Sd.quiet 3 _ _ rfl rfl rfl rfl rfl (QOp.ok (fun X => OpOk.move rfl)) ?_
            refine Sd.quiet 4 _ _ rfl rfl rfl rfl rfl (QOp.ok (fun X => OpOk.nilOk rfl)) ?_
            refine Sd.quiet 5 _ _ rfl rfl rfl rfl rfl (QOp.ok (fun X => OpOk.fieldAddr fld57_0 rfl)) ?_
            refine Sd.quiet 6 _ _ rfl rfl rfl rfl rfl (QOp.ok (fun X => OpOk.load rfl rfl rfl (Blk.out Blk.pts.left.left _ _ (by first | rfl | assumption)))) ?_
            (refine Sd.exec 1 rfl rfl rfl rfl rfl ?hrest (by rfl) (fun Xy10 Ky10 hKy10 => ?_); case hrest => kernel_rfl)
            refine RunL.mem (fl2 (sep_emp _) rfl) ?_
            refine RunL.call cal26 rfl (s26 (by assumption)) rfl (fun vy11 Ay11 hy11 => ?_)
            obtain rfl := hy11
            refine RunL.know (fun w s => (s.conv rfl).ownRd0) (fun rdy12 => ?_)
            refine Sd.ret hKy10 (Eq.trans rfl (gp2 (sep_emp _).symm (asg rfl))) ⟨_, (emp_sep _).symm⟩ ?_
            refine Sd.quiet 2 _ _ rfl rfl rfl rfl rfl (QOp.ok (fun X => OpOk.strOf rfl rfl rfl rfl (Rd.right (Rd.right rdy12)).left)) ?_
            refine Sd.quiet 7 _ _ rfl rfl rfl rfl rfl (QOp.ok (fun X => OpOk.eqlSS rfl rfl)) ?_
            refine Sd.quiet 8 _ _ rfl rfl rfl rfl rfl (QOp.ok (fun X => OpOk.assign rfl)) ?_
            (apply Sd.tail; case hall => kernel_rfl)
            refine RunL.mem (fl2 (flS rfl) (sep_emp _)) ?_
            refine RunL.nil ?_
            refine Run.ret1 Try.func6 rfl rfl ?_
            rw [decide_eq_true (by first | omega | with_reducible rfl | assumption)]
            exact ⟨rfl, ⟨_, (asg (asg (asg as1)))⟩⟩
          · rcases Nat.lt_or_ge 512 (ops.getD i default).2.2.2.length with hb2 | hb2
            · refine Run.seq ?_
              refine Run.seq ?_
              refine Run.region ?_
              refine RunL.ok (OpOk.move rfl) rfl ?_
              refine RunL.ok (OpOk.move rfl) rfl ?_
              refine RunL.ok (OpOk.lenR rfl rfl rd.left.left.left rfl) rfl ?_
              refine RunL.ok (OpOk.asT (OpOk.lss rfl rfl) (by omega)) rfl ?_
              refine RunL.ok (OpOk.move rfl) rfl ?_
              refine RunL.on rfl rfl ?_
              refine RunL.ok (OpOk.move rfl) rfl ?_
              refine RunL.on rfl rfl ?_
              refine RunL.ok (OpOk.lss rfl rfl) rfl ?_
              refine RunL.ok (OpOk.pickT rfl rfl) rfl ?_
              refine RunL.nil ?_
              refine Run.condD rfl (fun y1 => ?_) (fun y1 => ?_)
              · refine Run.skip ?_
                refine Run.seq ?_
                refine Run.block ?_
                refine Run.seq ?_
                refine Run.region ?_
                refine RunL.ok (OpOk.move rfl) rfl ?_
                refine RunL.ok (OpOk.move rfl) rfl ?_
                refine RunL.ok (OpOk.idxN rfl ti54 rfl rd.left.left.left rfl (by omega)) rfl ?_
                refine RunL.ok (OpOk.loadFl default rfl rfl ti54 rfl rd.left.left.left (fun _ => rfl) rfl (by omega)) rfl ?_
                refine RunL.alloc ti54 rfl (fun by2 => ?_)
                refine RunL.storeAll ti54 rfl rfl rfl (by assumption) rfl rfl ?_
                refine RunL.nil ?_
                refine Run.seq ?_
                refine Run.region ?_
                refine RunL.lit0B rfl ti5 rfl (fun vy3 rdy3 => ?_)
                refine RunL.ok (OpOk.fieldAddr fld54_2 rfl) rfl ?_
                refine RunL.ok (OpOk.load rfl rfl rfl (Blk.out Blk.pts.left _ _ (by first | rfl | assumption))) rfl ?_
                refine RunL.appendB0 rfl ti5 rfl rfl rfl rfl rd3.left.left.left.left.left (by omega) rfl (fun vy4 rdy4 => ?_)
                refine RunL.ok (OpOk.assign rfl) rfl ?_
                refine RunL.nil ?_
                refine Run.seq ?_
                refine Run.region ?_
                refine RunL.ok (OpOk.assign rfl) rfl ?_
                refine RunL.nil ?_
                refine Run.seq ?_
                refine Run.seq ?_
                refine Run.region ?_
                refine RunL.ok (OpOk.fieldAddr fld54_0 rfl) rfl ?_
                refine RunL.ok (OpOk.load rfl rfl rfl (Blk.out Blk.pts.left _ _ (by first | rfl | assumption))) rfl ?_
                refine RunL.nil ?_
                refine Run.block ?_
                refine Run.seq ?_
                refine Run.region ?_
                refine RunL.ok (OpOk.asF (OpOk.eql rfl rfl) (by omega)) rfl ?_
                refine RunL.ok (OpOk.assign rfl) rfl ?_
                refine RunL.nil ?_
                refine Run.condF rfl ?_
                refine Run.seq ?_
                refine Run.region ?_
                refine RunL.ok (OpOk.asF (OpOk.eql rfl rfl) (by omega)) rfl ?_
                refine RunL.ok (OpOk.assign rfl) rfl ?_
                refine RunL.nil ?_
                refine Run.condF rfl ?_
                refine Run.seq ?_
                refine Run.region ?_
                refine RunL.ok (OpOk.asT (OpOk.eql rfl rfl) (by omega)) rfl ?_
                refine RunL.ok (OpOk.assign rfl) rfl ?_
                refine RunL.nil ?_
                refine Run.condT rfl ?_
                refine Run.know (fun w s => (s.conv rfl).ownRd0) (fun rdy5 => ?_)
                refine Run.drop [8] ?_
                (apply Run.drawD [] (by rfl) (Eq.trans (frc (frl (frl rfl)) (frc (frl (frl rfl)) rfl)) (asg rfl)); case hchk => kernel_rfl)
                refine Sd.quiet 0 _ _ rfl rfl rfl rfl rfl (QOp.ok (fun X => OpOk.move rfl)) ?_
                refine Sd.quiet 1 _ _ rfl rfl rfl rfl rfl (QOp.ok (fun X => OpOk.move rfl)) ?_
                refine Sd.quiet 3 _ _ rfl rfl rfl rfl rfl (QOp.ok (fun X => OpOk.move rfl)) ?_
                refine Sd.quiet 4 _ _ rfl rfl rfl rfl rfl (QOp.ok (fun X => OpOk.fieldAddr fld54_2 rfl)) ?_
                refine Sd.quiet 5 _ _ rfl rfl rfl rfl rfl (QOp.ok (fun X => OpOk.load rfl rfl rfl (Blk.out Blk.pts.left.left.left _ _ (by first | rfl | assumption)))) ?_
                (refine Sd.exec 2 rfl rfl rfl rfl rfl ?hrest (by rfl) (fun Xy6 Ky6 hKy6 => ?_); case hrest => kernel_rfl)
                refine RunL.mem (fl2 (sep_emp _) (flS rfl)) ?_
                refine RunL.mem (frc (frl rfl) rfl) ?_
                refine RunL.call cal22 rfl (s22b (Rd.right rdy5).left.left (by assumption)) rfl (fun vy8 Ay8 hy8 => ?_)
                obtain ⟨rfl, rfl⟩ := hy8
                refine Sd.ret hKy6 (Eq.trans (frc (frl rfl) rfl) (gp2 rfl rfl)) ⟨_, (emp_sep _).symm⟩ ?_
                (refine Sd.exec 6 rfl rfl rfl rfl rfl ?hrest (by rfl) (fun Xy9 Ky9 hKy9 => ?_); case hrest => kernel_rfl)
                refine RunL.mem (fl2 rfl rfl) ?_
                refine RunL.call cal25 rfl (s25b rd3.left.left.left.left.left (by assumption)) rfl (fun vy11 Ay11 hy11 => ?_)
                obtain ⟨rfl, rfl⟩ := hy11
                refine Sd.ret hKy9 (Eq.trans rfl (gp2 (sep_emp _).symm (asg rfl))) ⟨_, rfl⟩ ?_
                refine Sd.quiet 7 _ _ rfl rfl rfl rfl rfl (QOp.ok (fun X => OpOk.asT (OpOk.eql rfl rfl) (by omega))) ?_
                refine Sd.quiet 8 _ _ rfl rfl rfl rfl rfl (QOp.ok (fun X => OpOk.assign rfl)) ?_
                (apply Sd.tail; case hall => kernel_rfl)
                refine RunL.mem (fl2 (flS rfl) (sep_emp _)) ?_
                refine RunL.nil ?_
                refine Run.inBlock ?_
                refine Run.seq ?_
                refine Run.seq ?_
                refine Run.region ?_
                refine RunL.ok (OpOk.move rfl) rfl ?_
                refine RunL.ok (OpOk.not rfl) rfl ?_
                refine RunL.ok (OpOk.move rfl) rfl ?_
                refine RunL.on rfl rfl ?_
                refine RunL.ok (OpOk.move rfl) rfl ?_
                refine RunL.on rfl rfl ?_
                refine RunL.ok (OpOk.strOf rfl rfl rfl rfl (Rd.right rdy5).left.left) rfl ?_
                refine RunL.on rfl rfl ?_
                refine RunL.ok (OpOk.fieldAddr fld54_2 rfl) rfl ?_
                refine RunL.on rfl rfl ?_
                refine RunL.ok (OpOk.load rfl rfl rfl (Blk.out Blk.pts.left.left.left _ _ (by first | rfl | assumption))) rfl ?_
                refine RunL.on rfl rfl ?_
                refine RunL.ok (OpOk.strOf rfl rfl rfl rfl rd3.left.left.left.left.left) rfl ?_
                refine RunL.on rfl rfl ?_
                refine RunL.ok (OpOk.neqSS rfl rfl) rfl ?_
                refine RunL.ok (OpOk.pickF rfl rfl) rfl ?_
                refine RunL.nil ?_
                refine Run.condNF rfl (by first | omega | with_reducible rfl | assumption) ?_
                refine Run.skip ?_
                refine Run.seq ?_
                refine Run.region ?_
                refine RunL.ok (OpOk.assign rfl) rfl ?_
                refine RunL.nil ?_
                refine Run.block ?_
                refine Run.jump ((Run.loopJ (X := Nat × Asn × List UInt8) (fun x => [(16, .int .i64 (x.1 : Int)), (7, vy4), (5, .int .i64 (i : Int)), (4, .pointer (some ⟨x6, 0, none⟩)), (3, .pointer (some ⟨x4, 0, none⟩)), (0, u)]) (fun x => old w0 * x.2.1 * pts x4 (.cells (B (xs) ++ [Value.int .i64 (w)]).toArray 95 (0, 0)) * pts x6 (.cells #[S (xs), .int .i64 (rw)] 57 (0, 0)) * own 5 1 vy4 (ops.getD i default).2.2.2.length (B x.2.2)) (fun x => x.1 ≤ (ops.getD i default).2.2.2.length ∧ x.2.2.length = (ops.getD i default).2.2.2.length) (fun x => (ops.getD i default).2.2.2.length - x.1) (0, _, (ops.getD i default).2.2.2) ⟨Nat.zero_le _, rfl⟩ (fun x hx ih5 => ?_))) ⟨rfl, rfl, rfl, rfl, rfl, rfl, trivial⟩ (Grew.of (Eq.trans (frc (frl (frl rfl)) rfl) (congrArg (· * _) (congrArg (· * _) (congrArg (· * _) (asg as1))))) (Grew.refl _))
                obtain ⟨q, J5, zs⟩ := x
                simp only at hx ih5 ⊢
                obtain ⟨hq, hzl⟩ := hx
                rcases Nat.lt_or_ge q (ops.getD i default).2.2.2.length with hq1 | hq1
                · refine Run.seq ?_
                  refine Run.seq ?_
                  refine Run.region ?_
                  refine RunL.ok (OpOk.move rfl) rfl ?_
                  refine RunL.ok (OpOk.move rfl) rfl ?_
                  refine RunL.know (fun w s => (s.conv rfl).ownRd0) (fun rdq1 => ?_)
                  refine RunL.ok (OpOk.lenR rfl rfl (Rd.right rdq1) rfl) rfl ?_
                  refine RunL.ok (OpOk.asT (OpOk.lss rfl rfl) (by omega)) rfl ?_
                  refine RunL.nil ?_
                  refine Run.condT rfl ?_
                  refine Run.skip ?_
                  refine Run.seq ?_
                  refine Run.block ?_
                  refine Run.region ?_
                  refine RunL.ok (OpOk.move rfl) rfl ?_
                  refine RunL.ok (OpOk.move rfl) rfl ?_
                  refine RunL.ok (OpOk.move rfl) rfl ?_
                  refine RunL.ok (OpOk.move rfl) rfl ?_
                  refine RunL.ok (OpOk.idx1N rfl ti5 rfl (Rd.right rdq1) rfl (by omega)) rfl ?_
                  refine RunL.ok (OpOk.load rfl rfl rfl (Rd.getB (Rd.right rdq1) (by omega))) rfl ?_
                  refine RunL.ok (OpOk.xor rfl rfl (x255 _)) rfl ?_
                  refine RunL.ok (OpOk.idx1N rfl ti5 rfl (Rd.right rdq1) rfl (by omega)) rfl ?_
                  refine RunL.storeB _ ti5 rfl rfl rfl rfl (by omega) ?_
                  refine RunL.nil ?_
                  refine Run.inBlock ?_
                  refine Run.region ?_
                  refine RunL.ok (OpOk.move rfl) rfl ?_
                  refine RunL.ok (OpOk.addN _ 1 rfl rfl rfl rfl (by omega)) rfl ?_
                  refine RunL.ok (OpOk.assign rfl) rfl ?_
                  refine RunL.nil ?_
                  refine Run.jump ((ih5 (q + 1, _, _) ⟨by dsimp only; omega, by simp [hzl]⟩ (by dsimp only; omega))) ⟨rfl, rfl, rfl, rfl, rfl, rfl, trivial⟩ (Grew.of (congrArg (· * _) (congrArg (· * _) (congrArg (· * _) as1))) (Grew.refl _))
                · obtain rfl : q = (ops.getD i default).2.2.2.length := by omega
                  clear ih5
                  refine Run.seq ?_
                  refine Run.seq ?_
                  refine Run.region ?_
                  refine RunL.ok (OpOk.move rfl) rfl ?_
                  refine RunL.ok (OpOk.move rfl) rfl ?_
                  refine RunL.know (fun w s => (s.conv rfl).ownRd0) (fun rdq1 => ?_)
                  refine RunL.ok (OpOk.lenR rfl rfl (Rd.right rdq1) rfl) rfl ?_
                  refine RunL.ok (OpOk.asF (OpOk.lss rfl rfl) (by omega)) rfl ?_
                  refine RunL.nil ?_
                  refine Run.condF rfl ?_
                  refine Run.exit rfl ?_
                  refine Run.inBlock ?_
                  refine Run.region ?_
                  refine RunL.ok (OpOk.move rfl) rfl ?_
                  refine RunL.ok (OpOk.addN _ 1 rfl rfl rfl rfl (by omega)) rfl ?_
                  refine RunL.ok (OpOk.assign rfl) rfl ?_
                  refine RunL.nil ?_
                  refine Run.jump ((ih (i + 1, _, xs, w, rw) ⟨by dsimp only; omega, by dsimp only; omega, hB1, hB2, hB3⟩ (by dsimp only; omega))) ⟨rfl, rfl, rfl, rfl, trivial⟩ (Grew.of (Eq.trans (frc (frl rfl) (frc (frl rfl) rfl)) (congrArg (· * _) (congrArg (· * _) (asg as1)))) (Grew.refl _))
              refine Run.exit rfl ?_
              refine Run.seq ?_
              (apply Run.drawD [] (by rfl) (Eq.trans (frc (frl rfl) rfl) rfl); case hchk => kernel_rfl)
              refine Sd.quiet 0 _ _ rfl rfl rfl rfl rfl (QOp.ok (fun X => OpOk.move rfl)) ?_
              refine Sd.quiet 3 _ _ rfl rfl rfl rfl rfl (QOp.ok (fun X => OpOk.move rfl)) ?_
              refine Sd.quiet 4 _ _ rfl rfl rfl rfl rfl (QOp.ok (fun X => OpOk.nilOk rfl)) ?_
              refine Sd.quiet 5 _ _ rfl rfl rfl rfl rfl (QOp.ok (fun X => OpOk.fieldAddr fld57_0 rfl)) ?_
              refine Sd.quiet 6 _ _ rfl rfl rfl rfl rfl (QOp.ok (fun X => OpOk.load rfl rfl rfl (Blk.out Blk.pts.left.left _ _ (by first | rfl | assumption)))) ?_
              (refine Sd.exec 1 rfl rfl rfl rfl rfl ?hrest (by rfl) (fun Xy12 Ky12 hKy12 => ?_); case hrest => kernel_rfl)
              refine RunL.mem (fl2 (sep_emp _) rfl) ?_
              refine RunL.call cal26 rfl (s26 (by assumption)) rfl (fun vy13 Ay13 hy13 => ?_)
              obtain rfl := hy13
              refine RunL.know (fun w s => (s.conv rfl).ownRd0) (fun rdy14 => ?_)
              refine Sd.ret hKy12 (Eq.trans rfl (gp2 (sep_emp _).symm (asg rfl))) ⟨_, (emp_sep _).symm⟩ ?_
              refine Sd.quiet 2 _ _ rfl rfl rfl rfl rfl (QOp.ok (fun X => OpOk.strOf rfl rfl rfl rfl (Rd.right (Rd.right rdy14)).left)) ?_
              refine Sd.quiet 7 _ _ rfl rfl rfl rfl rfl (QOp.ok (fun X => OpOk.eqlSS rfl rfl)) ?_
              refine Sd.quiet 8 _ _ rfl rfl rfl rfl rfl (QOp.ok (fun X => OpOk.assign rfl)) ?_
              (apply Sd.tail; case hall => kernel_rfl)
              refine RunL.mem (fl2 (flS rfl) (sep_emp _)) ?_
              refine RunL.nil ?_
              refine Run.ret1 Try.func6 rfl rfl ?_
              rw [decide_eq_true (by first | omega | with_reducible rfl | assumption)]
              exact ⟨rfl, ⟨_, (asg (asg (asg as1)))⟩⟩
            · refine Run.seq ?_
              refine Run.seq ?_
              refine Run.region ?_
              refine RunL.ok (OpOk.move rfl) rfl ?_
              refine RunL.ok (OpOk.move rfl) rfl ?_
              refine RunL.ok (OpOk.lenR rfl rfl rd.left.left.left rfl) rfl ?_
              refine RunL.ok (OpOk.asT (OpOk.lss rfl rfl) (by omega)) rfl ?_
              refine RunL.ok (OpOk.move rfl) rfl ?_
              refine RunL.on rfl rfl ?_
              refine RunL.ok (OpOk.move rfl) rfl ?_
              refine RunL.on rfl rfl ?_
              refine RunL.ok (OpOk.lss rfl rfl) rfl ?_
              refine RunL.ok (OpOk.pickT rfl rfl) rfl ?_
              refine RunL.nil ?_
              refine Run.condD rfl (fun y1 => ?_) (fun y1 => ?_)
              · refine Run.skip ?_
                refine Run.seq ?_
                refine Run.block ?_
                refine Run.seq ?_
                refine Run.region ?_
                refine RunL.ok (OpOk.move rfl) rfl ?_
                refine RunL.ok (OpOk.move rfl) rfl ?_
                refine RunL.ok (OpOk.idxN rfl ti54 rfl rd.left.left.left rfl (by omega)) rfl ?_
                refine RunL.ok (OpOk.loadFl default rfl rfl ti54 rfl rd.left.left.left (fun _ => rfl) rfl (by omega)) rfl ?_
                refine RunL.alloc ti54 rfl (fun by2 => ?_)
                refine RunL.storeAll ti54 rfl rfl rfl (by assumption) rfl rfl ?_
                refine RunL.nil ?_
                refine Run.seq ?_
                refine Run.region ?_
                refine RunL.lit0B rfl ti5 rfl (fun vy3 rdy3 => ?_)
                refine RunL.ok (OpOk.fieldAddr fld54_2 rfl) rfl ?_
                refine RunL.ok (OpOk.load rfl rfl rfl (Blk.out Blk.pts.left _ _ (by first | rfl | assumption))) rfl ?_
                refine RunL.appendB0 rfl ti5 rfl rfl rfl rfl rd3.left.left.left.left.left (by omega) rfl (fun vy4 rdy4 => ?_)
                refine RunL.ok (OpOk.assign rfl) rfl ?_
                refine RunL.nil ?_
                refine Run.seq ?_
                refine Run.region ?_
                refine RunL.ok (OpOk.assign rfl) rfl ?_
                refine RunL.nil ?_
                refine Run.seq ?_
                refine Run.seq ?_
                refine Run.region ?_
                refine RunL.ok (OpOk.fieldAddr fld54_0 rfl) rfl ?_
                refine RunL.ok (OpOk.load rfl rfl rfl (Blk.out Blk.pts.left _ _ (by first | rfl | assumption))) rfl ?_
                refine RunL.nil ?_
                refine Run.block ?_
                refine Run.seq ?_
                refine Run.region ?_
                refine RunL.ok (OpOk.asF (OpOk.eql rfl rfl) (by omega)) rfl ?_
                refine RunL.ok (OpOk.assign rfl) rfl ?_
                refine RunL.nil ?_
                refine Run.condF rfl ?_
                refine Run.seq ?_
                refine Run.region ?_
                refine RunL.ok (OpOk.asF (OpOk.eql rfl rfl) (by omega)) rfl ?_
                refine RunL.ok (OpOk.assign rfl) rfl ?_
                refine RunL.nil ?_
                refine Run.condF rfl ?_
                refine Run.seq ?_
                refine Run.region ?_
                refine RunL.ok (OpOk.asT (OpOk.eql rfl rfl) (by omega)) rfl ?_
                refine RunL.ok (OpOk.assign rfl) rfl ?_
                refine RunL.nil ?_
                refine Run.condT rfl ?_
                refine Run.know (fun w s => (s.conv rfl).ownRd0) (fun rdy5 => ?_)
                refine Run.drop [8] ?_
                (apply Run.drawD [] (by rfl) (Eq.trans (frc (frl (frl rfl)) (frc (frl (frl rfl)) rfl)) (asg rfl)); case hchk => kernel_rfl)
                refine Sd.quiet 0 _ _ rfl rfl rfl rfl rfl (QOp.ok (fun X => OpOk.move rfl)) ?_
                refine Sd.quiet 1 _ _ rfl rfl rfl rfl rfl (QOp.ok (fun X => OpOk.move rfl)) ?_
                refine Sd.quiet 3 _ _ rfl rfl rfl rfl rfl (QOp.ok (fun X => OpOk.move rfl)) ?_
                refine Sd.quiet 4 _ _ rfl rfl rfl rfl rfl (QOp.ok (fun X => OpOk.fieldAddr fld54_2 rfl)) ?_
                refine Sd.quiet 5 _ _ rfl rfl rfl rfl rfl (QOp.ok (fun X => OpOk.load rfl rfl rfl (Blk.out Blk.pts.left.left.left _ _ (by first | rfl | assumption)))) ?_
                (refine Sd.exec 2 rfl rfl rfl rfl rfl ?hrest (by rfl) (fun Xy6 Ky6 hKy6 => ?_); case hrest => kernel_rfl)
                refine RunL.mem (fl2 (sep_emp _) (flS rfl)) ?_
                refine RunL.mem (frc (frl rfl) rfl) ?_
                refine RunL.call cal22 rfl (s22c (Rd.right rdy5).left.left (by omega) (by assumption)) rfl (fun vy9 Ay9 hy9 => ?_)
                obtain ⟨rfl, rfl⟩ := hy9
                refine Sd.ret hKy6 (Eq.trans (frc (frl rfl) rfl) (gp2 rfl rfl)) ⟨_, (emp_sep _).symm⟩ ?_
                (refine Sd.exec 6 rfl rfl rfl rfl rfl ?hrest (by rfl) (fun Xy10 Ky10 hKy10 => ?_); case hrest => kernel_rfl)
                refine RunL.mem (fl2 rfl rfl) ?_
                refine RunL.call cal25 rfl (s25c rd3.left.left.left.left.left (by omega)) rfl (fun vy13 Ay13 hy13 => ?_)
                obtain ⟨rfl, rfl⟩ := hy13
                refine Sd.ret hKy10 (Eq.trans rfl (gp2 (sep_emp _).symm (asg rfl))) ⟨_, rfl⟩ ?_
                refine Sd.quiet 7 _ _ rfl rfl rfl rfl rfl (QOp.ok (fun X => OpOk.asT (OpOk.eql rfl rfl) (by omega))) ?_
                refine Sd.quiet 8 _ _ rfl rfl rfl rfl rfl (QOp.ok (fun X => OpOk.assign rfl)) ?_
                (apply Sd.tail; case hall => kernel_rfl)
                refine RunL.mem (fl2 (flS rfl) (sep_emp _)) ?_
                refine RunL.nil ?_
                refine Run.inBlock ?_
                refine Run.seq ?_
                refine Run.seq ?_
                refine Run.region ?_
                refine RunL.ok (OpOk.move rfl) rfl ?_
                refine RunL.ok (OpOk.not rfl) rfl ?_
                refine RunL.ok (OpOk.move rfl) rfl ?_
                refine RunL.on rfl rfl ?_
                refine RunL.ok (OpOk.move rfl) rfl ?_
                refine RunL.on rfl rfl ?_
                refine RunL.ok (OpOk.strOf rfl rfl rfl rfl (Rd.right rdy5).left.left) rfl ?_
                refine RunL.on rfl rfl ?_
                refine RunL.ok (OpOk.fieldAddr fld54_2 rfl) rfl ?_
                refine RunL.on rfl rfl ?_
                refine RunL.ok (OpOk.load rfl rfl rfl (Blk.out Blk.pts.left.left.left _ _ (by first | rfl | assumption))) rfl ?_
                refine RunL.on rfl rfl ?_
                refine RunL.ok (OpOk.strOf rfl rfl rfl rfl rd3.left.left.left.left.left) rfl ?_
                refine RunL.on rfl rfl ?_
                refine RunL.ok (OpOk.neqSS rfl rfl) rfl ?_
                refine RunL.ok (OpOk.pickF rfl rfl) rfl ?_
                refine RunL.nil ?_
                refine Run.condNF rfl (by first | omega | with_reducible rfl | assumption) ?_
                refine Run.skip ?_
                refine Run.seq ?_
                refine Run.region ?_
                refine RunL.ok (OpOk.assign rfl) rfl ?_
                refine RunL.nil ?_
                refine Run.block ?_
                have hB1 : (ops.getD i default).2.2.2.length = 512 := by omega
                refine Run.jump ((Run.loopJ (X := Nat × Asn × List UInt8) (fun x => [(16, .int .i64 (x.1 : Int)), (7, vy4), (5, .int .i64 (i : Int)), (4, .pointer (some ⟨x6, 0, none⟩)), (3, .pointer (some ⟨x4, 0, none⟩)), (0, u)]) (fun x => old w0 * x.2.1 * pts x4 (.cells (B ((ops.getD i default).2.2.2) ++ [Value.int .i64 (w)]).toArray 95 (0, 0)) * pts x6 (.cells #[S ((ops.getD i default).2.2.2), .int .i64 (rw)] 57 (0, 0)) * own 5 1 vy4 (ops.getD i default).2.2.2.length (B x.2.2)) (fun x => x.1 ≤ (ops.getD i default).2.2.2.length ∧ x.2.2.length = (ops.getD i default).2.2.2.length) (fun x => (ops.getD i default).2.2.2.length - x.1) (0, _, (ops.getD i default).2.2.2) ⟨Nat.zero_le _, rfl⟩ (fun x hx ih5 => ?_))) ⟨rfl, rfl, rfl, rfl, rfl, rfl, trivial⟩ (Grew.of (Eq.trans (frc (frl (frl rfl)) rfl) (congrArg (· * _) (congrArg (· * _) (congrArg (· * _) (asg as1))))) (Grew.refl _))
                obtain ⟨q, J5, zs⟩ := x
                simp only at hx ih5 ⊢
                obtain ⟨hq, hzl⟩ := hx
                rcases Nat.lt_or_ge q (ops.getD i default).2.2.2.length with hq1 | hq1
                · refine Run.seq ?_
                  refine Run.seq ?_
                  refine Run.region ?_
                  refine RunL.ok (OpOk.move rfl) rfl ?_
                  refine RunL.ok (OpOk.move rfl) rfl ?_
                  refine RunL.know (fun w s => (s.conv rfl).ownRd0) (fun rdq1 => ?_)
                  refine RunL.ok (OpOk.lenR rfl rfl (Rd.right rdq1) rfl) rfl ?_
                  refine RunL.ok (OpOk.asT (OpOk.lss rfl rfl) (by omega)) rfl ?_
                  refine RunL.nil ?_
                  refine Run.condT rfl ?_
                  refine Run.skip ?_
                  refine Run.seq ?_
                  refine Run.block ?_
                  refine Run.region ?_
                  refine RunL.ok (OpOk.move rfl) rfl ?_
                  refine RunL.ok (OpOk.move rfl) rfl ?_
                  refine RunL.ok (OpOk.move rfl) rfl ?_
                  refine RunL.ok (OpOk.move rfl) rfl ?_
                  refine RunL.ok (OpOk.idx1N rfl ti5 rfl (Rd.right rdq1) rfl (by omega)) rfl ?_
                  refine RunL.ok (OpOk.load rfl rfl rfl (Rd.getB (Rd.right rdq1) (by omega))) rfl ?_
                  refine RunL.ok (OpOk.xor rfl rfl (x255 _)) rfl ?_
                  refine RunL.ok (OpOk.idx1N rfl ti5 rfl (Rd.right rdq1) rfl (by omega)) rfl ?_
                  refine RunL.storeB _ ti5 rfl rfl rfl rfl (by omega) ?_
                  refine RunL.nil ?_
                  refine Run.inBlock ?_
                  refine Run.region ?_
                  refine RunL.ok (OpOk.move rfl) rfl ?_
                  refine RunL.ok (OpOk.addN _ 1 rfl rfl rfl rfl (by omega)) rfl ?_
                  refine RunL.ok (OpOk.assign rfl) rfl ?_
                  refine RunL.nil ?_
                  refine Run.jump ((ih5 (q + 1, _, _) ⟨by dsimp only; omega, by simp [hzl]⟩ (by dsimp only; omega))) ⟨rfl, rfl, rfl, rfl, rfl, rfl, trivial⟩ (Grew.of (congrArg (· * _) (congrArg (· * _) (congrArg (· * _) as1))) (Grew.refl _))
                · obtain rfl : q = (ops.getD i default).2.2.2.length := by omega
                  clear ih5
                  refine Run.seq ?_
                  refine Run.seq ?_
                  refine Run.region ?_
                  refine RunL.ok (OpOk.move rfl) rfl ?_
                  refine RunL.ok (OpOk.move rfl) rfl ?_
                  refine RunL.know (fun w s => (s.conv rfl).ownRd0) (fun rdq1 => ?_)
                  refine RunL.ok (OpOk.lenR rfl rfl (Rd.right rdq1) rfl) rfl ?_
                  refine RunL.ok (OpOk.asF (OpOk.lss rfl rfl) (by omega)) rfl ?_
                  refine RunL.nil ?_
                  refine Run.condF rfl ?_
                  refine Run.exit rfl ?_
                  refine Run.inBlock ?_
                  refine Run.region ?_
                  refine RunL.ok (OpOk.move rfl) rfl ?_
                  refine RunL.ok (OpOk.addN _ 1 rfl rfl rfl rfl (by omega)) rfl ?_
                  refine RunL.ok (OpOk.assign rfl) rfl ?_
                  refine RunL.nil ?_
                  refine Run.jump ((ih (i + 1, _, (ops.getD i default).2.2.2, w, rw) ⟨by dsimp only; omega, by dsimp only; omega, hB1, hB2, hB3⟩ (by dsimp only; omega))) ⟨rfl, rfl, rfl, rfl, trivial⟩ (Grew.of (Eq.trans (frc (frl rfl) (frc (frl rfl) rfl)) (congrArg (· * _) (congrArg (· * _) (asg as1)))) (Grew.refl _))
              refine Run.exit rfl ?_
              refine Run.seq ?_
              (apply Run.drawD [] (by rfl) (Eq.trans (frc (frl rfl) rfl) rfl); case hchk => kernel_rfl)
              refine Sd.quiet 0 _ _ rfl rfl rfl rfl rfl (QOp.ok (fun X => OpOk.move rfl)) ?_
              refine Sd.quiet 3 _ _ rfl rfl rfl rfl rfl (QOp.ok (fun X => OpOk.move rfl)) ?_
              refine Sd.quiet 4 _ _ rfl rfl rfl rfl rfl (QOp.ok (fun X => OpOk.nilOk rfl)) ?_
              refine Sd.quiet 5 _ _ rfl rfl rfl rfl rfl (QOp.ok (fun X => OpOk.fieldAddr fld57_0 rfl)) ?_
              refine Sd.quiet 6 _ _ rfl rfl rfl rfl rfl (QOp.ok (fun X => OpOk.load rfl rfl rfl (Blk.out Blk.pts.left.left _ _ (by first | rfl | assumption)))) ?_
              (refine Sd.exec 1 rfl rfl rfl rfl rfl ?hrest (by rfl) (fun Xy14 Ky14 hKy14 => ?_); case hrest => kernel_rfl)
              refine RunL.mem (fl2 (sep_emp _) rfl) ?_
              refine RunL.call cal26 rfl (s26 (by assumption)) rfl (fun vy15 Ay15 hy15 => ?_)
              obtain rfl := hy15
              refine RunL.know (fun w s => (s.conv rfl).ownRd0) (fun rdy16 => ?_)
              refine Sd.ret hKy14 (Eq.trans rfl (gp2 (sep_emp _).symm (asg rfl))) ⟨_, (emp_sep _).symm⟩ ?_
              refine Sd.quiet 2 _ _ rfl rfl rfl rfl rfl (QOp.ok (fun X => OpOk.strOf rfl rfl rfl rfl (Rd.right (Rd.right rdy16)).left)) ?_
              refine Sd.quiet 7 _ _ rfl rfl rfl rfl rfl (QOp.ok (fun X => OpOk.eqlSS rfl rfl)) ?_
              refine Sd.quiet 8 _ _ rfl rfl rfl rfl rfl (QOp.ok (fun X => OpOk.assign rfl)) ?_
              (apply Sd.tail; case hall => kernel_rfl)
              refine RunL.mem (fl2 (flS rfl) (sep_emp _)) ?_
              refine RunL.nil ?_
              refine Run.ret1 Try.func6 rfl rfl ?_
              rw [decide_eq_true (by first | omega | with_reducible rfl | assumption)]
              exact ⟨rfl, ⟨_, (asg (asg (asg as1)))⟩⟩
        · rcases Decidable.em ((ops.getD i default).1 = 3) with k3 | k3
          · refine Run.seq ?_
            refine Run.seq ?_
            refine Run.region ?_
            refine RunL.ok (OpOk.move rfl) rfl ?_
            refine RunL.ok (OpOk.move rfl) rfl ?_
            refine RunL.ok (OpOk.lenR rfl rfl rd.left.left.left rfl) rfl ?_
            refine RunL.ok (OpOk.asT (OpOk.lss rfl rfl) (by omega)) rfl ?_
            refine RunL.ok (OpOk.move rfl) rfl ?_
            refine RunL.on rfl rfl ?_
            refine RunL.ok (OpOk.move rfl) rfl ?_
            refine RunL.on rfl rfl ?_
            refine RunL.ok (OpOk.lss rfl rfl) rfl ?_
            refine RunL.ok (OpOk.pickT rfl rfl) rfl ?_
            refine RunL.nil ?_
            refine Run.condD rfl (fun y1 => ?_) (fun y1 => ?_)
            · refine Run.skip ?_
              refine Run.seq ?_
              refine Run.block ?_
              refine Run.seq ?_
              refine Run.region ?_
              refine RunL.ok (OpOk.move rfl) rfl ?_
              refine RunL.ok (OpOk.move rfl) rfl ?_
              refine RunL.ok (OpOk.idxN rfl ti54 rfl rd.left.left.left rfl (by omega)) rfl ?_
              refine RunL.ok (OpOk.loadFl default rfl rfl ti54 rfl rd.left.left.left (fun _ => rfl) rfl (by omega)) rfl ?_
              refine RunL.alloc ti54 rfl (fun by2 => ?_)
              refine RunL.storeAll ti54 rfl rfl rfl (by assumption) rfl rfl ?_
              refine RunL.nil ?_
              refine Run.seq ?_
              refine Run.region ?_
              refine RunL.lit0B rfl ti5 rfl (fun vy3 rdy3 => ?_)
              refine RunL.ok (OpOk.fieldAddr fld54_2 rfl) rfl ?_
              refine RunL.ok (OpOk.load rfl rfl rfl (Blk.out Blk.pts.left _ _ (by first | rfl | assumption))) rfl ?_
              refine RunL.appendB0 rfl ti5 rfl rfl rfl rfl rd3.left.left.left.left.left (by omega) rfl (fun vy4 rdy4 => ?_)
              refine RunL.ok (OpOk.assign rfl) rfl ?_
              refine RunL.nil ?_
              refine Run.seq ?_
              refine Run.region ?_
              refine RunL.ok (OpOk.assign rfl) rfl ?_
              refine RunL.nil ?_
              refine Run.seq ?_
              refine Run.seq ?_
              refine Run.region ?_
              refine RunL.ok (OpOk.fieldAddr fld54_0 rfl) rfl ?_
              refine RunL.ok (OpOk.load rfl rfl rfl (Blk.out Blk.pts.left _ _ (by first | rfl | assumption))) rfl ?_
              refine RunL.nil ?_
              refine Run.block ?_
              refine Run.seq ?_
              refine Run.region ?_
              refine RunL.ok (OpOk.asF (OpOk.eql rfl rfl) (by omega)) rfl ?_
              refine RunL.ok (OpOk.assign rfl) rfl ?_
              refine RunL.nil ?_
              refine Run.condF rfl ?_
              refine Run.seq ?_
              refine Run.region ?_
              refine RunL.ok (OpOk.asF (OpOk.eql rfl rfl) (by omega)) rfl ?_
              refine RunL.ok (OpOk.assign rfl) rfl ?_
              refine RunL.nil ?_
              refine Run.condF rfl ?_
              refine Run.seq ?_
              refine Run.region ?_
              refine RunL.ok (OpOk.asF (OpOk.eql rfl rfl) (by omega)) rfl ?_
              refine RunL.ok (OpOk.assign rfl) rfl ?_
              refine RunL.nil ?_
              refine Run.condF rfl ?_
              refine Run.seq ?_
              refine Run.region ?_
              refine RunL.ok (OpOk.asT (OpOk.eql rfl rfl) (by omega)) rfl ?_
              refine RunL.ok (OpOk.assign rfl) rfl ?_
              refine RunL.nil ?_
              refine Run.condT rfl ?_
              refine Run.seq ?_
              refine Run.region ?_
              refine RunL.ok (OpOk.move rfl) rfl ?_
              refine RunL.mem (frc (frl (frl (frl rfl))) rfl) ?_
              refine RunL.call cal26 rfl (s26 (by assumption)) rfl (fun vy5 Ay5 hy5 => ?_)
              obtain rfl := hy5
              refine RunL.ok (OpOk.assign rfl) rfl ?_
              refine RunL.nil ?_
              refine Run.seq ?_
              refine Run.know (fun w s => (s.conv (frl (frl rfl))).ownRd0) (fun rdy6 => ?_)
              refine Run.know (fun w s => (s.conv rfl).ownRd0) (fun rdy7 => ?_)
              refine Run.drop [8] ?_
              (apply Run.drawD [] (by rfl) (sep_emp _).symm; case hchk => kernel_rfl)
              refine Sd.quiet 0 _ _ rfl rfl rfl rfl rfl (QOp.ok (fun X => OpOk.move rfl)) ?_
              refine Sd.quiet 1 _ _ rfl rfl rfl rfl rfl (QOp.ok (fun X => OpOk.strOf rfl rfl rfl rfl (Rd.right rdy7).left.left)) ?_
              refine Sd.quiet 2 _ _ rfl rfl rfl rfl rfl (QOp.ok (fun X => OpOk.move rfl)) ?_
              refine Sd.quiet 3 _ _ rfl rfl rfl rfl rfl (QOp.ok (fun X => OpOk.nilOk rfl)) ?_
              refine Sd.quiet 4 _ _ rfl rfl rfl rfl rfl (QOp.ok (fun X => OpOk.fieldAddr fld57_0 rfl)) ?_
              refine Sd.quiet 5 _ _ rfl rfl rfl rfl rfl (QOp.ok (fun X => OpOk.load rfl rfl rfl (Blk.out Blk.pts.left.left.left.left.left.left _ _ (by first | rfl | assumption)))) ?_
              refine Sd.quiet 6 _ _ rfl rfl rfl rfl rfl (QOp.ok (fun X => OpOk.eqlSS rfl rfl)) ?_
              refine Sd.quiet 7 _ _ rfl rfl rfl rfl rfl (QOp.ok (fun X => OpOk.assign rfl)) ?_
              (apply Sd.tail; case hall => kernel_rfl)
              refine RunL.mem (fl2 (sep_emp _) (sep_emp _)) ?_
              refine RunL.nil ?_
              refine Run.seq ?_
              refine Run.region ?_
              refine RunL.ok (OpOk.assign rfl) rfl ?_
              refine RunL.nil ?_
              refine Run.block ?_
              refine Run.jump ((Run.loopJ (X := Nat × Asn × List UInt8) (fun x => [(10, .int .i64 (x.1 : Int)), (9, vy5), (8, .bool true), (7, vy4), (6, .pointer (some ⟨by2, 0, none⟩)), (5, .int .i64 (i : Int)), (4, .pointer (some ⟨x6, 0, none⟩)), (3, .pointer (some ⟨x4, 0, none⟩)), (0, u)]) (fun x => old w0 * x.2.1 * pts x4 (.cells (B (xs) ++ [Value.int .i64 (w)]).toArray 95 (0, 0)) * pts x6 (.cells #[S (xs), .int .i64 (rw)] 57 (0, 0)) * own 5 1 vy4 (ops.getD i default).2.2.2.length (B (ops.getD i default).2.2.2) * own 5 1 vy5 512 (B x.2.2) * pts by2 (.cells (Value.agg (encCd (ops.getD i default)).toArray).cells 54 (0, 0))) (fun x => x.1 ≤ 512 ∧ x.2.2.length = 512) (fun x => 512 - x.1) (0, _, xs) ⟨Nat.zero_le _, hB1⟩ (fun x hx ih6 => ?_))) ⟨rfl, rfl, lkB rfl (by simp), rfl, rfl, rfl, rfl, rfl, rfl, trivial⟩ (Grew.of (Eq.trans (frc (frl (frl (frl rfl))) (frc rfl (frc (frl rfl) (frc (frl rfl) rfl)))) (congrArg (· * _) (congrArg (· * _) (congrArg (· * _) (congrArg (· * _) (congrArg (· * _) as1)))))) (Grew.refl _))
              obtain ⟨q, J6, zs⟩ := x
              simp only at hx ih6 ⊢
              obtain ⟨hq, hzl⟩ := hx
              rcases Nat.lt_or_ge q 512 with hq1 | hq1
              · refine Run.seq ?_
                refine Run.seq ?_
                refine Run.region ?_
                refine RunL.ok (OpOk.move rfl) rfl ?_
                refine RunL.ok (OpOk.move rfl) rfl ?_
                refine RunL.know (fun w s => (s.conv (frl rfl)).ownRd0) (fun rdq1 => ?_)
                refine RunL.ok (OpOk.lenR rfl rfl (Rd.right rdq1).left rfl) rfl ?_
                refine RunL.ok (OpOk.asT (OpOk.lss rfl rfl) (by omega)) rfl ?_
                refine RunL.nil ?_
                refine Run.condT rfl ?_
                refine Run.skip ?_
                refine Run.seq ?_
                refine Run.block ?_
                refine Run.region ?_
                refine RunL.ok (OpOk.move rfl) rfl ?_
                refine RunL.ok (OpOk.move rfl) rfl ?_
                refine RunL.ok (OpOk.move rfl) rfl ?_
                refine RunL.ok (OpOk.move rfl) rfl ?_
                refine RunL.ok (OpOk.idx1N rfl ti5 rfl (Rd.right rdq1).left rfl (by omega)) rfl ?_
                refine RunL.ok (OpOk.load rfl rfl rfl (Rd.getB (Rd.right rdq1).left (by omega))) rfl ?_
                refine RunL.ok (OpOk.xor rfl rfl (x255 _)) rfl ?_
                refine RunL.ok (OpOk.idx1N rfl ti5 rfl (Rd.right rdq1).left rfl (by omega)) rfl ?_
                refine RunL.storeB _ ti5 rfl rfl rfl (frl rfl) (by omega) ?_
                refine RunL.nil ?_
                refine Run.inBlock ?_
                refine Run.region ?_
                refine RunL.ok (OpOk.move rfl) rfl ?_
                refine RunL.ok (OpOk.addN _ 1 rfl rfl rfl rfl (by omega)) rfl ?_
                refine RunL.ok (OpOk.assign rfl) rfl ?_
                refine RunL.nil ?_
                refine Run.jump ((ih6 (q + 1, _, _) ⟨by dsimp only; omega, by simp [hzl]⟩ (by dsimp only; omega))) ⟨rfl, rfl, rfl, rfl, rfl, rfl, rfl, rfl, rfl, trivial⟩ (Grew.of (Eq.trans (frc (frl rfl) rfl) (congrArg (· * _) (congrArg (· * _) (congrArg (· * _) (congrArg (· * _) (congrArg (· * _) as1)))))) (Grew.refl _))
              · obtain rfl : q = 512 := by omega
                clear ih6
                refine Run.seq ?_
                refine Run.seq ?_
                refine Run.region ?_
                refine RunL.ok (OpOk.move rfl) rfl ?_
                refine RunL.ok (OpOk.move rfl) rfl ?_
                refine RunL.know (fun w s => (s.conv (frl rfl)).ownRd0) (fun rdz1 => ?_)
                refine RunL.ok (OpOk.lenR rfl rfl (Rd.right rdz1).left rfl) rfl ?_
                refine RunL.ok (OpOk.asF (OpOk.lss rfl rfl) (by omega)) rfl ?_
                refine RunL.nil ?_
                refine Run.condF rfl ?_
                refine Run.exit rfl ?_
                refine Run.inBlock ?_
                refine Run.seq ?_
                refine Run.seq ?_
                refine Run.region ?_
                refine RunL.ok (OpOk.move rfl) rfl ?_
                refine RunL.ok (OpOk.not rfl) rfl ?_
                refine RunL.ok (OpOk.move rfl) rfl ?_
                refine RunL.on rfl rfl ?_
                refine RunL.ok (OpOk.move rfl) rfl ?_
                refine RunL.on rfl rfl ?_
                refine RunL.ok (OpOk.strOf rfl rfl rfl rfl (Rd.right rdy6).left.left) rfl ?_
                refine RunL.on rfl rfl ?_
                refine RunL.ok (OpOk.fieldAddr fld54_2 rfl) rfl ?_
                refine RunL.on rfl rfl ?_
                refine RunL.ok (OpOk.load rfl rfl rfl (Blk.out Blk.pts _ _ (by first | rfl | assumption))) rfl ?_
                refine RunL.on rfl rfl ?_
                refine RunL.ok (OpOk.strOf rfl rfl rfl rfl rd3.left.left.left.left.left.left) rfl ?_
                refine RunL.on rfl rfl ?_
                refine RunL.ok (OpOk.neqSS rfl rfl) rfl ?_
                refine RunL.ok (OpOk.pickF rfl rfl) rfl ?_
                refine RunL.nil ?_
                refine Run.condNF rfl (by first | omega | with_reducible rfl | assumption) ?_
                refine Run.skip ?_
                refine Run.seq ?_
                refine Run.region ?_
                refine RunL.ok (OpOk.assign rfl) rfl ?_
                refine RunL.nil ?_
                refine Run.block ?_
                refine Run.jump ((Run.loopJ (X := Nat × Asn × List UInt8) (fun x => [(16, .int .i64 (x.1 : Int)), (7, vy4), (5, .int .i64 (i : Int)), (4, .pointer (some ⟨x6, 0, none⟩)), (3, .pointer (some ⟨x4, 0, none⟩)), (0, u)]) (fun x => old w0 * x.2.1 * pts x4 (.cells (B (xs) ++ [Value.int .i64 (w)]).toArray 95 (0, 0)) * pts x6 (.cells #[S (xs), .int .i64 (rw)] 57 (0, 0)) * own 5 1 vy4 (ops.getD i default).2.2.2.length (B x.2.2)) (fun x => x.1 ≤ (ops.getD i default).2.2.2.length ∧ x.2.2.length = (ops.getD i default).2.2.2.length) (fun x => (ops.getD i default).2.2.2.length - x.1) (0, _, (ops.getD i default).2.2.2) ⟨Nat.zero_le _, rfl⟩ (fun x hx ih5 => ?_))) ⟨rfl, rfl, rfl, rfl, rfl, rfl, trivial⟩ (Grew.of (Eq.trans (frc (frl (frl rfl)) (frc (frl (frl rfl)) (frc (frl (frl rfl)) rfl))) (congrArg (· * _) (congrArg (· * _) (congrArg (· * _) (asg (asg as1)))))) (Grew.refl _))
                obtain ⟨q, J5, zs⟩ := x
                simp only at hx ih5 ⊢
                obtain ⟨hq, hzl⟩ := hx
                rcases Nat.lt_or_ge q (ops.getD i default).2.2.2.length with hq1 | hq1
                · refine Run.seq ?_
                  refine Run.seq ?_
                  refine Run.region ?_
                  refine RunL.ok (OpOk.move rfl) rfl ?_
                  refine RunL.ok (OpOk.move rfl) rfl ?_
                  refine RunL.know (fun w s => (s.conv rfl).ownRd0) (fun rdq1 => ?_)
                  refine RunL.ok (OpOk.lenR rfl rfl (Rd.right rdq1) rfl) rfl ?_
                  refine RunL.ok (OpOk.asT (OpOk.lss rfl rfl) (by omega)) rfl ?_
                  refine RunL.nil ?_
                  refine Run.condT rfl ?_
                  refine Run.skip ?_
                  refine Run.seq ?_
                  refine Run.block ?_
                  refine Run.region ?_
                  refine RunL.ok (OpOk.move rfl) rfl ?_
                  refine RunL.ok (OpOk.move rfl) rfl ?_
                  refine RunL.ok (OpOk.move rfl) rfl ?_
                  refine RunL.ok (OpOk.move rfl) rfl ?_
                  refine RunL.ok (OpOk.idx1N rfl ti5 rfl (Rd.right rdq1) rfl (by omega)) rfl ?_
                  refine RunL.ok (OpOk.load rfl rfl rfl (Rd.getB (Rd.right rdq1) (by omega))) rfl ?_
                  refine RunL.ok (OpOk.xor rfl rfl (x255 _)) rfl ?_
                  refine RunL.ok (OpOk.idx1N rfl ti5 rfl (Rd.right rdq1) rfl (by omega)) rfl ?_
                  refine RunL.storeB _ ti5 rfl rfl rfl rfl (by omega) ?_
                  refine RunL.nil ?_
                  refine Run.inBlock ?_
                  refine Run.region ?_
                  refine RunL.ok (OpOk.move rfl) rfl ?_
                  refine RunL.ok (OpOk.addN _ 1 rfl rfl rfl rfl (by omega)) rfl ?_
                  refine RunL.ok (OpOk.assign rfl) rfl ?_
                  refine RunL.nil ?_
                  refine Run.jump ((ih5 (q + 1, _, _) ⟨by dsimp only; omega, by simp [hzl]⟩ (by dsimp only; omega))) ⟨rfl, rfl, rfl, rfl, rfl, rfl, trivial⟩ (Grew.of (congrArg (· * _) (congrArg (· * _) (congrArg (· * _) as1))) (Grew.refl _))
                · obtain rfl : q = (ops.getD i default).2.2.2.length := by omega
                  clear ih5
                  refine Run.seq ?_
                  refine Run.seq ?_
                  refine Run.region ?_
                  refine RunL.ok (OpOk.move rfl) rfl ?_
                  refine RunL.ok (OpOk.move rfl) rfl ?_
                  refine RunL.know (fun w s => (s.conv rfl).ownRd0) (fun rdq1 => ?_)
                  refine RunL.ok (OpOk.lenR rfl rfl (Rd.right rdq1) rfl) rfl ?_
                  refine RunL.ok (OpOk.asF (OpOk.lss rfl rfl) (by omega)) rfl ?_
                  refine RunL.nil ?_
                  refine Run.condF rfl ?_
                  refine Run.exit rfl ?_
                  refine Run.inBlock ?_
                  refine Run.region ?_
                  refine RunL.ok (OpOk.move rfl) rfl ?_
                  refine RunL.ok (OpOk.addN _ 1 rfl rfl rfl rfl (by omega)) rfl ?_
                  refine RunL.ok (OpOk.assign rfl) rfl ?_
                  refine RunL.nil ?_
                  refine Run.jump ((ih (i + 1, _, xs, w, rw) ⟨by dsimp only; omega, by dsimp only; omega, hB1, hB2, hB3⟩ (by dsimp only; omega))) ⟨rfl, rfl, rfl, rfl, trivial⟩ (Grew.of (Eq.trans (frc (frl rfl) (frc (frl rfl) rfl)) (congrArg (· * _) (congrArg (· * _) (asg as1)))) (Grew.refl _))
            refine Run.exit rfl ?_
            refine Run.seq ?_
            (apply Run.drawD [] (by rfl) (Eq.trans (frc (frl rfl) rfl) rfl); case hchk => kernel_rfl)
            refine Sd.quiet 0 _ _ rfl rfl rfl rfl rfl (QOp.ok (fun X => OpOk.move rfl)) ?_
            refine Sd.quiet 3 _ _ rfl rfl rfl rfl rfl (QOp.ok (fun X => OpOk.move rfl)) ?_
            refine Sd.quiet 4 _ _ rfl rfl rfl rfl rfl (QOp.ok (fun X => OpOk.nilOk rfl)) ?_
            refine Sd.quiet 5 _ _ rfl rfl rfl rfl rfl (QOp.ok (fun X => OpOk.fieldAddr fld57_0 rfl)) ?_
            refine Sd.quiet 6 _ _ rfl rfl rfl rfl rfl (QOp.ok (fun X => OpOk.load rfl rfl rfl (Blk.out Blk.pts.left.left _ _ (by first | rfl | assumption)))) ?_
            (refine Sd.exec 1 rfl rfl rfl rfl rfl ?hrest (by rfl) (fun Xy8 Ky8 hKy8 => ?_); case hrest => kernel_rfl)
            refine RunL.mem (fl2 (sep_emp _) rfl) ?_
            refine RunL.call cal26 rfl (s26 (by assumption)) rfl (fun vy9 Ay9 hy9 => ?_)
            obtain rfl := hy9
            refine RunL.know (fun w s => (s.conv rfl).ownRd0) (fun rdy10 => ?_)
            refine Sd.ret hKy8 (Eq.trans rfl (gp2 (sep_emp _).symm (asg rfl))) ⟨_, (emp_sep _).symm⟩ ?_
            refine Sd.quiet 2 _ _ rfl rfl rfl rfl rfl (QOp.ok (fun X => OpOk.strOf rfl rfl rfl rfl (Rd.right (Rd.right rdy10)).left)) ?_
            refine Sd.quiet 7 _ _ rfl rfl rfl rfl rfl (QOp.ok (fun X => OpOk.eqlSS rfl rfl)) ?_
            refine Sd.quiet 8 _ _ rfl rfl rfl rfl rfl (QOp.ok (fun X => OpOk.assign rfl)) ?_
            (apply Sd.tail; case hall => kernel_rfl)
            refine RunL.mem (fl2 (flS rfl) (sep_emp _)) ?_
            refine RunL.nil ?_
            refine Run.ret1 Try.func6 rfl rfl ?_
            rw [decide_eq_true (by first | omega | with_reducible rfl | assumption)]
            exact ⟨rfl, ⟨_, (asg (asg (asg as1)))⟩⟩
          · rcases Decidable.em ((ops.getD i default).2.1 < 0 ∨ 15 < (ops.getD i default).2.1) with hn | hn
            · refine Run.seq ?_
              refine Run.seq ?_
              refine Run.region ?_
              refine RunL.ok (OpOk.move rfl) rfl ?_
              refine RunL.ok (OpOk.move rfl) rfl ?_
              refine RunL.ok (OpOk.lenR rfl rfl rd.left.left.left rfl) rfl ?_
              refine RunL.ok (OpOk.asT (OpOk.lss rfl rfl) (by omega)) rfl ?_
              refine RunL.ok (OpOk.move rfl) rfl ?_
              refine RunL.on rfl rfl ?_
              refine RunL.ok (OpOk.move rfl) rfl ?_
              refine RunL.on rfl rfl ?_
              refine RunL.ok (OpOk.lss rfl rfl) rfl ?_
              refine RunL.ok (OpOk.pickT rfl rfl) rfl ?_
              refine RunL.nil ?_
              refine Run.condD rfl (fun y1 => ?_) (fun y1 => ?_)
              · refine Run.skip ?_
                refine Run.seq ?_
                refine Run.block ?_
                refine Run.seq ?_
                refine Run.region ?_
                refine RunL.ok (OpOk.move rfl) rfl ?_
                refine RunL.ok (OpOk.move rfl) rfl ?_
                refine RunL.ok (OpOk.idxN rfl ti54 rfl rd.left.left.left rfl (by omega)) rfl ?_
                refine RunL.ok (OpOk.loadFl default rfl rfl ti54 rfl rd.left.left.left (fun _ => rfl) rfl (by omega)) rfl ?_
                refine RunL.alloc ti54 rfl (fun by2 => ?_)
                refine RunL.storeAll ti54 rfl rfl rfl (by assumption) rfl rfl ?_
                refine RunL.nil ?_
                refine Run.seq ?_
                refine Run.region ?_
                refine RunL.lit0B rfl ti5 rfl (fun vy3 rdy3 => ?_)
                refine RunL.ok (OpOk.fieldAddr fld54_2 rfl) rfl ?_
                refine RunL.ok (OpOk.load rfl rfl rfl (Blk.out Blk.pts.left _ _ (by first | rfl | assumption))) rfl ?_
                refine RunL.appendB0 rfl ti5 rfl rfl rfl rfl rd3.left.left.left.left.left (by omega) rfl (fun vy4 rdy4 => ?_)
                refine RunL.ok (OpOk.assign rfl) rfl ?_
                refine RunL.nil ?_
                refine Run.seq ?_
                refine Run.region ?_
                refine RunL.ok (OpOk.assign rfl) rfl ?_
                refine RunL.nil ?_
                refine Run.seq ?_
                refine Run.seq ?_
                refine Run.region ?_
                refine RunL.ok (OpOk.fieldAddr fld54_0 rfl) rfl ?_
                refine RunL.ok (OpOk.load rfl rfl rfl (Blk.out Blk.pts.left _ _ (by first | rfl | assumption))) rfl ?_
                refine RunL.nil ?_
                refine Run.block ?_
                refine Run.seq ?_
                refine Run.region ?_
                refine RunL.ok (OpOk.asF (OpOk.eql rfl rfl) (by omega)) rfl ?_
                refine RunL.ok (OpOk.assign rfl) rfl ?_
                refine RunL.nil ?_
                refine Run.condF rfl ?_
                refine Run.seq ?_
                refine Run.region ?_
                refine RunL.ok (OpOk.asF (OpOk.eql rfl rfl) (by omega)) rfl ?_
                refine RunL.ok (OpOk.assign rfl) rfl ?_
                refine RunL.nil ?_
                refine Run.condF rfl ?_
                refine Run.seq ?_
                refine Run.region ?_
                refine RunL.ok (OpOk.asF (OpOk.eql rfl rfl) (by omega)) rfl ?_
                refine RunL.ok (OpOk.assign rfl) rfl ?_
                refine RunL.nil ?_
                refine Run.condF rfl ?_
                refine Run.seq ?_
                refine Run.region ?_
                refine RunL.ok (OpOk.asF (OpOk.eql rfl rfl) (by omega)) rfl ?_
                refine RunL.ok (OpOk.assign rfl) rfl ?_
                refine RunL.nil ?_
                refine Run.condF rfl ?_
                refine Run.seq ?_
                refine Run.region ?_
                refine RunL.ok (OpOk.move rfl) rfl ?_
                refine RunL.ok (OpOk.fieldAddr fld54_1 rfl) rfl ?_
                refine RunL.ok (OpOk.load rfl rfl rfl (Blk.out Blk.pts.left _ _ (by first | rfl | assumption))) rfl ?_
                refine RunL.mem (frc (frl (frl (frl rfl))) rfl) ?_
                refine RunL.call cal21 rfl (s21a (by assumption)) rfl (fun vy5 Ay5 hy5 => ?_)
                obtain ⟨rfl, rfl⟩ := hy5
                refine RunL.ok (OpOk.move rfl) rfl ?_
                refine RunL.ok (OpOk.ext20 rfl) rfl ?_
                refine RunL.ok (OpOk.ext21 rfl) rfl ?_
                refine RunL.ok (OpOk.assign rfl) rfl ?_
                refine RunL.ok (OpOk.assign rfl) rfl ?_
                refine RunL.nil ?_
                refine Run.seq ?_
                refine Run.region ?_
                refine RunL.ok (OpOk.move rfl) rfl ?_
                refine RunL.ok (OpOk.fieldAddr fld54_1 rfl) rfl ?_
                refine RunL.ok (OpOk.load rfl rfl rfl (Blk.out Blk.pts.left.left _ _ (by first | rfl | assumption))) rfl ?_
                refine RunL.mem (frc (frl (frl (frl rfl))) rfl) ?_
                refine RunL.call cal27 rfl (s27a (by assumption)) rfl (fun vy6 Ay6 hy6 => ?_)
                obtain ⟨rfl, rfl⟩ := hy6
                refine RunL.ok (OpOk.move rfl) rfl ?_
                refine RunL.ok (OpOk.ext20 rfl) rfl ?_
                refine RunL.ok (OpOk.ext21 rfl) rfl ?_
                refine RunL.ok (OpOk.assign rfl) rfl ?_
                refine RunL.ok (OpOk.assign rfl) rfl ?_
                refine RunL.nil ?_
                refine Run.seq ?_
                refine Run.region ?_
                refine RunL.ok (OpOk.move rfl) rfl ?_
                refine RunL.ok (OpOk.strOf rfl rfl rfl rfl (show Rd _ _ (Value.slice none 0 0) 1 0 (B []) from Rd.nil 1)) rfl ?_
                refine RunL.ok (OpOk.move rfl) rfl ?_
                refine RunL.ok (OpOk.eqlSS rfl rfl) rfl ?_
                refine RunL.ok (OpOk.move rfl) rfl ?_
                refine RunL.on rfl rfl ?_
                refine RunL.ok (OpOk.move rfl) rfl ?_
                refine RunL.on rfl rfl ?_
                refine RunL.ok (OpOk.move rfl) rfl ?_
                refine RunL.on rfl rfl ?_
                refine RunL.ok (OpOk.asT (OpOk.eql rfl rfl) (by omega)) rfl ?_
                refine RunL.ok (OpOk.pickT rfl rfl) rfl ?_
                refine RunL.ok (OpOk.assign rfl) rfl ?_
                refine RunL.nil ?_
                refine Run.seq ?_
                refine Run.region ?_
                refine RunL.ok (OpOk.assign rfl) rfl ?_
                refine RunL.nil ?_
                refine Run.block ?_
                refine Run.jump ((Run.loopJ (X := Asn) (fun x => [(15, .int .i64 0), (11, .slice none 0 0), (8, .bool true), (7, vy4), (6, .pointer (some ⟨by2, 0, none⟩)), (5, .int .i64 (i : Int)), (4, .pointer (some ⟨x6, 0, none⟩)), (3, .pointer (some ⟨x4, 0, none⟩)), (0, u)]) (fun x => old w0 * x * pts x4 (.cells (B (xs) ++ [Value.int .i64 (w)]).toArray 95 (0, 0)) * pts x6 (.cells #[S (xs), .int .i64 (rw)] 57 (0, 0)) * own 5 1 vy4 (ops.getD i default).2.2.2.length (B (ops.getD i default).2.2.2) * pts by2 (.cells (Value.agg (encCd (ops.getD i default)).toArray).cells 54 (0, 0))) (fun _ => True) (fun x => 0) _ trivial (fun x hx ih6 => ?_))) ⟨rfl, rfl, rfl, rfl, rfl, rfl, rfl, rfl, rfl, trivial⟩ (Grew.of (Eq.trans (frc (frl (frl (frl rfl))) (frc (frl (frl rfl)) rfl)) (congrArg (· * _) (congrArg (· * _) (congrArg (· * _) (congrArg (· * _) as1))))) (Grew.refl _))
                clear ih6
                refine Run.seq ?_
                refine Run.seq ?_
                refine Run.region ?_
                refine RunL.ok (OpOk.move rfl) rfl ?_
                refine RunL.ok (OpOk.move rfl) rfl ?_
                refine RunL.ok (OpOk.lenV rfl rfl rfl) rfl ?_
                refine RunL.ok (OpOk.asF (OpOk.lss rfl rfl) (by omega)) rfl ?_
                refine RunL.nil ?_
                refine Run.condF rfl ?_
                refine Run.exit rfl ?_
                refine Run.inBlock ?_
                refine Run.seq ?_
                refine Run.seq ?_
                refine Run.region ?_
                refine RunL.ok (OpOk.move rfl) rfl ?_
                refine RunL.ok (OpOk.not rfl) rfl ?_
                refine RunL.ok (OpOk.move rfl) rfl ?_
                refine RunL.on rfl rfl ?_
                refine RunL.ok (OpOk.move rfl) rfl ?_
                refine RunL.on rfl rfl ?_
                refine RunL.know (fun w s => (s.conv (frl rfl)).ownRd0) (fun rdz1 => ?_)
                refine RunL.ok (OpOk.strOf rfl rfl rfl rfl (Rd.right rdz1).left) rfl ?_
                refine RunL.on rfl rfl ?_
                refine RunL.ok (OpOk.fieldAddr fld54_2 rfl) rfl ?_
                refine RunL.on rfl rfl ?_
                refine RunL.ok (OpOk.load rfl rfl rfl (Blk.out Blk.pts _ _ (by first | rfl | assumption))) rfl ?_
                refine RunL.on rfl rfl ?_
                refine RunL.ok (OpOk.strOf rfl rfl rfl rfl rd3.left.left.left.left.left) rfl ?_
                refine RunL.on rfl rfl ?_
                refine RunL.ok (OpOk.neqSS rfl rfl) rfl ?_
                refine RunL.ok (OpOk.pickF rfl rfl) rfl ?_
                refine RunL.nil ?_
                refine Run.condNF rfl (by first | omega | with_reducible rfl | assumption) ?_
                refine Run.skip ?_
                refine Run.seq ?_
                refine Run.region ?_
                refine RunL.ok (OpOk.assign rfl) rfl ?_
                refine RunL.nil ?_
                refine Run.block ?_
                refine Run.jump ((Run.loopJ (X := Nat × Asn × List UInt8) (fun x => [(16, .int .i64 (x.1 : Int)), (7, vy4), (5, .int .i64 (i : Int)), (4, .pointer (some ⟨x6, 0, none⟩)), (3, .pointer (some ⟨x4, 0, none⟩)), (0, u)]) (fun x => old w0 * x.2.1 * pts x4 (.cells (B (xs) ++ [Value.int .i64 (w)]).toArray 95 (0, 0)) * pts x6 (.cells #[S (xs), .int .i64 (rw)] 57 (0, 0)) * own 5 1 vy4 (ops.getD i default).2.2.2.length (B x.2.2)) (fun x => x.1 ≤ (ops.getD i default).2.2.2.length ∧ x.2.2.length = (ops.getD i default).2.2.2.length) (fun x => (ops.getD i default).2.2.2.length - x.1) (0, _, (ops.getD i default).2.2.2) ⟨Nat.zero_le _, rfl⟩ (fun x hx ih5 => ?_))) ⟨rfl, rfl, rfl, rfl, rfl, rfl, trivial⟩ (Grew.of (Eq.trans (frc (frl rfl) (frc (frl rfl) (frc (frl rfl) rfl))) (congrArg (· * _) (congrArg (· * _) (congrArg (· * _) (asg as1))))) (Grew.refl _))
                obtain ⟨q, J5, zs⟩ := x
                simp only at hx ih5 ⊢
                obtain ⟨hq, hzl⟩ := hx
                rcases Nat.lt_or_ge q (ops.getD i default).2.2.2.length with hq1 | hq1
                · refine Run.seq ?_
                  refine Run.seq ?_
                  refine Run.region ?_
                  refine RunL.ok (OpOk.move rfl) rfl ?_
                  refine RunL.ok (OpOk.move rfl) rfl ?_
                  refine RunL.know (fun w s => (s.conv rfl).ownRd0) (fun rdq1 => ?_)
                  refine RunL.ok (OpOk.lenR rfl rfl (Rd.right rdq1) rfl) rfl ?_
                  refine RunL.ok (OpOk.asT (OpOk.lss rfl rfl) (by omega)) rfl ?_
                  refine RunL.nil ?_
                  refine Run.condT rfl ?_
                  refine Run.skip ?_
                  refine Run.seq ?_
                  refine Run.block ?_
                  refine Run.region ?_
                  refine RunL.ok (OpOk.move rfl) rfl ?_
                  refine RunL.ok (OpOk.move rfl) rfl ?_
                  refine RunL.ok (OpOk.move rfl) rfl ?_
                  refine RunL.ok (OpOk.move rfl) rfl ?_
                  refine RunL.ok (OpOk.idx1N rfl ti5 rfl (Rd.right rdq1) rfl (by omega)) rfl ?_
                  refine RunL.ok (OpOk.load rfl rfl rfl (Rd.getB (Rd.right rdq1) (by omega))) rfl ?_
                  refine RunL.ok (OpOk.xor rfl rfl (x255 _)) rfl ?_
                  refine RunL.ok (OpOk.idx1N rfl ti5 rfl (Rd.right rdq1) rfl (by omega)) rfl ?_
                  refine RunL.storeB _ ti5 rfl rfl rfl rfl (by omega) ?_
                  refine RunL.nil ?_
                  refine Run.inBlock ?_
                  refine Run.region ?_
                  refine RunL.ok (OpOk.move rfl) rfl ?_
                  refine RunL.ok (OpOk.addN _ 1 rfl rfl rfl rfl (by omega)) rfl ?_
                  refine RunL.ok (OpOk.assign rfl) rfl ?_
                  refine RunL.nil ?_
                  refine Run.jump ((ih5 (q + 1, _, _) ⟨by dsimp only; omega, by simp [hzl]⟩ (by dsimp only; omega))) ⟨rfl, rfl, rfl, rfl, rfl, rfl, trivial⟩ (Grew.of (congrArg (· * _) (congrArg (· * _) (congrArg (· * _) as1))) (Grew.refl _))
                · obtain rfl : q = (ops.getD i default).2.2.2.length := by omega
                  clear ih5
                  refine Run.seq ?_
                  refine Run.seq ?_
                  refine Run.region ?_
                  refine RunL.ok (OpOk.move rfl) rfl ?_
                  refine RunL.ok (OpOk.move rfl) rfl ?_
                  refine RunL.know (fun w s => (s.conv rfl).ownRd0) (fun rdq1 => ?_)
                  refine RunL.ok (OpOk.lenR rfl rfl (Rd.right rdq1) rfl) rfl ?_
                  refine RunL.ok (OpOk.asF (OpOk.lss rfl rfl) (by omega)) rfl ?_
                  refine RunL.nil ?_
                  refine Run.condF rfl ?_
                  refine Run.exit rfl ?_
                  refine Run.inBlock ?_
                  refine Run.region ?_
                  refine RunL.ok (OpOk.move rfl) rfl ?_
                  refine RunL.ok (OpOk.addN _ 1 rfl rfl rfl rfl (by omega)) rfl ?_
                  refine RunL.ok (OpOk.assign rfl) rfl ?_
                  refine RunL.nil ?_
                  refine Run.jump ((ih (i + 1, _, xs, w, rw) ⟨by dsimp only; omega, by dsimp only; omega, hB1, hB2, hB3⟩ (by dsimp only; omega))) ⟨rfl, rfl, rfl, rfl, trivial⟩ (Grew.of (Eq.trans (frc (frl rfl) (frc (frl rfl) rfl)) (congrArg (· * _) (congrArg (· * _) (asg as1)))) (Grew.refl _))
              refine Run.exit rfl ?_
              refine Run.seq ?_
              (apply Run.drawD [] (by rfl) (Eq.trans (frc (frl rfl) rfl) rfl); case hchk => kernel_rfl)
              refine Sd.quiet 0 _ _ rfl rfl rfl rfl rfl (QOp.ok (fun X => OpOk.move rfl)) ?_
              refine Sd.quiet 3 _ _ rfl rfl rfl rfl rfl (QOp.ok (fun X => OpOk.move rfl)) ?_
              refine Sd.quiet 4 _ _ rfl rfl rfl rfl rfl (QOp.ok (fun X => OpOk.nilOk rfl)) ?_
              refine Sd.quiet 5 _ _ rfl rfl rfl rfl rfl (QOp.ok (fun X => OpOk.fieldAddr fld57_0 rfl)) ?_
              refine Sd.quiet 6 _ _ rfl rfl rfl rfl rfl (QOp.ok (fun X => OpOk.load rfl rfl rfl (Blk.out Blk.pts.left.left _ _ (by first | rfl | assumption)))) ?_
              (refine Sd.exec 1 rfl rfl rfl rfl rfl ?hrest (by rfl) (fun Xy7 Ky7 hKy7 => ?_); case hrest => kernel_rfl)
              refine RunL.mem (fl2 (sep_emp _) rfl) ?_
              refine RunL.call cal26 rfl (s26 (by assumption)) rfl (fun vy8 Ay8 hy8 => ?_)
              obtain rfl := hy8
              refine RunL.know (fun w s => (s.conv rfl).ownRd0) (fun rdy9 => ?_)
              refine Sd.ret hKy7 (Eq.trans rfl (gp2 (sep_emp _).symm (asg rfl))) ⟨_, (emp_sep _).symm⟩ ?_
              refine Sd.quiet 2 _ _ rfl rfl rfl rfl rfl (QOp.ok (fun X => OpOk.strOf rfl rfl rfl rfl (Rd.right (Rd.right rdy9)).left)) ?_
              refine Sd.quiet 7 _ _ rfl rfl rfl rfl rfl (QOp.ok (fun X => OpOk.eqlSS rfl rfl)) ?_
              refine Sd.quiet 8 _ _ rfl rfl rfl rfl rfl (QOp.ok (fun X => OpOk.assign rfl)) ?_
              (apply Sd.tail; case hall => kernel_rfl)
              refine RunL.mem (fl2 (flS rfl) (sep_emp _)) ?_
              refine RunL.nil ?_
              refine Run.ret1 Try.func6 rfl rfl ?_
              rw [decide_eq_true (by first | omega | with_reducible rfl | assumption)]
              exact ⟨rfl, ⟨_, (asg (asg (asg as1)))⟩⟩
            · refine Run.seq ?_
              refine Run.seq ?_
              refine Run.region ?_
              refine RunL.ok (OpOk.move rfl) rfl ?_
              refine RunL.ok (OpOk.move rfl) rfl ?_
              refine RunL.ok (OpOk.lenR rfl rfl rd.left.left.left rfl) rfl ?_
              refine RunL.ok (OpOk.asT (OpOk.lss rfl rfl) (by omega)) rfl ?_
              refine RunL.ok (OpOk.move rfl) rfl ?_
              refine RunL.on rfl rfl ?_
              refine RunL.ok (OpOk.move rfl) rfl ?_
              refine RunL.on rfl rfl ?_
              refine RunL.ok (OpOk.lss rfl rfl) rfl ?_
              refine RunL.ok (OpOk.pickT rfl rfl) rfl ?_
              refine RunL.nil ?_
              refine Run.condD rfl (fun y1 => ?_) (fun y1 => ?_)
              · refine Run.skip ?_
                refine Run.seq ?_
                refine Run.block ?_
                refine Run.seq ?_
                refine Run.region ?_
                refine RunL.ok (OpOk.move rfl) rfl ?_
                refine RunL.ok (OpOk.move rfl) rfl ?_
                refine RunL.ok (OpOk.idxN rfl ti54 rfl rd.left.left.left rfl (by omega)) rfl ?_
                refine RunL.ok (OpOk.loadFl default rfl rfl ti54 rfl rd.left.left.left (fun _ => rfl) rfl (by omega)) rfl ?_
                refine RunL.alloc ti54 rfl (fun by2 => ?_)
                refine RunL.storeAll ti54 rfl rfl rfl (by assumption) rfl rfl ?_
                refine RunL.nil ?_
                refine Run.seq ?_
                refine Run.region ?_
                refine RunL.lit0B rfl ti5 rfl (fun vy3 rdy3 => ?_)
                refine RunL.ok (OpOk.fieldAddr fld54_2 rfl) rfl ?_
                refine RunL.ok (OpOk.load rfl rfl rfl (Blk.out Blk.pts.left _ _ (by first | rfl | assumption))) rfl ?_
                refine RunL.appendB0 rfl ti5 rfl rfl rfl rfl rd3.left.left.left.left.left (by omega) rfl (fun vy4 rdy4 => ?_)
                refine RunL.ok (OpOk.assign rfl) rfl ?_
                refine RunL.nil ?_
                refine Run.seq ?_
                refine Run.region ?_
                refine RunL.ok (OpOk.assign rfl) rfl ?_
                refine RunL.nil ?_
                refine Run.seq ?_
                refine Run.seq ?_
                refine Run.region ?_
                refine RunL.ok (OpOk.fieldAddr fld54_0 rfl) rfl ?_
                refine RunL.ok (OpOk.load rfl rfl rfl (Blk.out Blk.pts.left _ _ (by first | rfl | assumption))) rfl ?_
                refine RunL.nil ?_
                refine Run.block ?_
                refine Run.seq ?_
                refine Run.region ?_
                refine RunL.ok (OpOk.asF (OpOk.eql rfl rfl) (by omega)) rfl ?_
                refine RunL.ok (OpOk.assign rfl) rfl ?_
                refine RunL.nil ?_
                refine Run.condF rfl ?_
                refine Run.seq ?_
                refine Run.region ?_
                refine RunL.ok (OpOk.asF (OpOk.eql rfl rfl) (by omega)) rfl ?_
                refine RunL.ok (OpOk.assign rfl) rfl ?_
                refine RunL.nil ?_
                refine Run.condF rfl ?_
                refine Run.seq ?_
                refine Run.region ?_
                refine RunL.ok (OpOk.asF (OpOk.eql rfl rfl) (by omega)) rfl ?_
                refine RunL.ok (OpOk.assign rfl) rfl ?_
                refine RunL.nil ?_
                refine Run.condF rfl ?_
                refine Run.seq ?_
                refine Run.region ?_
                refine RunL.ok (OpOk.asF (OpOk.eql rfl rfl) (by omega)) rfl ?_
                refine RunL.ok (OpOk.assign rfl) rfl ?_
                refine RunL.nil ?_
                refine Run.condF rfl ?_
                refine Run.seq ?_
                refine Run.region ?_
                refine RunL.ok (OpOk.move rfl) rfl ?_
                refine RunL.ok (OpOk.fieldAddr fld54_1 rfl) rfl ?_
                refine RunL.ok (OpOk.load rfl rfl rfl (Blk.out Blk.pts.left _ _ (by first | rfl | assumption))) rfl ?_
                refine RunL.mem (frc (frl (frl (frl rfl))) rfl) ?_
                refine RunL.call cal21 rfl (s21b (by omega) (by omega) (by assumption)) rfl (fun vy6 Ay6 hy6 => ?_)
                obtain ⟨y7, ⟨rfl, rfl⟩⟩ := hy6
                refine RunL.ok (OpOk.move rfl) rfl ?_
                refine RunL.ok (OpOk.ext20 rfl) rfl ?_
                refine RunL.ok (OpOk.ext21 rfl) rfl ?_
                refine RunL.ok (OpOk.assign rfl) rfl ?_
                refine RunL.ok (OpOk.assign rfl) rfl ?_
                refine RunL.nil ?_
                refine Run.seq ?_
                refine Run.region ?_
                refine RunL.ok (OpOk.move rfl) rfl ?_
                refine RunL.ok (OpOk.fieldAddr fld54_1 rfl) rfl ?_
                refine RunL.ok (OpOk.load rfl rfl rfl (Blk.out Blk.pts.left.left.left _ _ (by first | rfl | assumption))) rfl ?_
                refine RunL.mem (frc (frl (frl (frl (frl rfl)))) rfl) ?_
                refine RunL.call cal27 rfl (s27b (by omega) (by omega) (by assumption)) rfl (fun vy9 Ay9 hy9 => ?_)
                obtain ⟨rfl, rfl⟩ := hy9
                refine RunL.ok (OpOk.move rfl) rfl ?_
                refine RunL.ok (OpOk.ext20 rfl) rfl ?_
                refine RunL.ok (OpOk.ext21 rfl) rfl ?_
                refine RunL.ok (OpOk.assign rfl) rfl ?_
                refine RunL.ok (OpOk.assign rfl) rfl ?_
                refine RunL.nil ?_
                refine Run.seq ?_
                refine Run.region ?_
                refine RunL.ok (OpOk.move rfl) rfl ?_
                refine RunL.know (fun w s => (s.conv (frl rfl)).ownRd0) (fun rdy10 => ?_)
                refine RunL.ok (OpOk.strOf rfl rfl rfl rfl (Rd.right rdy10).left) rfl ?_
                refine RunL.ok (OpOk.move rfl) rfl ?_
                refine RunL.ok (OpOk.eqlSS rfl rfl) rfl ?_
                refine RunL.ok (OpOk.move rfl) rfl ?_
                refine RunL.splitDT (t := 61) rfl (by first | omega | with_reducible rfl | assumption) ?_
                refine RunL.on rfl rfl ?_
                refine RunL.ok (OpOk.move rfl) rfl ?_
                refine RunL.on rfl rfl ?_
                refine RunL.ok (OpOk.move rfl) rfl ?_
                refine RunL.on rfl rfl ?_
                refine RunL.ok (OpOk.asT (OpOk.eql rfl rfl) (by omega)) rfl ?_
                refine RunL.ok (OpOk.pickT rfl rfl) rfl ?_
                refine RunL.ok (OpOk.assign rfl) rfl ?_
                refine RunL.nil ?_
                refine Run.seq ?_
                refine Run.region ?_
                refine RunL.ok (OpOk.assign rfl) rfl ?_
                refine RunL.nil ?_
                refine Run.block ?_
                refine Run.jump ((Run.loopJ (X := Nat × Asn × List UInt8) (fun x => [(15, .int .i64 (x.1 : Int)), (11, y7), (8, .bool true), (7, vy4), (6, .pointer (some ⟨by2, 0, none⟩)), (5, .int .i64 (i : Int)), (4, .pointer (some ⟨x6, 0, none⟩)), (3, .pointer (some ⟨x4, 0, none⟩)), (0, u)]) (fun x => old w0 * x.2.1 * pts x4 (.cells (B (xs) ++ [Value.int .i64 (w)]).toArray 95 (0, 0)) * pts x6 (.cells #[S (xs), .int .i64 (rw)] 57 (0, 0)) * own 5 1 vy4 (ops.getD i default).2.2.2.length (B (ops.getD i default).2.2.2) * own 5 1 y7 32 (B x.2.2) * pts by2 (.cells (Value.agg (encCd (ops.getD i default)).toArray).cells 54 (0, 0))) (fun x => x.1 ≤ 32 ∧ x.2.2.length = 32) (fun x => 32 - x.1) (0, _, (secOf xs (ops.getD i default).2.1.toNat)) ⟨Nat.zero_le _, secOf_length hB1 (by omega)⟩ (fun x hx ih6 => ?_))) ⟨rfl, rfl, rfl, rfl, rfl, rfl, rfl, rfl, rfl, trivial⟩ (Grew.of (Eq.trans (frc (frl (frl (frl (frl rfl)))) (frc (frl rfl) (frc (frl (frl rfl)) rfl))) (congrArg (· * _) (congrArg (· * _) (congrArg (· * _) (congrArg (· * _) (congrArg (· * _) as1)))))) (Grew.refl _))
                obtain ⟨q, J6, zs⟩ := x
                simp only at hx ih6 ⊢
                obtain ⟨hq, hzl⟩ := hx
                rcases Nat.lt_or_ge q 32 with hq1 | hq1
                · refine Run.seq ?_
                  refine Run.seq ?_
                  refine Run.region ?_
                  refine RunL.ok (OpOk.move rfl) rfl ?_
                  refine RunL.ok (OpOk.move rfl) rfl ?_
                  refine RunL.know (fun w s => (s.conv (frl rfl)).ownRd0) (fun rdq1 => ?_)
                  refine RunL.ok (OpOk.lenR rfl rfl (Rd.right rdq1).left rfl) rfl ?_
                  refine RunL.ok (OpOk.asT (OpOk.lss rfl rfl) (by omega)) rfl ?_
                  refine RunL.nil ?_
                  refine Run.condT rfl ?_
                  refine Run.skip ?_
                  refine Run.seq ?_
                  refine Run.block ?_
                  refine Run.region ?_
                  refine RunL.ok (OpOk.move rfl) rfl ?_
                  refine RunL.ok (OpOk.move rfl) rfl ?_
                  refine RunL.ok (OpOk.move rfl) rfl ?_
                  refine RunL.ok (OpOk.move rfl) rfl ?_
                  refine RunL.ok (OpOk.idx1N rfl ti5 rfl (Rd.right rdq1).left rfl (by omega)) rfl ?_
                  refine RunL.ok (OpOk.load rfl rfl rfl (Rd.getB (Rd.right rdq1).left (by omega))) rfl ?_
                  refine RunL.ok (OpOk.xor rfl rfl (x255 _)) rfl ?_
                  refine RunL.ok (OpOk.idx1N rfl ti5 rfl (Rd.right rdq1).left rfl (by omega)) rfl ?_
                  refine RunL.storeB _ ti5 rfl rfl rfl (frl rfl) (by omega) ?_
                  refine RunL.nil ?_
                  refine Run.inBlock ?_
                  refine Run.region ?_
                  refine RunL.ok (OpOk.move rfl) rfl ?_
                  refine RunL.ok (OpOk.addN _ 1 rfl rfl rfl rfl (by omega)) rfl ?_
                  refine RunL.ok (OpOk.assign rfl) rfl ?_
                  refine RunL.nil ?_
                  refine Run.jump ((ih6 (q + 1, _, _) ⟨by dsimp only; omega, by simp [hzl]⟩ (by dsimp only; omega))) ⟨rfl, rfl, rfl, rfl, rfl, rfl, rfl, rfl, rfl, trivial⟩ (Grew.of (Eq.trans (frc (frl rfl) rfl) (congrArg (· * _) (congrArg (· * _) (congrArg (· * _) (congrArg (· * _) (congrArg (· * _) as1)))))) (Grew.refl _))
                · obtain rfl : q = 32 := by omega
                  clear ih6
                  refine Run.seq ?_
                  refine Run.seq ?_
                  refine Run.region ?_
                  refine RunL.ok (OpOk.move rfl) rfl ?_
                  refine RunL.ok (OpOk.move rfl) rfl ?_
                  refine RunL.know (fun w s => (s.conv (frl rfl)).ownRd0) (fun rdz1 => ?_)
                  refine RunL.ok (OpOk.lenR rfl rfl (Rd.right rdz1).left rfl) rfl ?_
                  refine RunL.ok (OpOk.asF (OpOk.lss rfl rfl) (by omega)) rfl ?_
                  refine RunL.nil ?_
                  refine Run.condF rfl ?_
                  refine Run.exit rfl ?_
                  refine Run.inBlock ?_
                  refine Run.seq ?_
                  refine Run.seq ?_
                  refine Run.region ?_
                  refine RunL.ok (OpOk.move rfl) rfl ?_
                  refine RunL.ok (OpOk.not rfl) rfl ?_
                  refine RunL.ok (OpOk.move rfl) rfl ?_
                  refine RunL.on rfl rfl ?_
                  refine RunL.ok (OpOk.move rfl) rfl ?_
                  refine RunL.on rfl rfl ?_
                  refine RunL.know (fun w s => (s.conv (frl (frl rfl))).ownRd0) (fun rdz2 => ?_)
                  refine RunL.ok (OpOk.strOf rfl rfl rfl rfl (Rd.right rdz2).left.left) rfl ?_
                  refine RunL.on rfl rfl ?_
                  refine RunL.ok (OpOk.fieldAddr fld54_2 rfl) rfl ?_
                  refine RunL.on rfl rfl ?_
                  refine RunL.ok (OpOk.load rfl rfl rfl (Blk.out Blk.pts _ _ (by first | rfl | assumption))) rfl ?_
                  refine RunL.on rfl rfl ?_
                  refine RunL.ok (OpOk.strOf rfl rfl rfl rfl rd3.left.left.left.left.left.left) rfl ?_
                  refine RunL.on rfl rfl ?_
                  refine RunL.ok (OpOk.neqSS rfl rfl) rfl ?_
                  refine RunL.ok (OpOk.pickF rfl rfl) rfl ?_
                  refine RunL.nil ?_
                  refine Run.condNF rfl (by first | omega | with_reducible rfl | assumption) ?_
                  refine Run.skip ?_
                  refine Run.seq ?_
                  refine Run.region ?_
                  refine RunL.ok (OpOk.assign rfl) rfl ?_
                  refine RunL.nil ?_
                  refine Run.block ?_
                  refine Run.jump ((Run.loopJ (X := Nat × Asn × List UInt8) (fun x => [(16, .int .i64 (x.1 : Int)), (7, vy4), (5, .int .i64 (i : Int)), (4, .pointer (some ⟨x6, 0, none⟩)), (3, .pointer (some ⟨x4, 0, none⟩)), (0, u)]) (fun x => old w0 * x.2.1 * pts x4 (.cells (B (xs) ++ [Value.int .i64 (w)]).toArray 95 (0, 0)) * pts x6 (.cells #[S (xs), .int .i64 (rw)] 57 (0, 0)) * own 5 1 vy4 (ops.getD i default).2.2.2.length (B x.2.2)) (fun x => x.1 ≤ (ops.getD i default).2.2.2.length ∧ x.2.2.length = (ops.getD i default).2.2.2.length) (fun x => (ops.getD i default).2.2.2.length - x.1) (0, _, (ops.getD i default).2.2.2) ⟨Nat.zero_le _, rfl⟩ (fun x hx ih5 => ?_))) ⟨rfl, rfl, rfl, rfl, rfl, rfl, trivial⟩ (Grew.of (Eq.trans (frc (frl (frl rfl)) (frc (frl (frl rfl)) (frc (frl (frl rfl)) rfl))) (congrArg (· * _) (congrArg (· * _) (congrArg (· * _) (asg (asg as1)))))) (Grew.refl _))
                  obtain ⟨q, J5, zs⟩ := x
                  simp only at hx ih5 ⊢
                  obtain ⟨hq, hzl⟩ := hx
                  rcases Nat.lt_or_ge q (ops.getD i default).2.2.2.length with hq1 | hq1
                  · refine Run.seq ?_
                    refine Run.seq ?_
                    refine Run.region ?_
                    refine RunL.ok (OpOk.move rfl) rfl ?_
                    refine RunL.ok (OpOk.move rfl) rfl ?_
                    refine RunL.know (fun w s => (s.conv rfl).ownRd0) (fun rdq1 => ?_)
                    refine RunL.ok (OpOk.lenR rfl rfl (Rd.right rdq1) rfl) rfl ?_
                    refine RunL.ok (OpOk.asT (OpOk.lss rfl rfl) (by omega)) rfl ?_
                    refine RunL.nil ?_
                    refine Run.condT rfl ?_
                    refine Run.skip ?_
                    refine Run.seq ?_
                    refine Run.block ?_
                    refine Run.region ?_
                    refine RunL.ok (OpOk.move rfl) rfl ?_
                    refine RunL.ok (OpOk.move rfl) rfl ?_
                    refine RunL.ok (OpOk.move rfl) rfl ?_
                    refine RunL.ok (OpOk.move rfl) rfl ?_
                    refine RunL.ok (OpOk.idx1N rfl ti5 rfl (Rd.right rdq1) rfl (by omega)) rfl ?_
                    refine RunL.ok (OpOk.load rfl rfl rfl (Rd.getB (Rd.right rdq1) (by omega))) rfl ?_
                    refine RunL.ok (OpOk.xor rfl rfl (x255 _)) rfl ?_
                    refine RunL.ok (OpOk.idx1N rfl ti5 rfl (Rd.right rdq1) rfl (by omega)) rfl ?_
                    refine RunL.storeB _ ti5 rfl rfl rfl rfl (by omega) ?_
                    refine RunL.nil ?_
                    refine Run.inBlock ?_
                    refine Run.region ?_
                    refine RunL.ok (OpOk.move rfl) rfl ?_
                    refine RunL.ok (OpOk.addN _ 1 rfl rfl rfl rfl (by omega)) rfl ?_
                    refine RunL.ok (OpOk.assign rfl) rfl ?_
                    refine RunL.nil ?_
                    refine Run.jump ((ih5 (q + 1, _, _) ⟨by dsimp only; omega, by simp [hzl]⟩ (by dsimp only; omega))) ⟨rfl, rfl, rfl, rfl, rfl, rfl, trivial⟩ (Grew.of (congrArg (· * _) (congrArg (· * _) (congrArg (· * _) as1))) (Grew.refl _))
                  · obtain rfl : q = (ops.getD i default).2.2.2.length := by omega
                    clear ih5
                    refine Run.seq ?_
                    refine Run.seq ?_
                    refine Run.region ?_
                    refine RunL.ok (OpOk.move rfl) rfl ?_
                    refine RunL.ok (OpOk.move rfl) rfl ?_
                    refine RunL.know (fun w s => (s.conv rfl).ownRd0) (fun rdq1 => ?_)
                    refine RunL.ok (OpOk.lenR rfl rfl (Rd.right rdq1) rfl) rfl ?_
                    refine RunL.ok (OpOk.asF (OpOk.lss rfl rfl) (by omega)) rfl ?_
                    refine RunL.nil ?_
                    refine Run.condF rfl ?_
                    refine Run.exit rfl ?_
                    refine Run.inBlock ?_
                    refine Run.region ?_
                    refine RunL.ok (OpOk.move rfl) rfl ?_
                    refine RunL.ok (OpOk.addN _ 1 rfl rfl rfl rfl (by omega)) rfl ?_
                    refine RunL.ok (OpOk.assign rfl) rfl ?_
                    refine RunL.nil ?_
                    refine Run.jump ((ih (i + 1, _, xs, w, rw) ⟨by dsimp only; omega, by dsimp only; omega, hB1, hB2, hB3⟩ (by dsimp only; omega))) ⟨rfl, rfl, rfl, rfl, trivial⟩ (Grew.of (Eq.trans (frc (frl rfl) (frc (frl rfl) rfl)) (congrArg (· * _) (congrArg (· * _) (asg as1)))) (Grew.refl _))
              refine Run.exit rfl ?_
              refine Run.seq ?_
              (apply Run.drawD [] (by rfl) (Eq.trans (frc (frl rfl) rfl) rfl); case hchk => kernel_rfl)
              refine Sd.quiet 0 _ _ rfl rfl rfl rfl rfl (QOp.ok (fun X => OpOk.move rfl)) ?_
              refine Sd.quiet 3 _ _ rfl rfl rfl rfl rfl (QOp.ok (fun X => OpOk.move rfl)) ?_
              refine Sd.quiet 4 _ _ rfl rfl rfl rfl rfl (QOp.ok (fun X => OpOk.nilOk rfl)) ?_
              refine Sd.quiet 5 _ _ rfl rfl rfl rfl rfl (QOp.ok (fun X => OpOk.fieldAddr fld57_0 rfl)) ?_
              refine Sd.quiet 6 _ _ rfl rfl rfl rfl rfl (QOp.ok (fun X => OpOk.load rfl rfl rfl (Blk.out Blk.pts.left.left _ _ (by first | rfl | assumption)))) ?_
              (refine Sd.exec 1 rfl rfl rfl rfl rfl ?hrest (by rfl) (fun Xy12 Ky12 hKy12 => ?_); case hrest => kernel_rfl)
              refine RunL.mem (fl2 (sep_emp _) rfl) ?_
              refine RunL.call cal26 rfl (s26 (by assumption)) rfl (fun vy13 Ay13 hy13 => ?_)
              obtain rfl := hy13
              refine RunL.know (fun w s => (s.conv rfl).ownRd0) (fun rdy14 => ?_)
              refine Sd.ret hKy12 (Eq.trans rfl (gp2 (sep_emp _).symm (asg rfl))) ⟨_, (emp_sep _).symm⟩ ?_
              refine Sd.quiet 2 _ _ rfl rfl rfl rfl rfl (QOp.ok (fun X => OpOk.strOf rfl rfl rfl rfl (Rd.right (Rd.right rdy14)).left)) ?_
              refine Sd.quiet 7 _ _ rfl rfl rfl rfl rfl (QOp.ok (fun X => OpOk.eqlSS rfl rfl)) ?_
              refine Sd.quiet 8 _ _ rfl rfl rfl rfl rfl (QOp.ok (fun X => OpOk.assign rfl)) ?_
              (apply Sd.tail; case hall => kernel_rfl)
              refine RunL.mem (fl2 (flS rfl) (sep_emp _)) ?_
              refine RunL.nil ?_
              refine Run.ret1 Try.func6 rfl rfl ?_
              rw [decide_eq_true (by first | omega | with_reducible rfl | assumption)]
              exact ⟨rfl, ⟨_, (asg (asg (asg as1)))⟩⟩
  · obtain rfl : i = ops.length := by omega
    clear ih
    refine Run.seq ?_
    refine Run.seq ?_
    refine Run.region ?_
    refine RunL.ok (OpOk.move rfl) rfl ?_
    refine RunL.ok (OpOk.move rfl) rfl ?_
    refine RunL.ok (OpOk.lenR rfl rfl rd.left.left.left rfl) rfl ?_
    refine RunL.ok (OpOk.asF (OpOk.lss rfl rfl) (by omega)) rfl ?_
    refine RunL.ok (OpOk.move rfl) rfl ?_
    refine RunL.off rfl rfl rfl rfl ?_
    refine RunL.off rfl rfl rfl rfl ?_
    refine RunL.ok (OpOk.pickF rfl rfl) rfl ?_
    refine RunL.nil ?_
    refine Run.condF rfl ?_
    refine Run.exit rfl ?_
    refine Run.seq ?_
    (apply Run.drawD [] (by rfl) (Eq.trans (frc (frl rfl) rfl) rfl); case hchk => kernel_rfl)
    refine Sd.quiet 0 _ _ rfl rfl rfl rfl rfl (QOp.ok (fun X => OpOk.move rfl)) ?_
    refine Sd.quiet 3 _ _ rfl rfl rfl rfl rfl (QOp.ok (fun X => OpOk.move rfl)) ?_
    refine Sd.quiet 4 _ _ rfl rfl rfl rfl rfl (QOp.ok (fun X => OpOk.nilOk rfl)) ?_
    refine Sd.quiet 5 _ _ rfl rfl rfl rfl rfl (QOp.ok (fun X => OpOk.fieldAddr fld57_0 rfl)) ?_
    refine Sd.quiet 6 _ _ rfl rfl rfl rfl rfl (QOp.ok (fun X => OpOk.load rfl rfl rfl (Blk.out Blk.pts.left.left _ _ (by first | rfl | assumption)))) ?_
    (refine Sd.exec 1 rfl rfl rfl rfl rfl ?hrest (by rfl) (fun Xy1 Ky1 hKy1 => ?_); case hrest => kernel_rfl)
    refine RunL.mem (fl2 (sep_emp _) rfl) ?_
    refine RunL.call cal26 rfl (s26 (by assumption)) rfl (fun vy2 Ay2 hy2 => ?_)
    obtain rfl := hy2
    refine RunL.know (fun w s => (s.conv rfl).ownRd0) (fun rdy3 => ?_)
    refine Sd.ret hKy1 (Eq.trans rfl (gp2 (sep_emp _).symm (asg rfl))) ⟨_, (emp_sep _).symm⟩ ?_
    refine Sd.quiet 2 _ _ rfl rfl rfl rfl rfl (QOp.ok (fun X => OpOk.strOf rfl rfl rfl rfl (Rd.right (Rd.right rdy3)).left)) ?_
    refine Sd.quiet 7 _ _ rfl rfl rfl rfl rfl (QOp.ok (fun X => OpOk.eqlSS rfl rfl)) ?_
    refine Sd.quiet 8 _ _ rfl rfl rfl rfl rfl (QOp.ok (fun X => OpOk.assign rfl)) ?_
    (apply Sd.tail; case hall => kernel_rfl)
    refine RunL.mem (fl2 (flS rfl) (sep_emp _)) ?_
    refine RunL.nil ?_
    refine Run.ret1 Try.func6 rfl rfl ?_
    rw [decide_eq_true (by first | omega | with_reducible rfl | assumption)]
    exact ⟨rfl, ⟨_, (asg (asg (asg as1)))⟩⟩
end Go.Proofs.Ytlmehpjcmdipmaa
