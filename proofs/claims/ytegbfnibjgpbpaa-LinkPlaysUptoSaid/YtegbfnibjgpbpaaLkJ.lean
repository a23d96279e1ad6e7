/- The law LinkPlays, walked. -/
import Derived.Test.YtegbfnibjgpbpaaLkI
namespace Go.Proofs.Ytegbfnibjgpbpaa
open Go Go.Proofs
set_option maxRecDepth 100000
set_option maxHeartbeats 4000000
set_option linter.unusedSimpArgs false
/-- How many texts are put in all. -/
def puts (l : List LOp) : Nat := (l.map fun o => o.2.2.2.2.length).sum
theorem puts_next {l : List LOp} {i : Nat} (h : i < l.length) : puts (l.take (i + 1)) = puts (l.take i) + (l.getD i default).2.2.2.2.length := by
  simp only [puts, take_next h, List.map_append, List.sum_append, List.map_cons, List.map_nil, List.sum_cons, List.sum_nil, Nat.add_zero]
theorem puts_le (l : List LOp) (i : Nat) : puts (l.take i) ≤ puts l := by
  have h := congrArg puts (List.take_append_drop i l)
  have e : puts (l.take i ++ l.drop i) = puts (l.take i) + puts (l.drop i) := by simp only [puts, List.map_append, List.sum_append]
  omega
theorem FlS_len : ∀ l : List (List UInt8), (Fl encS l).length = l.length
  | [] => rfl
  | x :: r => by
    rw [show Fl encS (x :: r) = encS x ++ Fl encS r from rfl, List.length_append, FlS_len r, List.length_cons, show (encS x).length = 1 from rfl, Nat.add_comm]
section
variable {w0 : World} {A : Asn}
theorem linkPlays_spec {u : Value} {ops : List LOp} (rd : Rd w0 (old w0) u 4 ops.length (Fl encT39 ops)) (hok : ∀ o ∈ ops, LOpG w0 o) (hp : puts ops ≤ 1048576) :
    Spec Try.prog w0 5 [u] (old w0) (fun v' A' => v' = .bool true ∧ Grew (old w0) A') := by
  have hmx := rd.max
  refine Spec.of_run [(0, u)] Try.func5 rfl (Nat.le_of_ble_eq_true rfl) (by repeat (first | exact trivial | refine ⟨rfl, ?_⟩)) ?_
  refine Run.seq ?_
  refine Run.region ?_
  refine RunL.alloc ti4 rfl (fun bx1 => ?_)
  refine RunL.nil ?_
  refine Run.seq ?_
  refine Run.seq ?_
  refine Run.region ?_
  refine RunL.call cal14 rfl (s14) rfl (fun vx2 Ax2 hx2 => ?_)
  obtain ⟨x3, ⟨rfl, rfl⟩⟩ := hx2
  refine RunL.ok (OpOk.not rfl) rfl ?_
  refine RunL.nil ?_
  refine Run.condF rfl ?_
  refine Run.skip ?_
  refine Run.seq ?_
  refine Run.region ?_
  refine RunL.ok (OpOk.build rfl (fun w => run_build w 26 _ _ (by rfl))) rfl ?_
  refine RunL.box rfl rfl (fun bx4 => ?_)
  refine RunL.ent (newT26 _ _) ?_
  refine RunL.ok (OpOk.assign rfl) rfl ?_
  refine RunL.nil ?_
  refine Run.seq ?_
  refine Run.region ?_
  refine RunL.alloc ti22 rfl (fun bx5 => ?_)
  refine RunL.nil ?_
  refine Run.seq ?_
  refine Run.seq ?_
  refine Run.region ?_
  refine RunL.ok (OpOk.assign rfl) rfl ?_
  refine RunL.nil ?_
  refine Run.block ?_
  refine Run.ent (Ent.ownNil' _ 9 1 (Fl encS []) rfl) ?_
  refine Run.jump ((Run.loopM0 (X := Nat × List Nat × Asn × Value × Value × List (List UInt8)) (fun x => x.2.1) (fun x => [(5, .int .i64 (x.1 : Int)), (4, .pointer (some ⟨bx5, 0, none⟩)), (3, .pointer (some ⟨bx4, 0, none⟩)), (2, .pointer (some ⟨bx1, 0, none⟩)), (0, u)]) (fun x => old w0 * x.2.2.1 * pts bx1 (.cells #[.bool false] 4 (0, 0)) * pts bx5 (.cells #[x.2.2.2.2.1] 22 (0, 0)) * own 9 1 x.2.2.2.2.1 x.2.2.2.2.2.length (Fl encS x.2.2.2.2.2) * pts bx4 (.cells #[x.2.2.2.1] 26 (0, 0)) * own 9 1 x.2.2.2.1 (x.2.2.2.2.2).length (Fl encS (x.2.2.2.2.2))) (fun x => x.1 ≤ ops.length ∧ x.1 ≤ 150 ∧ x.2.2.2.2.2.length ≤ puts (ops.take x.1) + x.1) (fun x => ops.length - x.1) (0, [], _, .slice none 0 0, .slice none 0 0, []) ⟨Nat.zero_le _, Nat.zero_le _, by simp⟩ rfl (fun x hx ih => ?_))) ⟨rfl, rfl, rfl, rfl, rfl, trivial⟩ (Grew.of (Eq.trans (frc (frl (frl rfl)) (frc (frl (frl rfl)) (frc rfl (frc rfl (frc (frl rfl) rfl))))) (congrArg (· * _) (congrArg (· * _) (congrArg (· * _) (congrArg (· * _) (congrArg (· * _) as1)))))) (Grew.refl _))
  obtain ⟨i, ds, J, v, lv, l⟩ := x
  simp only at hx ih ⊢
  obtain ⟨hi, hi1, hl⟩ := hx
  have hpl := puts_le ops i
  have hln : l.length ≤ 1048726 := by omega
  rcases Nat.lt_or_ge i ops.length with hlt | hge
  · rcases Nat.lt_or_ge i 150 with h150 | h150
    · have ho := hok _ (getD_mem hlt)
      have hpn := puts_next hlt
      have hpl2 := puts_le ops (i + 1)
      obtain ⟨o, hoe⟩ : ∃ o, ops.getD i default = o := ⟨_, rfl⟩
      rw [hoe] at ho hpn
      obtain ⟨ok, oi, os, osv, ol⟩ := o
      have hord := ho.rd
      have hohi := ho.hi
      dsimp only at hord hohi hpn
      have hone : ∀ w ∈ (Value.agg (encT39 (ok, oi, os, osv, ol)).toArray).cells.toList, w.oneCell' = true := fun w hw => OneC.one (enc := encT39) (ok, oi, os, osv, ol) w hw
      rcases Decidable.em (ok = 0) with hk | hk
      · subst hk
        have hap : (l ++ ol).length = l.length + ol.length := List.length_append
        refine Run.seq ?_
        refine Run.seq ?_
        refine Run.region ?_
        refine RunL.ok (OpOk.move rfl) rfl ?_
        refine RunL.ok (OpOk.move rfl) rfl ?_
        refine RunL.ok (OpOk.lenR rfl rfl rd.left.left.left.left.left.left.left rfl) rfl ?_
        refine RunL.ok (OpOk.asT (OpOk.lss rfl rfl) (by omega)) rfl ?_
        refine RunL.ok (OpOk.move rfl) rfl ?_
        refine RunL.on rfl rfl ?_
        refine RunL.ok (OpOk.move rfl) rfl ?_
        refine RunL.on rfl rfl ?_
        refine RunL.ok (OpOk.asT (OpOk.lss rfl rfl) (by omega)) rfl ?_
        refine RunL.ok (OpOk.pickT rfl rfl) rfl ?_
        refine RunL.nil ?_
        refine Run.condT rfl ?_
        refine Run.skip ?_
        refine Run.seq ?_
        refine Run.block ?_
        refine Run.seq ?_
        refine Run.region ?_
        refine RunL.ok (OpOk.move rfl) rfl ?_
        refine RunL.ok (OpOk.move rfl) rfl ?_
        refine RunL.ok (OpOk.idxN rfl ti39 rfl rd.left.left.left.left.left.left.left rfl (by omega)) rfl ?_
        refine RunL.ok (OpOk.loadFlE (by assumption) rfl rfl ti39 rfl rd.left.left.left.left.left.left.left (fun _ => rfl) rfl (by omega)) rfl ?_
        refine RunL.alloc ti39 rfl (fun by1 => ?_)
        refine RunL.storeAll ti39 rfl rfl rfl (by assumption) rfl rfl ?_
        refine RunL.nil ?_
        refine Run.seq ?_
        refine Run.region ?_
        refine RunL.ok (OpOk.move rfl) rfl ?_
        refine RunL.mem (frc (frl (frl rfl)) (frc (frl (frl rfl)) rfl)) ?_
        refine RunL.call cal25 rfl (s25 (by omega)) rfl (fun vy2 Ay2 hy2 => ?_)
        obtain ⟨y3, ⟨y4, ⟨rfl, rfl⟩⟩⟩ := hy2
        refine RunL.ok (OpOk.assign rfl) rfl ?_
        refine RunL.nil ?_
        refine Run.seq ?_
        refine Run.region ?_
        refine RunL.lit0 rfl ti9 rfl (fun vy5 rdy5 => ?_)
        refine RunL.ok (OpOk.load rfl rfl rfl (Blk.out Blk.pts.left.left.left.left.left.left.left.left _ _ (by first | rfl | assumption))) rfl ?_
        refine RunL.know (fun w s => (s.conv (frl (frl (frl (frl (frl (frl (frl rfl)))))))).ownRd0) (fun rdy7 => ?_)
        refine RunL.appendF0 rfl ti9 rfl rfl rfl rfl (Rd.right rdy7).left.left.left.left.left.left.left rfl (by decide) (by omega) (by simp only [maxLen]; omega) rfl (fun vy6 rdy6 => ?_)
        refine RunL.alloc ti22 rfl (fun by8 => ?_)
        refine RunL.know (fun w s => (s.conv (frl rfl)).ownRd0) (fun rdy9 => ?_)
        refine RunL.store ti22 rfl rfl (Rd.one rdy9) rfl (by exact Nat.le_of_ble_eq_true rfl) (.inl rfl) ?_
        refine RunL.nil ?_
        refine Run.seq ?_
        refine Run.seq ?_
        refine Run.region ?_
        refine RunL.ok (OpOk.fieldAddr fld39_0 rfl) rfl ?_
        refine RunL.ok (OpOk.load rfl rfl rfl (Blk.out Blk.pts.left.left.left.left.left.left _ _ (by first | rfl | assumption))) rfl ?_
        refine RunL.nil ?_
        refine Run.block ?_
        refine Run.seq ?_
        refine Run.region ?_
        refine RunL.ok (OpOk.asT (OpOk.eql rfl rfl) (by omega)) rfl ?_
        refine RunL.ok (OpOk.assign rfl) rfl ?_
        refine RunL.nil ?_
        refine Run.condT rfl ?_
        refine Run.seq ?_
        refine Run.region ?_
        refine RunL.lit0 rfl ti9 rfl (fun vy10 rdy10 => ?_)
        refine RunL.ok (OpOk.fieldAddr fld39_3 rfl) rfl ?_
        refine RunL.ok (OpOk.load rfl rfl rfl (Blk.out Blk.pts.left.left.left.left.left.left.left _ _ (by first | rfl | assumption))) rfl ?_
        refine RunL.appendF0 rfl ti9 rfl rfl rfl rfl hord.left.left.left.left.left.left.left.left.left.left.left.left.left rfl (by decide) (by omega) (by simp only [maxLen]; omega) rfl (fun vy11 rdy11 => ?_)
        refine RunL.ok (OpOk.assign rfl) rfl ?_
        refine RunL.nil ?_
        refine Run.seq ?_
        refine Run.region ?_
        refine RunL.ok (OpOk.load rfl rfl rfl (Blk.out Blk.pts.left.left.left.left.left.left.left.left.left.left _ _ (by first | rfl | assumption))) rfl ?_
        refine RunL.ok (OpOk.fieldAddr fld39_3 rfl) rfl ?_
        refine RunL.ok (OpOk.load rfl rfl rfl (Blk.out Blk.pts.left.left.left.left.left.left.left _ _ (by first | rfl | assumption))) rfl ?_
        refine RunL.appendF rfl ti9 rfl rfl rfl (frl (frl (frl (frl (frl (frl (frl (frl (frl rfl))))))))) hord.left.left.left.left.left.left.left.left.left.left.left.left.left rfl (by decide) (by omega) (by simp only [maxLen]; omega) rfl (fun vy12 rdy12 => ?_)
        refine RunL.know (fun w s => (s.conv rfl).ownRd0) (fun rdy13 => ?_)
        refine RunL.store ti22 rfl rfl (Rd.one rdy13) (frl (frl (frl (frl (frl (frl (frl (frl (frl (frl rfl)))))))))) (by exact Nat.le_of_ble_eq_true rfl) (.inl rfl) ?_
        refine RunL.nil ?_
        refine Run.seq ?_
        refine Run.seq ?_
        refine Run.know (fun w s => (s.conv (frl (frl (frl (frl (frl (frl (frl rfl)))))))).ownRd0) (fun rdy14 => ?_)
        refine Run.know (fun w s => (s.conv (frl (frl (frl (frl (frl rfl)))))).ownRd0) (fun rdy15 => ?_)
        refine Run.know (fun w s => (s.conv (frl (frl rfl))).ownRd0) (fun rdy16 => ?_)
        (apply Run.drawD [] (by rfl) (Eq.trans (frc (frl (frl (frl (frl (frl (frl (frl rfl))))))) (frc (frl (frl (frl (frl (frl (frl (frl rfl))))))) rfl)) (asg rfl)); case hchk => kernel_rfl)
        refine Sd.quiet 0 _ _ rfl rfl rfl rfl rfl (QOp.ok (fun X => OpOk.move rfl)) ?_
        refine Sd.quiet 1 _ _ rfl rfl rfl rfl rfl (QOp.ok (fun X => OpOk.move rfl)) ?_
        refine Sd.quiet 3 _ _ rfl rfl rfl rfl rfl (QOp.ok (fun X => OpOk.load rfl rfl rfl (Blk.out Blk.pts.left.left _ _ (by first | rfl | assumption)))) ?_
        refine Sd.quiet 4 _ _ rfl rfl rfl rfl rfl (QOp.ok (fun X => OpOk.lenR rfl rfl (Rd.right rdy13).left.left.left rfl)) ?_
        (refine Sd.exec 2 rfl rfl rfl rfl rfl ?hrest (by rfl) (fun Xy17 Ky17 hKy17 => ?_); case hrest => kernel_rfl)
        refine RunL.mem (fl2 (sep_emp _) (flS rfl)) ?_
        refine RunL.call cal15 rfl (s15 (Rd.right rdy16).left.left.left (by omega)) rfl (fun vy19 Ay19 hy19 => ?_)
        obtain ⟨y20, ⟨rfl, rfl⟩⟩ := hy19
        refine RunL.know (fun w s => (s.conv rfl).ownRd0) (fun rdy21 => ?_)
        refine Sd.ret hKy17 (Eq.trans rfl (gp2 (sep_emp _).symm (asg rfl))) ⟨_, (emp_sep _).symm⟩ ?_
        refine Sd.quiet 5 _ _ rfl rfl rfl rfl rfl (QOp.ok (fun X => OpOk.as (c := false) (OpOk.neq rfl rfl) (by rw [decide_eq_true (by omega)]; rfl))) ?_
        (apply Sd.tail; case hall => kernel_rfl)
        refine RunL.mem (fl2 (flS rfl) (sep_emp _)) ?_
        refine RunL.nil ?_
        refine Run.condF rfl ?_
        refine Run.skip ?_
        refine Run.seq ?_
        refine Run.region ?_
        refine RunL.ok (OpOk.assign rfl) rfl ?_
        refine RunL.nil ?_
        refine Run.block ?_
        rw [← hap]
        refine Run.jump ((Run.loopJ (X := Nat × List Value) (fun x => [(10, .int .i64 (x.1 : Int)), (9, vy11), (8, .pointer (some ⟨by8, 0, none⟩)), (7, .func (.func 76) #[] #[.pointer (some ⟨y3, 0, none⟩)]), (5, .int .i64 (i : Int)), (4, .pointer (some ⟨bx5, 0, none⟩)), (3, .pointer (some ⟨bx4, 0, none⟩)), (2, .pointer (some ⟨bx1, 0, none⟩)), (0, u)]) (fun x => old w0 * J * pts by1 (.cells (Value.agg (encT39 (0, oi, os, osv, ol)).toArray).cells 39 (0, 0)) * pts y3 (.cells #[y4] 22 (0, 0)) * own 9 1 y4 l.length (Fl encS l) * own 9 1 vy6 l.length (Fl encS l) * pts by8 (.cells #[vy6] 22 (0, 0)) * own 9 1 vy11 ol.length x.2 * own 9 1 vy12 (l ++ ol).length (Fl encS (l ++ ol)) * pts bx5 (.cells #[vy12] 22 (0, 0)) * pts bx4 (.cells #[y20] 26 (0, 0)) * own 9 1 y20 ((l ++ ol)).length (Fl encS ((l ++ ol))) * pts bx1 (.cells #[.bool false] 4 (0, 0)) * marks ds) (fun x => x.1 ≤ ol.length ∧ x.2.length = ol.length) (fun x => ol.length - x.1) (0, Fl encS ol) ⟨Nat.zero_le _, FlS_len ol⟩ (fun x hx ih2 => ?_))) ⟨rfl, rfl, rfl, rfl, rfl, rfl, rfl, rfl, rfl, trivial⟩ (Grew.of (frc (frl (frl (frl (frl (frl (frl (frl (frl (frl (frl rfl)))))))))) (frc (frl (frl (frl (frl (frl (frl (frl (frl (frl (frl rfl)))))))))) (frc rfl (frc rfl (frc rfl (frc rfl (frc rfl (frc rfl rfl)))))))) (Grew.refl _))
        obtain ⟨k, xs⟩ := x
        simp only at hx ih2 ⊢
        obtain ⟨hk, hxl⟩ := hx
        rcases Nat.lt_or_ge k ol.length with hkl | hkl
        · refine Run.seq ?_
          refine Run.seq ?_
          refine Run.region ?_
          refine RunL.ok (OpOk.move rfl) rfl ?_
          refine RunL.ok (OpOk.move rfl) rfl ?_
          refine RunL.know (fun w s => (s.conv (frl (frl (frl (frl (frl (frl rfl))))))).ownRd0) (fun rdt1 => ?_)
          refine RunL.ok (OpOk.lenR rfl rfl (Rd.right rdt1).left.left.left.left.left.left rfl) rfl ?_
          refine RunL.ok (OpOk.asT (OpOk.lss rfl rfl) (by omega)) rfl ?_
          refine RunL.nil ?_
          refine Run.condT rfl ?_
          refine Run.skip ?_
          refine Run.seq ?_
          refine Run.block ?_
          refine Run.region ?_
          refine RunL.ok (OpOk.move rfl) rfl ?_
          refine RunL.ok (OpOk.move rfl) rfl ?_
          refine RunL.ok (OpOk.idx1N rfl ti9 rfl (Rd.right rdt1).left.left.left.left.left.left rfl (by omega)) rfl ?_
          refine RunL.storeOwn ti9 rfl rfl rfl (frl (frl (frl (frl (frl (frl rfl)))))) (by omega) ?_
          refine RunL.nil ?_
          refine Run.inBlock ?_
          refine Run.region ?_
          refine RunL.ok (OpOk.move rfl) rfl ?_
          refine RunL.ok (OpOk.addN _ 1 rfl rfl rfl rfl (by omega)) rfl ?_
          refine RunL.ok (OpOk.assign rfl) rfl ?_
          refine RunL.nil ?_
          refine Run.jump ((ih2 (k + 1, xs.set k (.string ⟨#[115, 112, 111, 105, 108, 116]⟩)) ⟨by dsimp only; omega, by dsimp only; rw [List.length_set]; exact hxl⟩ (by dsimp only; omega))) ⟨rfl, rfl, rfl, rfl, rfl, rfl, rfl, rfl, rfl, trivial⟩ (Grew.of (frc (frl rfl) (frc (frl rfl) (frc (frl rfl) (frc (frl rfl) (frc (frl rfl) (frc (frl rfl) rfl)))))) (Grew.refl _))
        · clear ih2
          refine Run.seq ?_
          refine Run.seq ?_
          refine Run.region ?_
          refine RunL.ok (OpOk.move rfl) rfl ?_
          refine RunL.ok (OpOk.move rfl) rfl ?_
          refine RunL.know (fun w s => (s.conv (frl (frl (frl (frl (frl (frl rfl))))))).ownRd0) (fun rdt1 => ?_)
          refine RunL.ok (OpOk.lenR rfl rfl (Rd.right rdt1).left.left.left.left.left.left rfl) rfl ?_
          refine RunL.ok (OpOk.asF (OpOk.lss rfl rfl) (by omega)) rfl ?_
          refine RunL.nil ?_
          refine Run.condF rfl ?_
          refine Run.exit rfl ?_
          refine Run.inBlock ?_
          refine Run.seq ?_
          refine Run.region ?_
          refine RunL.alloc ti3 rfl (fun bt2 => ?_)
          refine RunL.store ti3 rfl rfl rfl rfl (by exact Nat.le_of_ble_eq_true rfl) (.inl rfl) ?_
          refine RunL.nil ?_
          refine Run.seq ?_
          refine Run.seq ?_
          refine Run.region ?_
          refine RunL.ok (OpOk.move rfl) rfl ?_
          refine RunL.nil ?_
          refine Run.block ?_
          have hL2 : ((l ++ ol)).length ≤ puts (ops.take (i + 1)) + (i + 1) := by omega
          have hL3 : ((l ++ ol)).length ≤ 1048726 := by omega
          refine Run.range (Z := Asn × Int) (iterS (v := y4) (ss := l) (b := y3) (by omega)) rfl rfl (fun z => old w0 * z.1 * pts bx1 (.cells #[.bool false] 4 (0, 0)) * pts by8 (.cells #[vy6] 22 (0, 0)) * own 9 1 vy6 l.length (Fl encS l) * pts bt2 (.cells #[.int .i64 z.2] 3 (0, 0)) * pts bx5 (.cells #[vy12] 22 (0, 0)) * own 9 1 vy12 ((l ++ ol)).length (Fl encS ((l ++ ol))) * pts bx4 (.cells #[y20] 26 (0, 0)) * own 9 1 y20 ((l ++ ol)).length (Fl encS ((l ++ ol)))) (fun i z => z.2 = (i : Int) ∧ i < 4) (fun c z => c = .exit 5 ∧ z.2 = 4 ∧ 4 ≤ l.length) (J * pts by1 (.cells (Value.agg (encT39 (0, oi, os, osv, ol)).toArray).cells 39 (0, 0)) * own 9 1 vy11 ol.length xs, 0) ⟨rfl, by decide⟩ ?_ (fun RR lo rc j z J3 hj hz hgo _ hex => ?_) (fun z J3 D hz => ?_) (fun c z J3 D hz => ?_)
          · simp only [← sep_assoc]
            exact (frc (frl rfl) (frc (frl (frl (frl (frl (frl (frl (frl (frl (frl rfl))))))))) (frc (frl (frl (frl (frl (frl (frl (frl (frl (frl rfl))))))))) (frc (frl (frl rfl)) (frc (frl (frl rfl)) (frc (frl (frl (frl rfl))) (frc (frl (frl rfl)) (frc rfl (frc (frl (frl (frl rfl))) (frc (frl (frl rfl)) rfl))))))))))
          · obtain ⟨J2, n⟩ := z
            simp only at hz hgo hex ⊢
            obtain ⟨hz, hj4⟩ := hz
            subst hz
            rcases Nat.lt_or_ge j 3 with h3 | h3
            · refine Run.region ?_
              refine RunL.ok (OpOk.assign rfl) rfl ?_
              refine RunL.nil ?_
              refine Run.beginRound ?_
              refine Run.block ?_
              refine Run.seq ?_
              refine Run.seq ?_
              refine Run.region ?_
              refine RunL.ok (OpOk.load rfl rfl rfl (Blk.out Blk.pts.left.left.left.left.left.left _ _ (by first | rfl | assumption))) rfl ?_
              refine RunL.ok (OpOk.load rfl rfl rfl (Blk.out Blk.pts.left.left.left.left.left.left.left.left _ _ (by first | rfl | assumption))) rfl ?_
              refine RunL.ok (OpOk.lenR rfl rfl (Rd.right rdy9).left.left.left.left.left.left.left rfl) rfl ?_
              refine RunL.ok (OpOk.asF (OpOk.geq rfl rfl) (by omega)) rfl ?_
              refine RunL.ok (OpOk.move rfl) rfl ?_
              refine RunL.on rfl rfl ?_
              refine RunL.ok (OpOk.move rfl) rfl ?_
              refine RunL.on rfl rfl ?_
              refine RunL.ok (OpOk.load rfl rfl rfl (Blk.out Blk.pts.left.left.left.left.left.left.left.left _ _ (by first | rfl | assumption))) rfl ?_
              refine RunL.on rfl rfl ?_
              refine RunL.ok (OpOk.load rfl rfl rfl (Blk.out Blk.pts.left.left.left.left.left.left _ _ (by first | rfl | assumption))) rfl ?_
              refine RunL.on rfl rfl ?_
              refine RunL.ok (OpOk.idx1N rfl ti9 rfl (Rd.right rdy9).left.left.left.left.left.left.left rfl (by omega)) rfl ?_
              refine RunL.on rfl rfl ?_
              refine RunL.ok (OpOk.loadStr rfl rfl rfl (Rd.right rdy9).left.left.left.left.left.left.left (by omega)) rfl ?_
              refine RunL.on rfl rfl ?_
              refine RunL.ok (OpOk.neqSS rfl rfl) rfl ?_
              refine RunL.ok (OpOk.pickF rfl rfl) rfl ?_
              refine RunL.nil ?_
              refine Run.condNF rfl (by first | omega | with_reducible rfl | assumption) ?_
              refine Run.skip ?_
              refine Run.seq ?_
              refine Run.region ?_
              refine RunL.ok (OpOk.load rfl rfl rfl (Blk.out Blk.pts.left.left.left.left.left.left _ _ (by first | rfl | assumption))) rfl ?_
              refine RunL.ok (OpOk.addN _ 1 rfl rfl rfl rfl (by omega)) rfl ?_
              refine RunL.store ti3 rfl rfl rfl (frl (frl (frl (frl (frl (frl rfl)))))) (by exact Nat.le_of_ble_eq_true rfl) (.inl rfl) ?_
              refine RunL.nil ?_
              refine Run.seq ?_
              refine Run.region ?_
              refine RunL.ok (OpOk.load rfl rfl rfl (Blk.out Blk.pts _ _ (by first | rfl | assumption))) rfl ?_
              refine RunL.ok (OpOk.asF (OpOk.eql rfl rfl) (by omega)) rfl ?_
              refine RunL.nil ?_
              refine Run.condF rfl ?_
              refine Run.skip ?_
              refine Run.inBlock ?_
              refine Run.jump ((hgo (_, (j : Int) + 1) ⟨by dsimp only; omega, by omega⟩ [])) trivial (Grew.of (Eq.trans (frc (frl rfl) (frc (frl rfl) (frc (frl rfl) (frc (frl rfl) (frc (frl rfl) (frc (frl rfl) (frc rfl rfl))))))) (congrArg (· * _) (congrArg (· * _) (congrArg (· * _) (congrArg (· * _) (congrArg (· * _) (congrArg (· * _) (congrArg (· * _) (congrArg (· * _) (congrArg (· * _) (congrArg (· * _) as1))))))))))) (Grew.refl _))
            · obtain rfl : j = 3 := by omega
              refine Run.region ?_
              refine RunL.ok (OpOk.assign rfl) rfl ?_
              refine RunL.nil ?_
              refine Run.beginRound ?_
              refine Run.block ?_
              refine Run.seq ?_
              refine Run.seq ?_
              refine Run.region ?_
              refine RunL.ok (OpOk.load rfl rfl rfl (Blk.out Blk.pts.left.left.left.left.left.left _ _ (by first | rfl | assumption))) rfl ?_
              refine RunL.ok (OpOk.load rfl rfl rfl (Blk.out Blk.pts.left.left.left.left.left.left.left.left _ _ (by first | rfl | assumption))) rfl ?_
              refine RunL.ok (OpOk.lenR rfl rfl (Rd.right rdy9).left.left.left.left.left.left.left rfl) rfl ?_
              refine RunL.ok (OpOk.asF (OpOk.geq rfl rfl) (by omega)) rfl ?_
              refine RunL.ok (OpOk.move rfl) rfl ?_
              refine RunL.on rfl rfl ?_
              refine RunL.ok (OpOk.move rfl) rfl ?_
              refine RunL.on rfl rfl ?_
              refine RunL.ok (OpOk.load rfl rfl rfl (Blk.out Blk.pts.left.left.left.left.left.left.left.left _ _ (by first | rfl | assumption))) rfl ?_
              refine RunL.on rfl rfl ?_
              refine RunL.ok (OpOk.load rfl rfl rfl (Blk.out Blk.pts.left.left.left.left.left.left _ _ (by first | rfl | assumption))) rfl ?_
              refine RunL.on rfl rfl ?_
              refine RunL.ok (OpOk.idx1N rfl ti9 rfl (Rd.right rdy9).left.left.left.left.left.left.left rfl (by omega)) rfl ?_
              refine RunL.on rfl rfl ?_
              refine RunL.ok (OpOk.loadStr rfl rfl rfl (Rd.right rdy9).left.left.left.left.left.left.left (by omega)) rfl ?_
              refine RunL.on rfl rfl ?_
              refine RunL.ok (OpOk.neqSS rfl rfl) rfl ?_
              refine RunL.ok (OpOk.pickF rfl rfl) rfl ?_
              refine RunL.nil ?_
              refine Run.condNF rfl (by first | omega | with_reducible rfl | assumption) ?_
              refine Run.skip ?_
              refine Run.seq ?_
              refine Run.region ?_
              refine RunL.ok (OpOk.load rfl rfl rfl (Blk.out Blk.pts.left.left.left.left.left.left _ _ (by first | rfl | assumption))) rfl ?_
              refine RunL.ok (OpOk.addN _ 1 rfl rfl rfl rfl (by omega)) rfl ?_
              refine RunL.store ti3 rfl rfl rfl (frl (frl (frl (frl (frl (frl rfl)))))) (by exact Nat.le_of_ble_eq_true rfl) (.inl rfl) ?_
              refine RunL.nil ?_
              refine Run.seq ?_
              refine Run.region ?_
              refine RunL.ok (OpOk.load rfl rfl rfl (Blk.out Blk.pts _ _ (by first | rfl | assumption))) rfl ?_
              refine RunL.ok (OpOk.asT (OpOk.eql rfl rfl) (by omega)) rfl ?_
              refine RunL.nil ?_
              refine Run.condT rfl ?_
              refine Run.jump ((hex 5 (_, 4) ⟨rfl, rfl, by omega⟩ _ [] rfl)) trivial (Grew.of (Eq.trans (frc (frl rfl) (frc (frl rfl) (frc (frl rfl) (frc (frl rfl) (frc (frl rfl) (frc (frl rfl) (frc rfl rfl))))))) (congrArg (· * _) (congrArg (· * _) (congrArg (· * _) (congrArg (· * _) (congrArg (· * _) (congrArg (· * _) (congrArg (· * _) (congrArg (· * _) (congrArg (· * _) (congrArg (· * _) as1))))))))))) (Grew.refl _))
          · obtain ⟨J2, n⟩ := z
            simp only at hz ⊢
            obtain ⟨hz, hn4⟩ := hz
            subst hz
            refine Run.inBlock ?_
            refine Run.seq ?_
            refine Run.know (fun w s => (s.conv (frl (frl (frl (frl rfl))))).ownRd0) (fun rdz1 => ?_)
            (apply Run.drawD [] (by rfl) (Eq.trans (frc (frl (frl rfl)) (frc (frl (frl rfl)) rfl)) (asg rfl)); case hchk => kernel_rfl)
            refine Sd.quiet 0 _ _ rfl rfl rfl rfl rfl (QOp.ok (fun X => OpOk.load rfl rfl rfl (Blk.out Blk.pts.left.left.left.left.left.left _ _ (by first | rfl | assumption)))) ?_
            refine Sd.quiet 1 _ _ rfl rfl rfl rfl rfl (QOp.ok (fun X => OpOk.load rfl rfl rfl (Blk.out Blk.pts.left.left.left.left.left.left.left.left _ _ (by first | rfl | assumption)))) ?_
            refine Sd.quiet 2 _ _ rfl rfl rfl rfl rfl (QOp.ok (fun X => OpOk.lenR rfl rfl (Rd.right rdy9).left.left.left.left.left.left.left rfl)) ?_
            refine Sd.quiet 3 _ _ rfl rfl rfl rfl rfl (QOp.ok (fun X => OpOk.min2L rfl rfl rfl (by omega))) ?_
            refine Sd.quiet 4 _ _ rfl rfl rfl rfl rfl (QOp.ok (fun X => OpOk.as (c := false) (OpOk.neq rfl rfl) (by rw [decide_eq_true (by omega)]; rfl))) ?_
            refine Sd.quiet 5 _ _ rfl rfl rfl rfl rfl (QOp.ok (fun X => OpOk.move rfl)) ?_
            refine Sd.quiet 6 _ _ rfl rfl rfl rfl rfl (QOp.ok (fun X => OpOk.move rfl)) ?_
            refine Sd.quiet 8 _ _ rfl rfl rfl rfl rfl (QOp.ok (fun X => OpOk.load rfl rfl rfl (Blk.out Blk.pts.left.left.left.left.left _ _ (by first | rfl | assumption)))) ?_
            (refine Sd.exec 7 rfl rfl rfl rfl rfl ?hrest (by rfl) (fun Xz2 Kz2 hKz2 => ?_); case hrest => kernel_rfl)
            refine RunL.mem (fl2 (sep_emp _) (flS rfl)) ?_
            refine RunL.call cal30 rfl (s30 (by omega)) rfl (fun vz3 Az3 hz3 => ?_)
            obtain ⟨z4, rfl⟩ := hz3
            refine RunL.know (fun w s => (s.conv rfl).ownRd0) (fun rdz5 => ?_)
            refine Sd.ret hKz2 (Eq.trans (frc (frl rfl) (frc (frl rfl) rfl)) (gp2 (asg rfl) (asg rfl))) ⟨_, (emp_sep _).symm⟩ ?_
            refine Sd.quiet 9 _ _ rfl rfl rfl rfl rfl (QOp.call cal24 rfl (fun X => s24 (Rd.right (Rd.right rdz5)).left (Rd.right rdz1).left.left.left.left)) ?_
            refine Sd.quiet 10 _ _ rfl rfl rfl rfl rfl (QOp.ok (fun X => OpOk.not rfl)) ?_
            refine Sd.quiet 11 _ _ rfl rfl rfl rfl rfl (QOp.ok (fun X => OpOk.pickF rfl rfl)) ?_
            refine Sd.quiet 12 _ _ rfl rfl rfl rfl rfl (QOp.ok (fun X => OpOk.move rfl)) ?_
            refine Sd.splitBF (bnF (by first | omega | with_reducible rfl | assumption)) ?_
            refine Sd.quiet 13 _ _ rfl rfl rfl rfl rfl (QOp.ok (fun X => OpOk.move rfl)) ?_
            refine Sd.quiet 15 _ _ rfl rfl rfl rfl rfl (QOp.ok (fun X => OpOk.load rfl rfl rfl (Blk.out Blk.pts.left.left.left.left.left _ _ (by first | rfl | assumption)))) ?_
            refine Sd.quiet 16 _ _ rfl rfl rfl rfl rfl (QOp.ok (fun X => OpOk.lenR rfl rfl (Rd.right rdz1).left.left.left.left rfl)) ?_
            (refine Sd.exec 14 rfl rfl rfl rfl rfl ?hrest (by rfl) (fun Xz6 Kz6 hKz6 => ?_); case hrest => kernel_rfl)
            refine RunL.mem (fl2 (flS rfl) (flS rfl)) ?_
            refine RunL.call cal20 rfl (s20) rfl (fun vz7 Az7 hz7 => ?_)
            obtain ⟨rfl, rfl⟩ := hz7
            refine Sd.ret hKz6 (Eq.trans rfl (gp2 (sep_emp _).symm (asg (asg (asg rfl))))) ⟨_, (asg rfl)⟩ ?_
            refine Sd.quiet 17 _ _ rfl rfl rfl rfl rfl (QOp.ok (fun X => OpOk.as (c := false) (OpOk.neq rfl rfl) (by rw [decide_eq_true (by omega)]; rfl))) ?_
            refine Sd.quiet 18 _ _ rfl rfl rfl rfl rfl (QOp.ok (fun X => OpOk.pickF rfl rfl)) ?_
            (apply Sd.tail; case hall => kernel_rfl)
            refine RunL.mem (fl2 (flS (flS (flS rfl))) (sep_emp _)) ?_
            refine RunL.nil ?_
            refine Run.condF rfl ?_
            refine Run.skip ?_
            refine Run.inBlock ?_
            refine Run.region ?_
            refine RunL.ok (OpOk.move rfl) rfl ?_
            refine RunL.ok (OpOk.addN _ 1 rfl rfl rfl rfl (by omega)) rfl ?_
            refine RunL.ok (OpOk.assign rfl) rfl ?_
            refine RunL.nil ?_
            refine Run.jump ((ih (i + 1, D :: ds, _, y20, vy12, (l ++ ol)) ⟨by dsimp only; omega, by dsimp only; omega, hL2⟩ (by dsimp only; omega))) ⟨rfl, rfl, rfl, rfl, rfl, trivial⟩ (Grew.of (Eq.trans (frc (frl (frl (frl (frl rfl)))) (frc rfl (frc rfl (frc (frl (frl (frl rfl))) (frc (frl (frl (frl rfl))) (frc (frl (frl (frl (frl (frl (frl rfl)))))) rfl)))))) (congrArg (· * _) (congrArg (· * _) (congrArg (· * _) (congrArg (· * _) (congrArg (· * _) (congrArg (· * _) (asg (asg (asg (asg (asg (asg as1))))))))))))) (Grew.refl _))
          · obtain ⟨J2, n⟩ := z
            simp only at hz ⊢
            obtain ⟨rfl, hz, hn4⟩ := hz
            subst hz
            refine Run.exit rfl ?_
            refine Run.seq ?_
            refine Run.know (fun w s => (s.conv (frl (frl (frl (frl rfl))))).ownRd0) (fun rdz1 => ?_)
            (apply Run.drawD [] (by rfl) (Eq.trans (frc (frl (frl rfl)) (frc (frl (frl rfl)) rfl)) (asg rfl)); case hchk => kernel_rfl)
            refine Sd.quiet 0 _ _ rfl rfl rfl rfl rfl (QOp.ok (fun X => OpOk.load rfl rfl rfl (Blk.out Blk.pts.left.left.left.left.left.left _ _ (by first | rfl | assumption)))) ?_
            refine Sd.quiet 1 _ _ rfl rfl rfl rfl rfl (QOp.ok (fun X => OpOk.load rfl rfl rfl (Blk.out Blk.pts.left.left.left.left.left.left.left.left _ _ (by first | rfl | assumption)))) ?_
            refine Sd.quiet 2 _ _ rfl rfl rfl rfl rfl (QOp.ok (fun X => OpOk.lenR rfl rfl (Rd.right rdy9).left.left.left.left.left.left.left rfl)) ?_
            refine Sd.quiet 3 _ _ rfl rfl rfl rfl rfl (QOp.ok (fun X => OpOk.min2R rfl rfl rfl (by omega))) ?_
            refine Sd.quiet 4 _ _ rfl rfl rfl rfl rfl (QOp.ok (fun X => OpOk.as (c := false) (OpOk.neq rfl rfl) (by rw [decide_eq_true (by omega)]; rfl))) ?_
            refine Sd.quiet 5 _ _ rfl rfl rfl rfl rfl (QOp.ok (fun X => OpOk.move rfl)) ?_
            refine Sd.quiet 6 _ _ rfl rfl rfl rfl rfl (QOp.ok (fun X => OpOk.move rfl)) ?_
            refine Sd.quiet 8 _ _ rfl rfl rfl rfl rfl (QOp.ok (fun X => OpOk.load rfl rfl rfl (Blk.out Blk.pts.left.left.left.left.left _ _ (by first | rfl | assumption)))) ?_
            (refine Sd.exec 7 rfl rfl rfl rfl rfl ?hrest (by rfl) (fun Xz2 Kz2 hKz2 => ?_); case hrest => kernel_rfl)
            refine RunL.mem (fl2 (sep_emp _) (flS rfl)) ?_
            refine RunL.call cal30 rfl (s30 (by omega)) rfl (fun vz3 Az3 hz3 => ?_)
            obtain ⟨z4, rfl⟩ := hz3
            refine RunL.know (fun w s => (s.conv rfl).ownRd0) (fun rdz5 => ?_)
            refine Sd.ret hKz2 (Eq.trans (frc (frl rfl) (frc (frl rfl) rfl)) (gp2 (asg rfl) (asg rfl))) ⟨_, (emp_sep _).symm⟩ ?_
            refine Sd.quiet 9 _ _ rfl rfl rfl rfl rfl (QOp.call cal24 rfl (fun X => s24 (Rd.right (Rd.right rdz5)).left (Rd.right rdz1).left.left.left.left)) ?_
            refine Sd.quiet 10 _ _ rfl rfl rfl rfl rfl (QOp.ok (fun X => OpOk.not rfl)) ?_
            refine Sd.quiet 11 _ _ rfl rfl rfl rfl rfl (QOp.ok (fun X => OpOk.pickF rfl rfl)) ?_
            refine Sd.quiet 12 _ _ rfl rfl rfl rfl rfl (QOp.ok (fun X => OpOk.move rfl)) ?_
            refine Sd.splitBF (bnF (by first | omega | with_reducible rfl | assumption)) ?_
            refine Sd.quiet 13 _ _ rfl rfl rfl rfl rfl (QOp.ok (fun X => OpOk.move rfl)) ?_
            refine Sd.quiet 15 _ _ rfl rfl rfl rfl rfl (QOp.ok (fun X => OpOk.load rfl rfl rfl (Blk.out Blk.pts.left.left.left.left.left _ _ (by first | rfl | assumption)))) ?_
            refine Sd.quiet 16 _ _ rfl rfl rfl rfl rfl (QOp.ok (fun X => OpOk.lenR rfl rfl (Rd.right rdz1).left.left.left.left rfl)) ?_
            (refine Sd.exec 14 rfl rfl rfl rfl rfl ?hrest (by rfl) (fun Xz6 Kz6 hKz6 => ?_); case hrest => kernel_rfl)
            refine RunL.mem (fl2 (flS rfl) (flS rfl)) ?_
            refine RunL.call cal20 rfl (s20) rfl (fun vz7 Az7 hz7 => ?_)
            obtain ⟨rfl, rfl⟩ := hz7
            refine Sd.ret hKz6 (Eq.trans rfl (gp2 (sep_emp _).symm (asg (asg (asg rfl))))) ⟨_, (asg rfl)⟩ ?_
            refine Sd.quiet 17 _ _ rfl rfl rfl rfl rfl (QOp.ok (fun X => OpOk.as (c := false) (OpOk.neq rfl rfl) (by rw [decide_eq_true (by omega)]; rfl))) ?_
            refine Sd.quiet 18 _ _ rfl rfl rfl rfl rfl (QOp.ok (fun X => OpOk.pickF rfl rfl)) ?_
            (apply Sd.tail; case hall => kernel_rfl)
            refine RunL.mem (fl2 (flS (flS (flS rfl))) (sep_emp _)) ?_
            refine RunL.nil ?_
            refine Run.condF rfl ?_
            refine Run.skip ?_
            refine Run.inBlock ?_
            refine Run.region ?_
            refine RunL.ok (OpOk.move rfl) rfl ?_
            refine RunL.ok (OpOk.addN _ 1 rfl rfl rfl rfl (by omega)) rfl ?_
            refine RunL.ok (OpOk.assign rfl) rfl ?_
            refine RunL.nil ?_
            refine Run.jump ((ih (i + 1, D :: ds, _, y20, vy12, (l ++ ol)) ⟨by dsimp only; omega, by dsimp only; omega, hL2⟩ (by dsimp only; omega))) ⟨rfl, rfl, rfl, rfl, rfl, trivial⟩ (Grew.of (Eq.trans (frc (frl (frl (frl (frl rfl)))) (frc rfl (frc rfl (frc (frl (frl (frl rfl))) (frc (frl (frl (frl rfl))) (frc (frl (frl (frl (frl (frl (frl rfl)))))) rfl)))))) (congrArg (· * _) (congrArg (· * _) (congrArg (· * _) (congrArg (· * _) (congrArg (· * _) (congrArg (· * _) (asg (asg (asg (asg (asg (asg as1))))))))))))) (Grew.refl _))
      · rcases Decidable.em (ok = 1) with hk1 | hk1
        · subst hk1
          rcases Nat.eq_zero_or_pos l.length with h0 | h0
          · refine Run.seq ?_
            refine Run.seq ?_
            refine Run.region ?_
            refine RunL.ok (OpOk.move rfl) rfl ?_
            refine RunL.ok (OpOk.move rfl) rfl ?_
            refine RunL.ok (OpOk.lenR rfl rfl rd.left.left.left.left.left.left.left rfl) rfl ?_
            refine RunL.ok (OpOk.asT (OpOk.lss rfl rfl) (by omega)) rfl ?_
            refine RunL.ok (OpOk.move rfl) rfl ?_
            refine RunL.on rfl rfl ?_
            refine RunL.ok (OpOk.move rfl) rfl ?_
            refine RunL.on rfl rfl ?_
            refine RunL.ok (OpOk.asT (OpOk.lss rfl rfl) (by omega)) rfl ?_
            refine RunL.ok (OpOk.pickT rfl rfl) rfl ?_
            refine RunL.nil ?_
            refine Run.condT rfl ?_
            refine Run.skip ?_
            refine Run.seq ?_
            refine Run.block ?_
            refine Run.seq ?_
            refine Run.region ?_
            refine RunL.ok (OpOk.move rfl) rfl ?_
            refine RunL.ok (OpOk.move rfl) rfl ?_
            refine RunL.ok (OpOk.idxN rfl ti39 rfl rd.left.left.left.left.left.left.left rfl (by omega)) rfl ?_
            refine RunL.ok (OpOk.loadFlE (by assumption) rfl rfl ti39 rfl rd.left.left.left.left.left.left.left (fun _ => rfl) rfl (by omega)) rfl ?_
            refine RunL.alloc ti39 rfl (fun by1 => ?_)
            refine RunL.storeAll ti39 rfl rfl rfl (by assumption) rfl rfl ?_
            refine RunL.nil ?_
            refine Run.seq ?_
            refine Run.region ?_
            refine RunL.ok (OpOk.move rfl) rfl ?_
            refine RunL.mem (frc (frl (frl rfl)) (frc (frl (frl rfl)) rfl)) ?_
            refine RunL.call cal25 rfl (s25 (by omega)) rfl (fun vy2 Ay2 hy2 => ?_)
            obtain ⟨y3, ⟨y4, ⟨rfl, rfl⟩⟩⟩ := hy2
            refine RunL.ok (OpOk.assign rfl) rfl ?_
            refine RunL.nil ?_
            refine Run.seq ?_
            refine Run.region ?_
            refine RunL.lit0 rfl ti9 rfl (fun vy5 rdy5 => ?_)
            refine RunL.ok (OpOk.load rfl rfl rfl (Blk.out Blk.pts.left.left.left.left.left.left.left.left _ _ (by first | rfl | assumption))) rfl ?_
            refine RunL.know (fun w s => (s.conv (frl (frl (frl (frl (frl (frl (frl rfl)))))))).ownRd0) (fun rdy7 => ?_)
            refine RunL.appendF0 rfl ti9 rfl rfl rfl rfl (Rd.right rdy7).left.left.left.left.left.left.left rfl (by decide) (by omega) (by simp only [maxLen]; omega) rfl (fun vy6 rdy6 => ?_)
            refine RunL.alloc ti22 rfl (fun by8 => ?_)
            refine RunL.know (fun w s => (s.conv (frl rfl)).ownRd0) (fun rdy9 => ?_)
            refine RunL.store ti22 rfl rfl (Rd.one rdy9) rfl (by exact Nat.le_of_ble_eq_true rfl) (.inl rfl) ?_
            refine RunL.nil ?_
            refine Run.seq ?_
            refine Run.seq ?_
            refine Run.region ?_
            refine RunL.ok (OpOk.fieldAddr fld39_0 rfl) rfl ?_
            refine RunL.ok (OpOk.load rfl rfl rfl (Blk.out Blk.pts.left.left.left.left.left.left _ _ (by first | rfl | assumption))) rfl ?_
            refine RunL.nil ?_
            refine Run.block ?_
            refine Run.seq ?_
            refine Run.region ?_
            refine RunL.ok (OpOk.asF (OpOk.eql rfl rfl) (by omega)) rfl ?_
            refine RunL.ok (OpOk.assign rfl) rfl ?_
            refine RunL.nil ?_
            refine Run.condF rfl ?_
            refine Run.seq ?_
            refine Run.region ?_
            refine RunL.ok (OpOk.asT (OpOk.eql rfl rfl) (by omega)) rfl ?_
            refine RunL.ok (OpOk.assign rfl) rfl ?_
            refine RunL.nil ?_
            refine Run.condT rfl ?_
            refine Run.seq ?_
            refine Run.region ?_
            refine RunL.ok (OpOk.move rfl) rfl ?_
            refine RunL.ok (OpOk.fieldAddr fld39_1 rfl) rfl ?_
            refine RunL.ok (OpOk.load rfl rfl rfl (Blk.out Blk.pts.left.left.left.left.left.left _ _ (by first | rfl | assumption))) rfl ?_
            refine RunL.mem (frc (frl (frl (frl (frl rfl)))) (frc (frl (frl (frl (frl rfl)))) rfl)) ?_
            refine RunL.call cal19 rfl (s19a (by assumption)) rfl (fun vy10 Ay10 hy10 => ?_)
            obtain ⟨rfl, rfl⟩ := hy10
            refine RunL.ok (OpOk.move rfl) rfl ?_
            refine RunL.ok (OpOk.ext20 rfl) rfl ?_
            refine RunL.ok (OpOk.ext21 rfl) rfl ?_
            refine RunL.ok (OpOk.assign rfl) rfl ?_
            refine RunL.ok (OpOk.assign rfl) rfl ?_
            refine RunL.nil ?_
            refine Run.seq ?_
            refine Run.seq ?_
            refine Run.region ?_
            refine RunL.ok (OpOk.move rfl) rfl ?_
            refine RunL.ok (OpOk.load rfl rfl rfl (Blk.out Blk.pts.left.left.left.left.left.left.left.left.left _ _ (by first | rfl | assumption))) rfl ?_
            refine RunL.ok (OpOk.lenR rfl rfl (Rd.right rdy7).left.left.left.left.left.left.left.left rfl) rfl ?_
            refine RunL.ok (OpOk.asF (OpOk.gtr rfl rfl) (by omega)) rfl ?_
            refine RunL.ok (OpOk.neqB rfl rfl rfl) rfl ?_
            refine RunL.ok (OpOk.move rfl) rfl ?_
            refine RunL.on rfl rfl ?_
            refine RunL.ok (OpOk.move rfl) rfl ?_
            refine RunL.on rfl rfl ?_
            refine RunL.ok (OpOk.not rfl) rfl ?_
            refine RunL.on rfl rfl ?_
            refine RunL.ok (OpOk.move rfl) rfl ?_
            refine RunL.on rfl rfl ?_
            refine RunL.ok (OpOk.move rfl) rfl ?_
            refine RunL.on rfl rfl ?_
            refine RunL.ok (OpOk.neqSS rfl rfl) rfl ?_
            refine RunL.on rfl rfl ?_
            refine RunL.ok (OpOk.pickT rfl rfl) rfl ?_
            refine RunL.ok (OpOk.pickF rfl rfl) rfl ?_
            refine RunL.nil ?_
            refine Run.condF rfl ?_
            refine Run.skip ?_
            refine Run.seq ?_
            refine Run.region ?_
            refine RunL.ok (OpOk.move rfl) rfl ?_
            refine RunL.nil ?_
            refine Run.condF rfl ?_
            refine Run.skip ?_
            refine Run.inBlock ?_
            refine Run.seq ?_
            refine Run.region ?_
            refine RunL.alloc ti3 rfl (fun by13 => ?_)
            refine RunL.store ti3 rfl rfl rfl rfl (by exact Nat.le_of_ble_eq_true rfl) (.inl rfl) ?_
            refine RunL.nil ?_
            refine Run.seq ?_
            refine Run.seq ?_
            refine Run.region ?_
            refine RunL.ok (OpOk.move rfl) rfl ?_
            refine RunL.nil ?_
            refine Run.block ?_
            have hL2 : (l).length ≤ puts (ops.take (i + 1)) + (i + 1) := by omega
            have hL3 : (l).length ≤ 1048726 := by omega
            refine Run.range (Z := Asn × Int) (iterS (v := y4) (ss := l) (b := y3) (by omega)) rfl rfl (fun z => old w0 * z.1 * pts bx1 (.cells #[.bool false] 4 (0, 0)) * pts by8 (.cells #[vy6] 22 (0, 0)) * own 9 1 vy6 l.length (Fl encS l) * pts by13 (.cells #[.int .i64 z.2] 3 (0, 0)) * pts bx5 (.cells #[lv] 22 (0, 0)) * own 9 1 lv (l).length (Fl encS (l)) * pts bx4 (.cells #[v] 26 (0, 0)) * own 9 1 v (l).length (Fl encS (l))) (fun i z => z.2 = (i : Int) ∧ i < 4) (fun c z => c = .exit 5 ∧ z.2 = 4 ∧ 4 ≤ l.length) (J * pts by1 (.cells (Value.agg (encT39 (1, oi, os, osv, ol)).toArray).cells 39 (0, 0)), 0) ⟨rfl, by decide⟩ ?_ (fun RR lo rc j z J3 hj hz hgo _ hex => ?_) (fun z J3 D hz => ?_) (fun c z J3 D hz => ?_)
            · simp only [← sep_assoc]
              exact (frc (frl (frl (frl (frl (frl (frl (frl (frl rfl)))))))) (frc (frl (frl (frl (frl (frl rfl))))) (frc (frl (frl (frl (frl (frl rfl))))) (frc (frl rfl) (frc (frl rfl) (frc (frl (frl (frl (frl rfl)))) (frc (frl (frl (frl (frl rfl)))) (frc rfl (frc (frl rfl) (frc rfl (frc (frl rfl) rfl)))))))))))
            · exact absurd hj (by omega)
            · obtain ⟨J2, n⟩ := z
              simp only at hz ⊢
              obtain ⟨hz, hn4⟩ := hz
              subst hz
              refine Run.inBlock ?_
              refine Run.seq ?_
              refine Run.know (fun w s => (s.conv (frl (frl rfl))).ownRd0) (fun rdz1 => ?_)
              (apply Run.drawD [] (by rfl) (Eq.trans (frc (frl (frl rfl)) (frc (frl (frl rfl)) rfl)) (asg rfl)); case hchk => kernel_rfl)
              refine Sd.quiet 0 _ _ rfl rfl rfl rfl rfl (QOp.ok (fun X => OpOk.load rfl rfl rfl (Blk.out Blk.pts.left.left.left.left.left.left _ _ (by first | rfl | assumption)))) ?_
              refine Sd.quiet 1 _ _ rfl rfl rfl rfl rfl (QOp.ok (fun X => OpOk.load rfl rfl rfl (Blk.out Blk.pts.left.left.left.left.left.left.left.left _ _ (by first | rfl | assumption)))) ?_
              refine Sd.quiet 2 _ _ rfl rfl rfl rfl rfl (QOp.ok (fun X => OpOk.lenR rfl rfl (Rd.right rdy9).left.left.left.left.left.left.left rfl)) ?_
              refine Sd.quiet 3 _ _ rfl rfl rfl rfl rfl (QOp.ok (fun X => OpOk.min2L rfl rfl rfl (by omega))) ?_
              refine Sd.quiet 4 _ _ rfl rfl rfl rfl rfl (QOp.ok (fun X => OpOk.as (c := false) (OpOk.neq rfl rfl) (by rw [decide_eq_true (by omega)]; rfl))) ?_
              refine Sd.quiet 5 _ _ rfl rfl rfl rfl rfl (QOp.ok (fun X => OpOk.move rfl)) ?_
              refine Sd.quiet 6 _ _ rfl rfl rfl rfl rfl (QOp.ok (fun X => OpOk.move rfl)) ?_
              refine Sd.quiet 8 _ _ rfl rfl rfl rfl rfl (QOp.ok (fun X => OpOk.load rfl rfl rfl (Blk.out Blk.pts.left.left.left.left.left _ _ (by first | rfl | assumption)))) ?_
              (refine Sd.exec 7 rfl rfl rfl rfl rfl ?hrest (by rfl) (fun Xz2 Kz2 hKz2 => ?_); case hrest => kernel_rfl)
              refine RunL.mem (fl2 (sep_emp _) (flS rfl)) ?_
              refine RunL.call cal30 rfl (s30 (by omega)) rfl (fun vz3 Az3 hz3 => ?_)
              obtain ⟨z4, rfl⟩ := hz3
              refine RunL.know (fun w s => (s.conv rfl).ownRd0) (fun rdz5 => ?_)
              refine Sd.ret hKz2 (Eq.trans (frc (frl rfl) (frc (frl rfl) rfl)) (gp2 (asg rfl) (asg rfl))) ⟨_, (emp_sep _).symm⟩ ?_
              refine Sd.quiet 9 _ _ rfl rfl rfl rfl rfl (QOp.call cal24 rfl (fun X => s24 (Rd.right (Rd.right rdz5)).left (Rd.right rdy7).left.left.left.left)) ?_
              refine Sd.quiet 10 _ _ rfl rfl rfl rfl rfl (QOp.ok (fun X => OpOk.not rfl)) ?_
              refine Sd.quiet 11 _ _ rfl rfl rfl rfl rfl (QOp.ok (fun X => OpOk.pickF rfl rfl)) ?_
              refine Sd.quiet 12 _ _ rfl rfl rfl rfl rfl (QOp.ok (fun X => OpOk.move rfl)) ?_
              refine Sd.splitBF (bnF (by first | omega | with_reducible rfl | assumption)) ?_
              refine Sd.quiet 13 _ _ rfl rfl rfl rfl rfl (QOp.ok (fun X => OpOk.move rfl)) ?_
              refine Sd.quiet 15 _ _ rfl rfl rfl rfl rfl (QOp.ok (fun X => OpOk.load rfl rfl rfl (Blk.out Blk.pts.left.left.left.left.left _ _ (by first | rfl | assumption)))) ?_
              refine Sd.quiet 16 _ _ rfl rfl rfl rfl rfl (QOp.ok (fun X => OpOk.lenR rfl rfl (Rd.right rdy7).left.left.left.left rfl)) ?_
              (refine Sd.exec 14 rfl rfl rfl rfl rfl ?hrest (by rfl) (fun Xz6 Kz6 hKz6 => ?_); case hrest => kernel_rfl)
              refine RunL.mem (fl2 (flS rfl) (flS rfl)) ?_
              refine RunL.call cal20 rfl (s20) rfl (fun vz7 Az7 hz7 => ?_)
              obtain ⟨rfl, rfl⟩ := hz7
              refine Sd.ret hKz6 (Eq.trans rfl (gp2 (sep_emp _).symm (asg (asg (asg rfl))))) ⟨_, (asg rfl)⟩ ?_
              refine Sd.quiet 17 _ _ rfl rfl rfl rfl rfl (QOp.ok (fun X => OpOk.as (c := false) (OpOk.neq rfl rfl) (by rw [decide_eq_true (by omega)]; rfl))) ?_
              refine Sd.quiet 18 _ _ rfl rfl rfl rfl rfl (QOp.ok (fun X => OpOk.pickF rfl rfl)) ?_
              (apply Sd.tail; case hall => kernel_rfl)
              refine RunL.mem (fl2 (flS (flS (flS rfl))) (sep_emp _)) ?_
              refine RunL.nil ?_
              refine Run.condF rfl ?_
              refine Run.skip ?_
              refine Run.inBlock ?_
              refine Run.region ?_
              refine RunL.ok (OpOk.move rfl) rfl ?_
              refine RunL.ok (OpOk.addN _ 1 rfl rfl rfl rfl (by omega)) rfl ?_
              refine RunL.ok (OpOk.assign rfl) rfl ?_
              refine RunL.nil ?_
              refine Run.jump ((ih (i + 1, D :: ds, _, v, lv, l) ⟨by dsimp only; omega, by dsimp only; omega, hL2⟩ (by dsimp only; omega))) ⟨rfl, rfl, rfl, rfl, rfl, trivial⟩ (Grew.of (Eq.trans (frc (frl (frl (frl (frl rfl)))) (frc rfl (frc rfl (frc (frl (frl (frl rfl))) (frc (frl (frl (frl rfl))) (frc (frl (frl (frl (frl (frl (frl rfl)))))) rfl)))))) (congrArg (· * _) (congrArg (· * _) (congrArg (· * _) (congrArg (· * _) (congrArg (· * _) (congrArg (· * _) (asg (asg (asg (asg (asg (asg as1))))))))))))) (Grew.refl _))
            · exact absurd hz.2.2 (by omega)
          · obtain ⟨k, hk, hkl⟩ := mod_nat oi h0
            have hdl := del_length hkl
            refine Run.seq ?_
            refine Run.seq ?_
            refine Run.region ?_
            refine RunL.ok (OpOk.move rfl) rfl ?_
            refine RunL.ok (OpOk.move rfl) rfl ?_
            refine RunL.ok (OpOk.lenR rfl rfl rd.left.left.left.left.left.left.left rfl) rfl ?_
            refine RunL.ok (OpOk.asT (OpOk.lss rfl rfl) (by omega)) rfl ?_
            refine RunL.ok (OpOk.move rfl) rfl ?_
            refine RunL.on rfl rfl ?_
            refine RunL.ok (OpOk.move rfl) rfl ?_
            refine RunL.on rfl rfl ?_
            refine RunL.ok (OpOk.asT (OpOk.lss rfl rfl) (by omega)) rfl ?_
            refine RunL.ok (OpOk.pickT rfl rfl) rfl ?_
            refine RunL.nil ?_
            refine Run.condT rfl ?_
            refine Run.skip ?_
            refine Run.seq ?_
            refine Run.block ?_
            refine Run.seq ?_
            refine Run.region ?_
            refine RunL.ok (OpOk.move rfl) rfl ?_
            refine RunL.ok (OpOk.move rfl) rfl ?_
            refine RunL.ok (OpOk.idxN rfl ti39 rfl rd.left.left.left.left.left.left.left rfl (by omega)) rfl ?_
            refine RunL.ok (OpOk.loadFlE (by assumption) rfl rfl ti39 rfl rd.left.left.left.left.left.left.left (fun _ => rfl) rfl (by omega)) rfl ?_
            refine RunL.alloc ti39 rfl (fun by1 => ?_)
            refine RunL.storeAll ti39 rfl rfl rfl (by assumption) rfl rfl ?_
            refine RunL.nil ?_
            refine Run.seq ?_
            refine Run.region ?_
            refine RunL.ok (OpOk.move rfl) rfl ?_
            refine RunL.mem (frc (frl (frl rfl)) (frc (frl (frl rfl)) rfl)) ?_
            refine RunL.call cal25 rfl (s25 (by omega)) rfl (fun vy2 Ay2 hy2 => ?_)
            obtain ⟨y3, ⟨y4, ⟨rfl, rfl⟩⟩⟩ := hy2
            refine RunL.ok (OpOk.assign rfl) rfl ?_
            refine RunL.nil ?_
            refine Run.seq ?_
            refine Run.region ?_
            refine RunL.lit0 rfl ti9 rfl (fun vy5 rdy5 => ?_)
            refine RunL.ok (OpOk.load rfl rfl rfl (Blk.out Blk.pts.left.left.left.left.left.left.left.left _ _ (by first | rfl | assumption))) rfl ?_
            refine RunL.know (fun w s => (s.conv (frl (frl (frl (frl (frl (frl (frl rfl)))))))).ownRd0) (fun rdy7 => ?_)
            refine RunL.appendF0 rfl ti9 rfl rfl rfl rfl (Rd.right rdy7).left.left.left.left.left.left.left rfl (by decide) (by omega) (by simp only [maxLen]; omega) rfl (fun vy6 rdy6 => ?_)
            refine RunL.alloc ti22 rfl (fun by8 => ?_)
            refine RunL.know (fun w s => (s.conv (frl rfl)).ownRd0) (fun rdy9 => ?_)
            refine RunL.store ti22 rfl rfl (Rd.one rdy9) rfl (by exact Nat.le_of_ble_eq_true rfl) (.inl rfl) ?_
            refine RunL.nil ?_
            refine Run.seq ?_
            refine Run.seq ?_
            refine Run.region ?_
            refine RunL.ok (OpOk.fieldAddr fld39_0 rfl) rfl ?_
            refine RunL.ok (OpOk.load rfl rfl rfl (Blk.out Blk.pts.left.left.left.left.left.left _ _ (by first | rfl | assumption))) rfl ?_
            refine RunL.nil ?_
            refine Run.block ?_
            refine Run.seq ?_
            refine Run.region ?_
            refine RunL.ok (OpOk.asF (OpOk.eql rfl rfl) (by omega)) rfl ?_
            refine RunL.ok (OpOk.assign rfl) rfl ?_
            refine RunL.nil ?_
            refine Run.condF rfl ?_
            refine Run.seq ?_
            refine Run.region ?_
            refine RunL.ok (OpOk.asT (OpOk.eql rfl rfl) (by omega)) rfl ?_
            refine RunL.ok (OpOk.assign rfl) rfl ?_
            refine RunL.nil ?_
            refine Run.condT rfl ?_
            refine Run.seq ?_
            refine Run.region ?_
            refine RunL.ok (OpOk.move rfl) rfl ?_
            refine RunL.ok (OpOk.fieldAddr fld39_1 rfl) rfl ?_
            refine RunL.ok (OpOk.load rfl rfl rfl (Blk.out Blk.pts.left.left.left.left.left.left _ _ (by first | rfl | assumption))) rfl ?_
            refine RunL.mem (frc (frl (frl (frl (frl rfl)))) (frc (frl (frl (frl (frl rfl)))) rfl)) ?_
            refine RunL.call cal19 rfl (s19 (by assumption) (by omega) (by assumption)) rfl (fun vy11 Ay11 hy11 => ?_)
            obtain ⟨y12, ⟨rfl, rfl⟩⟩ := hy11
            refine RunL.ok (OpOk.move rfl) rfl ?_
            refine RunL.ok (OpOk.ext20 rfl) rfl ?_
            refine RunL.ok (OpOk.ext21 rfl) rfl ?_
            refine RunL.ok (OpOk.assign rfl) rfl ?_
            refine RunL.ok (OpOk.assign rfl) rfl ?_
            refine RunL.nil ?_
            refine Run.seq ?_
            refine Run.seq ?_
            refine Run.region ?_
            refine RunL.ok (OpOk.move rfl) rfl ?_
            refine RunL.ok (OpOk.load rfl rfl rfl (Blk.out Blk.pts.left.left.left.left.left.left.left.left.left _ _ (by first | rfl | assumption))) rfl ?_
            refine RunL.ok (OpOk.lenR rfl rfl (Rd.right rdy7).left.left.left.left.left.left.left.left rfl) rfl ?_
            refine RunL.ok (OpOk.asT (OpOk.gtr rfl rfl) (by omega)) rfl ?_
            refine RunL.ok (OpOk.neqB rfl rfl rfl) rfl ?_
            refine RunL.ok (OpOk.move rfl) rfl ?_
            refine RunL.on rfl rfl ?_
            refine RunL.ok (OpOk.move rfl) rfl ?_
            refine RunL.on rfl rfl ?_
            refine RunL.ok (OpOk.not rfl) rfl ?_
            refine RunL.on rfl rfl ?_
            refine RunL.ok (OpOk.move rfl) rfl ?_
            refine RunL.off rfl rfl rfl rfl ?_
            refine RunL.off rfl rfl rfl rfl ?_
            refine RunL.on rfl rfl ?_
            refine RunL.ok (OpOk.pickF rfl rfl) rfl ?_
            refine RunL.ok (OpOk.pickF rfl rfl) rfl ?_
            refine RunL.nil ?_
            refine Run.condF rfl ?_
            refine Run.skip ?_
            refine Run.seq ?_
            refine Run.region ?_
            refine RunL.ok (OpOk.move rfl) rfl ?_
            refine RunL.nil ?_
            refine Run.condT rfl ?_
            refine Run.seq ?_
            refine Run.region ?_
            refine RunL.ok (OpOk.fieldAddr fld39_1 rfl) rfl ?_
            refine RunL.ok (OpOk.load rfl rfl rfl (Blk.out Blk.pts.left.left.left.left.left.left _ _ (by first | rfl | assumption))) rfl ?_
            refine RunL.ok (OpOk.load rfl rfl rfl (Blk.out Blk.pts.left.left.left.left.left.left.left.left.left _ _ (by first | rfl | assumption))) rfl ?_
            refine RunL.ok (OpOk.lenR rfl rfl (Rd.right rdy7).left.left.left.left.left.left.left.left rfl) rfl ?_
            refine RunL.call cal26 rfl (s26a (by assumption) (by omega) (by assumption)) rfl (fun vy15 Ay15 hy15 => ?_)
            obtain ⟨rfl, rfl⟩ := hy15
            refine RunL.ok (OpOk.assign rfl) rfl ?_
            refine RunL.nil ?_
            refine Run.seq ?_
            refine Run.seq ?_
            refine Run.region ?_
            refine RunL.ok (OpOk.move rfl) rfl ?_
            refine RunL.ok (OpOk.load rfl rfl rfl (Blk.out Blk.pts.left.left.left.left.left.left.left.left.left _ _ (by first | rfl | assumption))) rfl ?_
            refine RunL.ok (OpOk.move rfl) rfl ?_
            refine RunL.ok (OpOk.idx1N rfl ti9 rfl (Rd.right rdy7).left.left.left.left.left.left.left.left rfl (by omega)) rfl ?_
            refine RunL.ok (OpOk.loadStr rfl rfl rfl (Rd.right rdy7).left.left.left.left.left.left.left.left (by omega)) rfl ?_
            refine RunL.ok (OpOk.neqSS rfl rfl) rfl ?_
            refine RunL.nil ?_
            refine Run.condNF rfl (by first | omega | with_reducible rfl | assumption) ?_
            refine Run.skip ?_
            refine Run.region ?_
            refine RunL.ok (OpOk.load rfl rfl rfl (Blk.out Blk.pts.left.left.left.left.left.left.left.left.left _ _ (by first | rfl | assumption))) rfl ?_
            refine RunL.ok (OpOk.move rfl) rfl ?_
            refine RunL.call cal27 rfl (s27 (Rd.right rdy7).left.left.left.left.left.left.left.left (by omega)) rfl (fun vy16 Ay16 hy16 => ?_)
            obtain ⟨y17, rfl⟩ := hy16
            refine RunL.know (fun w s => (s.conv rfl).ownRd0) (fun rdy18 => ?_)
            refine RunL.store ti22 rfl rfl (Rd.one rdy18) (frl (frl (frl (frl (frl (frl (frl (frl (frl (frl (frl rfl))))))))))) (by exact Nat.le_of_ble_eq_true rfl) (.inl rfl) ?_
            refine RunL.nil ?_
            refine Run.inBlock ?_
            refine Run.seq ?_
            refine Run.region ?_
            refine RunL.alloc ti3 rfl (fun by19 => ?_)
            refine RunL.store ti3 rfl rfl rfl rfl (by exact Nat.le_of_ble_eq_true rfl) (.inl rfl) ?_
            refine RunL.nil ?_
            refine Run.seq ?_
            refine Run.seq ?_
            refine Run.region ?_
            refine RunL.ok (OpOk.move rfl) rfl ?_
            refine RunL.nil ?_
            refine Run.block ?_
            have hL2 : ((del k l)).length ≤ puts (ops.take (i + 1)) + (i + 1) := by omega
            have hL3 : ((del k l)).length ≤ 1048726 := by omega
            refine Run.range (Z := Asn × Int) (iterS (v := y4) (ss := l) (b := y3) (by omega)) rfl rfl (fun z => old w0 * z.1 * pts bx1 (.cells #[.bool false] 4 (0, 0)) * pts by8 (.cells #[vy6] 22 (0, 0)) * own 9 1 vy6 l.length (Fl encS l) * pts by19 (.cells #[.int .i64 z.2] 3 (0, 0)) * pts bx5 (.cells #[vy16] 22 (0, 0)) * own 9 1 vy16 ((del k l)).length (Fl encS ((del k l))) * pts bx4 (.cells #[y12] 26 (0, 0)) * own 9 1 y12 ((del k l)).length (Fl encS ((del k l)))) (fun i z => z.2 = (i : Int) ∧ i < 4) (fun c z => c = .exit 5 ∧ z.2 = 4 ∧ 4 ≤ l.length) (J * own 9 1 lv l.length (Fl encS l) * pts by1 (.cells (Value.agg (encT39 (1, oi, os, osv, ol)).toArray).cells 39 (0, 0)) * y17, 0) ⟨rfl, by decide⟩ ?_ (fun RR lo rc j z J3 hj hz hgo _ hex => ?_) (fun z J3 D hz => ?_) (fun c z J3 D hz => ?_)
            · simp only [← sep_assoc]
              exact (frc (frl (frl (frl (frl (frl (frl (frl (frl (frl (frl (frl rfl))))))))))) (frc (frl (frl (frl (frl (frl (frl (frl (frl rfl)))))))) (frc (frl (frl (frl (frl (frl (frl (frl (frl rfl)))))))) (frc (frl (frl (frl (frl rfl)))) (frc (frl (frl (frl (frl rfl)))) (frc (frl (frl rfl)) (frc (frl rfl) (frc rfl (frc (frl (frl rfl)) (frc (frl rfl) (frc (frl (frl (frl rfl))) rfl)))))))))))
            · obtain ⟨J2, n⟩ := z
              simp only at hz hgo hex ⊢
              obtain ⟨hz, hj4⟩ := hz
              subst hz
              rcases Nat.lt_or_ge j 3 with h3 | h3
              · refine Run.region ?_
                refine RunL.ok (OpOk.assign rfl) rfl ?_
                refine RunL.nil ?_
                refine Run.beginRound ?_
                refine Run.block ?_
                refine Run.seq ?_
                refine Run.seq ?_
                refine Run.region ?_
                refine RunL.ok (OpOk.load rfl rfl rfl (Blk.out Blk.pts.left.left.left.left.left.left _ _ (by first | rfl | assumption))) rfl ?_
                refine RunL.ok (OpOk.load rfl rfl rfl (Blk.out Blk.pts.left.left.left.left.left.left.left.left _ _ (by first | rfl | assumption))) rfl ?_
                refine RunL.ok (OpOk.lenR rfl rfl (Rd.right rdy9).left.left.left.left.left.left.left rfl) rfl ?_
                refine RunL.ok (OpOk.asF (OpOk.geq rfl rfl) (by omega)) rfl ?_
                refine RunL.ok (OpOk.move rfl) rfl ?_
                refine RunL.on rfl rfl ?_
                refine RunL.ok (OpOk.move rfl) rfl ?_
                refine RunL.on rfl rfl ?_
                refine RunL.ok (OpOk.load rfl rfl rfl (Blk.out Blk.pts.left.left.left.left.left.left.left.left _ _ (by first | rfl | assumption))) rfl ?_
                refine RunL.on rfl rfl ?_
                refine RunL.ok (OpOk.load rfl rfl rfl (Blk.out Blk.pts.left.left.left.left.left.left _ _ (by first | rfl | assumption))) rfl ?_
                refine RunL.on rfl rfl ?_
                refine RunL.ok (OpOk.idx1N rfl ti9 rfl (Rd.right rdy9).left.left.left.left.left.left.left rfl (by omega)) rfl ?_
                refine RunL.on rfl rfl ?_
                refine RunL.ok (OpOk.loadStr rfl rfl rfl (Rd.right rdy9).left.left.left.left.left.left.left (by omega)) rfl ?_
                refine RunL.on rfl rfl ?_
                refine RunL.ok (OpOk.neqSS rfl rfl) rfl ?_
                refine RunL.ok (OpOk.pickF rfl rfl) rfl ?_
                refine RunL.nil ?_
                refine Run.condNF rfl (by first | omega | with_reducible rfl | assumption) ?_
                refine Run.skip ?_
                refine Run.seq ?_
                refine Run.region ?_
                refine RunL.ok (OpOk.load rfl rfl rfl (Blk.out Blk.pts.left.left.left.left.left.left _ _ (by first | rfl | assumption))) rfl ?_
                refine RunL.ok (OpOk.addN _ 1 rfl rfl rfl rfl (by omega)) rfl ?_
                refine RunL.store ti3 rfl rfl rfl (frl (frl (frl (frl (frl (frl rfl)))))) (by exact Nat.le_of_ble_eq_true rfl) (.inl rfl) ?_
                refine RunL.nil ?_
                refine Run.seq ?_
                refine Run.region ?_
                refine RunL.ok (OpOk.load rfl rfl rfl (Blk.out Blk.pts _ _ (by first | rfl | assumption))) rfl ?_
                refine RunL.ok (OpOk.asF (OpOk.eql rfl rfl) (by omega)) rfl ?_
                refine RunL.nil ?_
                refine Run.condF rfl ?_
                refine Run.skip ?_
                refine Run.inBlock ?_
                refine Run.jump ((hgo (_, (j : Int) + 1) ⟨by dsimp only; omega, by omega⟩ [])) trivial (Grew.of (Eq.trans (frc (frl rfl) (frc (frl rfl) (frc (frl rfl) (frc (frl rfl) (frc (frl rfl) (frc (frl rfl) (frc rfl rfl))))))) (congrArg (· * _) (congrArg (· * _) (congrArg (· * _) (congrArg (· * _) (congrArg (· * _) (congrArg (· * _) (congrArg (· * _) (congrArg (· * _) (congrArg (· * _) (congrArg (· * _) as1))))))))))) (Grew.refl _))
              · obtain rfl : j = 3 := by omega
                refine Run.region ?_
                refine RunL.ok (OpOk.assign rfl) rfl ?_
                refine RunL.nil ?_
                refine Run.beginRound ?_
                refine Run.block ?_
                refine Run.seq ?_
                refine Run.seq ?_
                refine Run.region ?_
                refine RunL.ok (OpOk.load rfl rfl rfl (Blk.out Blk.pts.left.left.left.left.left.left _ _ (by first | rfl | assumption))) rfl ?_
                refine RunL.ok (OpOk.load rfl rfl rfl (Blk.out Blk.pts.left.left.left.left.left.left.left.left _ _ (by first | rfl | assumption))) rfl ?_
                refine RunL.ok (OpOk.lenR rfl rfl (Rd.right rdy9).left.left.left.left.left.left.left rfl) rfl ?_
                refine RunL.ok (OpOk.asF (OpOk.geq rfl rfl) (by omega)) rfl ?_
                refine RunL.ok (OpOk.move rfl) rfl ?_
                refine RunL.on rfl rfl ?_
                refine RunL.ok (OpOk.move rfl) rfl ?_
                refine RunL.on rfl rfl ?_
                refine RunL.ok (OpOk.load rfl rfl rfl (Blk.out Blk.pts.left.left.left.left.left.left.left.left _ _ (by first | rfl | assumption))) rfl ?_
                refine RunL.on rfl rfl ?_
                refine RunL.ok (OpOk.load rfl rfl rfl (Blk.out Blk.pts.left.left.left.left.left.left _ _ (by first | rfl | assumption))) rfl ?_
                refine RunL.on rfl rfl ?_
                refine RunL.ok (OpOk.idx1N rfl ti9 rfl (Rd.right rdy9).left.left.left.left.left.left.left rfl (by omega)) rfl ?_
                refine RunL.on rfl rfl ?_
                refine RunL.ok (OpOk.loadStr rfl rfl rfl (Rd.right rdy9).left.left.left.left.left.left.left (by omega)) rfl ?_
                refine RunL.on rfl rfl ?_
                refine RunL.ok (OpOk.neqSS rfl rfl) rfl ?_
                refine RunL.ok (OpOk.pickF rfl rfl) rfl ?_
                refine RunL.nil ?_
                refine Run.condNF rfl (by first | omega | with_reducible rfl | assumption) ?_
                refine Run.skip ?_
                refine Run.seq ?_
                refine Run.region ?_
                refine RunL.ok (OpOk.load rfl rfl rfl (Blk.out Blk.pts.left.left.left.left.left.left _ _ (by first | rfl | assumption))) rfl ?_
                refine RunL.ok (OpOk.addN _ 1 rfl rfl rfl rfl (by omega)) rfl ?_
                refine RunL.store ti3 rfl rfl rfl (frl (frl (frl (frl (frl (frl rfl)))))) (by exact Nat.le_of_ble_eq_true rfl) (.inl rfl) ?_
                refine RunL.nil ?_
                refine Run.seq ?_
                refine Run.region ?_
                refine RunL.ok (OpOk.load rfl rfl rfl (Blk.out Blk.pts _ _ (by first | rfl | assumption))) rfl ?_
                refine RunL.ok (OpOk.asT (OpOk.eql rfl rfl) (by omega)) rfl ?_
                refine RunL.nil ?_
                refine Run.condT rfl ?_
                refine Run.jump ((hex 5 (_, 4) ⟨rfl, rfl, by omega⟩ _ [] rfl)) trivial (Grew.of (Eq.trans (frc (frl rfl) (frc (frl rfl) (frc (frl rfl) (frc (frl rfl) (frc (frl rfl) (frc (frl rfl) (frc rfl rfl))))))) (congrArg (· * _) (congrArg (· * _) (congrArg (· * _) (congrArg (· * _) (congrArg (· * _) (congrArg (· * _) (congrArg (· * _) (congrArg (· * _) (congrArg (· * _) (congrArg (· * _) as1))))))))))) (Grew.refl _))
            · obtain ⟨J2, n⟩ := z
              simp only at hz ⊢
              obtain ⟨hz, hn4⟩ := hz
              subst hz
              refine Run.inBlock ?_
              refine Run.seq ?_
              refine Run.know (fun w s => (s.conv (frl (frl rfl))).ownRd0) (fun rdz1 => ?_)
              (apply Run.drawD [] (by rfl) (Eq.trans (frc (frl (frl rfl)) (frc (frl (frl rfl)) rfl)) (asg rfl)); case hchk => kernel_rfl)
              refine Sd.quiet 0 _ _ rfl rfl rfl rfl rfl (QOp.ok (fun X => OpOk.load rfl rfl rfl (Blk.out Blk.pts.left.left.left.left.left.left _ _ (by first | rfl | assumption)))) ?_
              refine Sd.quiet 1 _ _ rfl rfl rfl rfl rfl (QOp.ok (fun X => OpOk.load rfl rfl rfl (Blk.out Blk.pts.left.left.left.left.left.left.left.left _ _ (by first | rfl | assumption)))) ?_
              refine Sd.quiet 2 _ _ rfl rfl rfl rfl rfl (QOp.ok (fun X => OpOk.lenR rfl rfl (Rd.right rdy9).left.left.left.left.left.left.left rfl)) ?_
              refine Sd.quiet 3 _ _ rfl rfl rfl rfl rfl (QOp.ok (fun X => OpOk.min2L rfl rfl rfl (by omega))) ?_
              refine Sd.quiet 4 _ _ rfl rfl rfl rfl rfl (QOp.ok (fun X => OpOk.as (c := false) (OpOk.neq rfl rfl) (by rw [decide_eq_true (by omega)]; rfl))) ?_
              refine Sd.quiet 5 _ _ rfl rfl rfl rfl rfl (QOp.ok (fun X => OpOk.move rfl)) ?_
              refine Sd.quiet 6 _ _ rfl rfl rfl rfl rfl (QOp.ok (fun X => OpOk.move rfl)) ?_
              refine Sd.quiet 8 _ _ rfl rfl rfl rfl rfl (QOp.ok (fun X => OpOk.load rfl rfl rfl (Blk.out Blk.pts.left.left.left.left.left _ _ (by first | rfl | assumption)))) ?_
              (refine Sd.exec 7 rfl rfl rfl rfl rfl ?hrest (by rfl) (fun Xz2 Kz2 hKz2 => ?_); case hrest => kernel_rfl)
              refine RunL.mem (fl2 (sep_emp _) (flS rfl)) ?_
              refine RunL.call cal30 rfl (s30 (by omega)) rfl (fun vz3 Az3 hz3 => ?_)
              obtain ⟨z4, rfl⟩ := hz3
              refine RunL.know (fun w s => (s.conv rfl).ownRd0) (fun rdz5 => ?_)
              refine Sd.ret hKz2 (Eq.trans (frc (frl rfl) (frc (frl rfl) rfl)) (gp2 (asg rfl) (asg rfl))) ⟨_, (emp_sep _).symm⟩ ?_
              refine Sd.quiet 9 _ _ rfl rfl rfl rfl rfl (QOp.call cal24 rfl (fun X => s24 (Rd.right (Rd.right rdz5)).left (Rd.right rdy18).left.left.left.left)) ?_
              refine Sd.quiet 10 _ _ rfl rfl rfl rfl rfl (QOp.ok (fun X => OpOk.not rfl)) ?_
              refine Sd.quiet 11 _ _ rfl rfl rfl rfl rfl (QOp.ok (fun X => OpOk.pickF rfl rfl)) ?_
              refine Sd.quiet 12 _ _ rfl rfl rfl rfl rfl (QOp.ok (fun X => OpOk.move rfl)) ?_
              refine Sd.splitBF (bnF (by first | omega | with_reducible rfl | assumption)) ?_
              refine Sd.quiet 13 _ _ rfl rfl rfl rfl rfl (QOp.ok (fun X => OpOk.move rfl)) ?_
              refine Sd.quiet 15 _ _ rfl rfl rfl rfl rfl (QOp.ok (fun X => OpOk.load rfl rfl rfl (Blk.out Blk.pts.left.left.left.left.left _ _ (by first | rfl | assumption)))) ?_
              refine Sd.quiet 16 _ _ rfl rfl rfl rfl rfl (QOp.ok (fun X => OpOk.lenR rfl rfl (Rd.right rdy18).left.left.left.left rfl)) ?_
              (refine Sd.exec 14 rfl rfl rfl rfl rfl ?hrest (by rfl) (fun Xz6 Kz6 hKz6 => ?_); case hrest => kernel_rfl)
              refine RunL.mem (fl2 (flS rfl) (flS rfl)) ?_
              refine RunL.call cal20 rfl (s20) rfl (fun vz7 Az7 hz7 => ?_)
              obtain ⟨rfl, rfl⟩ := hz7
              refine Sd.ret hKz6 (Eq.trans rfl (gp2 (sep_emp _).symm (asg (asg (asg rfl))))) ⟨_, (asg rfl)⟩ ?_
              refine Sd.quiet 17 _ _ rfl rfl rfl rfl rfl (QOp.ok (fun X => OpOk.as (c := false) (OpOk.neq rfl rfl) (by rw [decide_eq_true (by omega)]; rfl))) ?_
              refine Sd.quiet 18 _ _ rfl rfl rfl rfl rfl (QOp.ok (fun X => OpOk.pickF rfl rfl)) ?_
              (apply Sd.tail; case hall => kernel_rfl)
              refine RunL.mem (fl2 (flS (flS (flS rfl))) (sep_emp _)) ?_
              refine RunL.nil ?_
              refine Run.condF rfl ?_
              refine Run.skip ?_
              refine Run.inBlock ?_
              refine Run.region ?_
              refine RunL.ok (OpOk.move rfl) rfl ?_
              refine RunL.ok (OpOk.addN _ 1 rfl rfl rfl rfl (by omega)) rfl ?_
              refine RunL.ok (OpOk.assign rfl) rfl ?_
              refine RunL.nil ?_
              refine Run.jump ((ih (i + 1, D :: ds, _, y12, vy16, (del k l)) ⟨by dsimp only; omega, by dsimp only; omega, hL2⟩ (by dsimp only; omega))) ⟨rfl, rfl, rfl, rfl, rfl, trivial⟩ (Grew.of (Eq.trans (frc (frl (frl (frl (frl rfl)))) (frc rfl (frc rfl (frc (frl (frl (frl rfl))) (frc (frl (frl (frl rfl))) (frc (frl (frl (frl (frl (frl (frl rfl)))))) rfl)))))) (congrArg (· * _) (congrArg (· * _) (congrArg (· * _) (congrArg (· * _) (congrArg (· * _) (congrArg (· * _) (asg (asg (asg (asg (asg (asg as1))))))))))))) (Grew.refl _))
            · obtain ⟨J2, n⟩ := z
              simp only at hz ⊢
              obtain ⟨rfl, hz, hn4⟩ := hz
              subst hz
              refine Run.exit rfl ?_
              refine Run.seq ?_
              refine Run.know (fun w s => (s.conv (frl (frl rfl))).ownRd0) (fun rdz1 => ?_)
              (apply Run.drawD [] (by rfl) (Eq.trans (frc (frl (frl rfl)) (frc (frl (frl rfl)) rfl)) (asg rfl)); case hchk => kernel_rfl)
              refine Sd.quiet 0 _ _ rfl rfl rfl rfl rfl (QOp.ok (fun X => OpOk.load rfl rfl rfl (Blk.out Blk.pts.left.left.left.left.left.left _ _ (by first | rfl | assumption)))) ?_
              refine Sd.quiet 1 _ _ rfl rfl rfl rfl rfl (QOp.ok (fun X => OpOk.load rfl rfl rfl (Blk.out Blk.pts.left.left.left.left.left.left.left.left _ _ (by first | rfl | assumption)))) ?_
              refine Sd.quiet 2 _ _ rfl rfl rfl rfl rfl (QOp.ok (fun X => OpOk.lenR rfl rfl (Rd.right rdy9).left.left.left.left.left.left.left rfl)) ?_
              refine Sd.quiet 3 _ _ rfl rfl rfl rfl rfl (QOp.ok (fun X => OpOk.min2R rfl rfl rfl (by omega))) ?_
              refine Sd.quiet 4 _ _ rfl rfl rfl rfl rfl (QOp.ok (fun X => OpOk.as (c := false) (OpOk.neq rfl rfl) (by rw [decide_eq_true (by omega)]; rfl))) ?_
              refine Sd.quiet 5 _ _ rfl rfl rfl rfl rfl (QOp.ok (fun X => OpOk.move rfl)) ?_
              refine Sd.quiet 6 _ _ rfl rfl rfl rfl rfl (QOp.ok (fun X => OpOk.move rfl)) ?_
              refine Sd.quiet 8 _ _ rfl rfl rfl rfl rfl (QOp.ok (fun X => OpOk.load rfl rfl rfl (Blk.out Blk.pts.left.left.left.left.left _ _ (by first | rfl | assumption)))) ?_
              (refine Sd.exec 7 rfl rfl rfl rfl rfl ?hrest (by rfl) (fun Xz2 Kz2 hKz2 => ?_); case hrest => kernel_rfl)
              refine RunL.mem (fl2 (sep_emp _) (flS rfl)) ?_
              refine RunL.call cal30 rfl (s30 (by omega)) rfl (fun vz3 Az3 hz3 => ?_)
              obtain ⟨z4, rfl⟩ := hz3
              refine RunL.know (fun w s => (s.conv rfl).ownRd0) (fun rdz5 => ?_)
              refine Sd.ret hKz2 (Eq.trans (frc (frl rfl) (frc (frl rfl) rfl)) (gp2 (asg rfl) (asg rfl))) ⟨_, (emp_sep _).symm⟩ ?_
              refine Sd.quiet 9 _ _ rfl rfl rfl rfl rfl (QOp.call cal24 rfl (fun X => s24 (Rd.right (Rd.right rdz5)).left (Rd.right rdy18).left.left.left.left)) ?_
              refine Sd.quiet 10 _ _ rfl rfl rfl rfl rfl (QOp.ok (fun X => OpOk.not rfl)) ?_
              refine Sd.quiet 11 _ _ rfl rfl rfl rfl rfl (QOp.ok (fun X => OpOk.pickF rfl rfl)) ?_
              refine Sd.quiet 12 _ _ rfl rfl rfl rfl rfl (QOp.ok (fun X => OpOk.move rfl)) ?_
              refine Sd.splitBF (bnF (by first | omega | with_reducible rfl | assumption)) ?_
              refine Sd.quiet 13 _ _ rfl rfl rfl rfl rfl (QOp.ok (fun X => OpOk.move rfl)) ?_
              refine Sd.quiet 15 _ _ rfl rfl rfl rfl rfl (QOp.ok (fun X => OpOk.load rfl rfl rfl (Blk.out Blk.pts.left.left.left.left.left _ _ (by first | rfl | assumption)))) ?_
              refine Sd.quiet 16 _ _ rfl rfl rfl rfl rfl (QOp.ok (fun X => OpOk.lenR rfl rfl (Rd.right rdy18).left.left.left.left rfl)) ?_
              (refine Sd.exec 14 rfl rfl rfl rfl rfl ?hrest (by rfl) (fun Xz6 Kz6 hKz6 => ?_); case hrest => kernel_rfl)
              refine RunL.mem (fl2 (flS rfl) (flS rfl)) ?_
              refine RunL.call cal20 rfl (s20) rfl (fun vz7 Az7 hz7 => ?_)
              obtain ⟨rfl, rfl⟩ := hz7
              refine Sd.ret hKz6 (Eq.trans rfl (gp2 (sep_emp _).symm (asg (asg (asg rfl))))) ⟨_, (asg rfl)⟩ ?_
              refine Sd.quiet 17 _ _ rfl rfl rfl rfl rfl (QOp.ok (fun X => OpOk.as (c := false) (OpOk.neq rfl rfl) (by rw [decide_eq_true (by omega)]; rfl))) ?_
              refine Sd.quiet 18 _ _ rfl rfl rfl rfl rfl (QOp.ok (fun X => OpOk.pickF rfl rfl)) ?_
              (apply Sd.tail; case hall => kernel_rfl)
              refine RunL.mem (fl2 (flS (flS (flS rfl))) (sep_emp _)) ?_
              refine RunL.nil ?_
              refine Run.condF rfl ?_
              refine Run.skip ?_
              refine Run.inBlock ?_
              refine Run.region ?_
              refine RunL.ok (OpOk.move rfl) rfl ?_
              refine RunL.ok (OpOk.addN _ 1 rfl rfl rfl rfl (by omega)) rfl ?_
              refine RunL.ok (OpOk.assign rfl) rfl ?_
              refine RunL.nil ?_
              refine Run.jump ((ih (i + 1, D :: ds, _, y12, vy16, (del k l)) ⟨by dsimp only; omega, by dsimp only; omega, hL2⟩ (by dsimp only; omega))) ⟨rfl, rfl, rfl, rfl, rfl, trivial⟩ (Grew.of (Eq.trans (frc (frl (frl (frl (frl rfl)))) (frc rfl (frc rfl (frc (frl (frl (frl rfl))) (frc (frl (frl (frl rfl))) (frc (frl (frl (frl (frl (frl (frl rfl)))))) rfl)))))) (congrArg (· * _) (congrArg (· * _) (congrArg (· * _) (congrArg (· * _) (congrArg (· * _) (congrArg (· * _) (asg (asg (asg (asg (asg (asg as1))))))))))))) (Grew.refl _))
        · rcases Decidable.em (ok = 2) with hk2 | hk2
          · subst hk2
            rcases Nat.eq_zero_or_pos l.length with h0 | h0
            · refine Run.seq ?_
              refine Run.seq ?_
              refine Run.region ?_
              refine RunL.ok (OpOk.move rfl) rfl ?_
              refine RunL.ok (OpOk.move rfl) rfl ?_
              refine RunL.ok (OpOk.lenR rfl rfl rd.left.left.left.left.left.left.left rfl) rfl ?_
              refine RunL.ok (OpOk.asT (OpOk.lss rfl rfl) (by omega)) rfl ?_
              refine RunL.ok (OpOk.move rfl) rfl ?_
              refine RunL.on rfl rfl ?_
              refine RunL.ok (OpOk.move rfl) rfl ?_
              refine RunL.on rfl rfl ?_
              refine RunL.ok (OpOk.asT (OpOk.lss rfl rfl) (by omega)) rfl ?_
              refine RunL.ok (OpOk.pickT rfl rfl) rfl ?_
              refine RunL.nil ?_
              refine Run.condT rfl ?_
              refine Run.skip ?_
              refine Run.seq ?_
              refine Run.block ?_
              refine Run.seq ?_
              refine Run.region ?_
              refine RunL.ok (OpOk.move rfl) rfl ?_
              refine RunL.ok (OpOk.move rfl) rfl ?_
              refine RunL.ok (OpOk.idxN rfl ti39 rfl rd.left.left.left.left.left.left.left rfl (by omega)) rfl ?_
              refine RunL.ok (OpOk.loadFlE (by assumption) rfl rfl ti39 rfl rd.left.left.left.left.left.left.left (fun _ => rfl) rfl (by omega)) rfl ?_
              refine RunL.alloc ti39 rfl (fun by1 => ?_)
              refine RunL.storeAll ti39 rfl rfl rfl (by assumption) rfl rfl ?_
              refine RunL.nil ?_
              refine Run.seq ?_
              refine Run.region ?_
              refine RunL.ok (OpOk.move rfl) rfl ?_
              refine RunL.mem (frc (frl (frl rfl)) (frc (frl (frl rfl)) rfl)) ?_
              refine RunL.call cal25 rfl (s25 (by omega)) rfl (fun vy2 Ay2 hy2 => ?_)
              obtain ⟨y3, ⟨y4, ⟨rfl, rfl⟩⟩⟩ := hy2
              refine RunL.ok (OpOk.assign rfl) rfl ?_
              refine RunL.nil ?_
              refine Run.seq ?_
              refine Run.region ?_
              refine RunL.lit0 rfl ti9 rfl (fun vy5 rdy5 => ?_)
              refine RunL.ok (OpOk.load rfl rfl rfl (Blk.out Blk.pts.left.left.left.left.left.left.left.left _ _ (by first | rfl | assumption))) rfl ?_
              refine RunL.know (fun w s => (s.conv (frl (frl (frl (frl (frl (frl (frl rfl)))))))).ownRd0) (fun rdy7 => ?_)
              refine RunL.appendF0 rfl ti9 rfl rfl rfl rfl (Rd.right rdy7).left.left.left.left.left.left.left rfl (by decide) (by omega) (by simp only [maxLen]; omega) rfl (fun vy6 rdy6 => ?_)
              refine RunL.alloc ti22 rfl (fun by8 => ?_)
              refine RunL.know (fun w s => (s.conv (frl rfl)).ownRd0) (fun rdy9 => ?_)
              refine RunL.store ti22 rfl rfl (Rd.one rdy9) rfl (by exact Nat.le_of_ble_eq_true rfl) (.inl rfl) ?_
              refine RunL.nil ?_
              refine Run.seq ?_
              refine Run.seq ?_
              refine Run.region ?_
              refine RunL.ok (OpOk.fieldAddr fld39_0 rfl) rfl ?_
              refine RunL.ok (OpOk.load rfl rfl rfl (Blk.out Blk.pts.left.left.left.left.left.left _ _ (by first | rfl | assumption))) rfl ?_
              refine RunL.nil ?_
              refine Run.block ?_
              refine Run.seq ?_
              refine Run.region ?_
              refine RunL.ok (OpOk.asF (OpOk.eql rfl rfl) (by omega)) rfl ?_
              refine RunL.ok (OpOk.assign rfl) rfl ?_
              refine RunL.nil ?_
              refine Run.condF rfl ?_
              refine Run.seq ?_
              refine Run.region ?_
              refine RunL.ok (OpOk.asF (OpOk.eql rfl rfl) (by omega)) rfl ?_
              refine RunL.ok (OpOk.assign rfl) rfl ?_
              refine RunL.nil ?_
              refine Run.condF rfl ?_
              refine Run.seq ?_
              refine Run.region ?_
              refine RunL.ok (OpOk.asT (OpOk.eql rfl rfl) (by omega)) rfl ?_
              refine RunL.ok (OpOk.assign rfl) rfl ?_
              refine RunL.nil ?_
              refine Run.condT rfl ?_
              refine Run.seq ?_
              refine Run.seq ?_
              refine Run.know (fun w s => (s.conv (frl (frl (frl (frl rfl))))).ownRd0) (fun rdy10 => ?_)
              refine Run.know (fun w s => (s.conv (frl (frl rfl))).ownRd0) (fun rdy11 => ?_)
              (apply Run.drawD [] (by rfl) (Eq.trans (frc (frl (frl (frl (frl rfl)))) (frc (frl (frl (frl (frl rfl)))) rfl)) (asg rfl)); case hchk => kernel_rfl)
              refine Sd.quiet 0 _ _ rfl rfl rfl rfl rfl (QOp.ok (fun X => OpOk.move rfl)) ?_
              refine Sd.quiet 1 _ _ rfl rfl rfl rfl rfl (QOp.ok (fun X => OpOk.fieldAddr fld39_1 rfl)) ?_
              refine Sd.quiet 2 _ _ rfl rfl rfl rfl rfl (QOp.ok (fun X => OpOk.load rfl rfl rfl (Blk.out Blk.pts.left.left.left.left.left.left _ _ (by first | rfl | assumption)))) ?_
              refine Sd.quiet 4 _ _ rfl rfl rfl rfl rfl (QOp.ok (fun X => OpOk.load rfl rfl rfl (Blk.out Blk.pts.left.left.left.left.left.left.left.left.left _ _ (by first | rfl | assumption)))) ?_
              refine Sd.quiet 5 _ _ rfl rfl rfl rfl rfl (QOp.ok (fun X => OpOk.lenR rfl rfl (Rd.right rdy7).left.left.left.left.left.left.left.left rfl)) ?_
              refine Sd.quiet 6 _ _ rfl rfl rfl rfl rfl (QOp.ok (fun X => OpOk.asF (OpOk.gtr rfl rfl) (by omega))) ?_
              (refine Sd.exec 3 rfl rfl rfl rfl rfl ?hrest (by rfl) (fun Xy12 Ky12 hKy12 => ?_); case hrest => kernel_rfl)
              refine RunL.mem (fl2 (sep_emp _) (flS rfl)) ?_
              refine RunL.call cal28 rfl (s28a (by assumption)) rfl (fun vy13 Ay13 hy13 => ?_)
              obtain ⟨rfl, rfl⟩ := hy13
              refine Sd.ret hKy12 (Eq.trans rfl (gp2 (sep_emp _).symm (asg rfl))) ⟨_, (emp_sep _).symm⟩ ?_
              refine Sd.quiet 7 _ _ rfl rfl rfl rfl rfl (QOp.ok (fun X => OpOk.neqB rfl rfl rfl)) ?_
              (apply Sd.tail; case hall => kernel_rfl)
              refine RunL.mem (fl2 (flS rfl) (sep_emp _)) ?_
              refine RunL.nil ?_
              refine Run.condF rfl ?_
              refine Run.skip ?_
              refine Run.seq ?_
              refine Run.region ?_
              refine RunL.ok (OpOk.load rfl rfl rfl (Blk.out Blk.pts.left.left.left.left.left.left.left.left.left _ _ (by first | rfl | assumption))) rfl ?_
              refine RunL.ok (OpOk.lenR rfl rfl (Rd.right rdy7).left.left.left.left.left.left.left.left rfl) rfl ?_
              refine RunL.ok (OpOk.asF (OpOk.gtr rfl rfl) (by omega)) rfl ?_
              refine RunL.nil ?_
              refine Run.condF rfl ?_
              refine Run.skip ?_
              refine Run.inBlock ?_
              refine Run.seq ?_
              refine Run.region ?_
              refine RunL.alloc ti3 rfl (fun by14 => ?_)
              refine RunL.store ti3 rfl rfl rfl rfl (by exact Nat.le_of_ble_eq_true rfl) (.inl rfl) ?_
              refine RunL.nil ?_
              refine Run.seq ?_
              refine Run.seq ?_
              refine Run.region ?_
              refine RunL.ok (OpOk.move rfl) rfl ?_
              refine RunL.nil ?_
              refine Run.block ?_
              have hL2 : (l).length ≤ puts (ops.take (i + 1)) + (i + 1) := by omega
              have hL3 : (l).length ≤ 1048726 := by omega
              refine Run.range (Z := Asn × Int) (iterS (v := y4) (ss := l) (b := y3) (by omega)) rfl rfl (fun z => old w0 * z.1 * pts bx1 (.cells #[.bool false] 4 (0, 0)) * pts by8 (.cells #[vy6] 22 (0, 0)) * own 9 1 vy6 l.length (Fl encS l) * pts by14 (.cells #[.int .i64 z.2] 3 (0, 0)) * pts bx5 (.cells #[lv] 22 (0, 0)) * own 9 1 lv (l).length (Fl encS (l)) * pts bx4 (.cells #[v] 26 (0, 0)) * own 9 1 v (l).length (Fl encS (l))) (fun i z => z.2 = (i : Int) ∧ i < 4) (fun c z => c = .exit 5 ∧ z.2 = 4 ∧ 4 ≤ l.length) (J * pts by1 (.cells (Value.agg (encT39 (2, oi, os, osv, ol)).toArray).cells 39 (0, 0)), 0) ⟨rfl, by decide⟩ ?_ (fun RR lo rc j z J3 hj hz hgo _ hex => ?_) (fun z J3 D hz => ?_) (fun c z J3 D hz => ?_)
              · simp only [← sep_assoc]
                exact (frc (frl (frl (frl (frl (frl (frl (frl (frl rfl)))))))) (frc (frl (frl (frl (frl (frl rfl))))) (frc (frl (frl (frl (frl (frl rfl))))) (frc (frl rfl) (frc (frl rfl) (frc (frl (frl (frl (frl rfl)))) (frc (frl (frl (frl (frl rfl)))) (frc rfl (frc (frl rfl) (frc rfl (frc (frl rfl) rfl)))))))))))
              · exact absurd hj (by omega)
              · obtain ⟨J2, n⟩ := z
                simp only at hz ⊢
                obtain ⟨hz, hn4⟩ := hz
                subst hz
                refine Run.inBlock ?_
                refine Run.seq ?_
                (apply Run.drawD [] (by rfl) (Eq.trans (frc (frl (frl rfl)) (frc (frl (frl rfl)) rfl)) (asg rfl)); case hchk => kernel_rfl)
                refine Sd.quiet 0 _ _ rfl rfl rfl rfl rfl (QOp.ok (fun X => OpOk.load rfl rfl rfl (Blk.out Blk.pts.left.left.left.left.left.left _ _ (by first | rfl | assumption)))) ?_
                refine Sd.quiet 1 _ _ rfl rfl rfl rfl rfl (QOp.ok (fun X => OpOk.load rfl rfl rfl (Blk.out Blk.pts.left.left.left.left.left.left.left.left _ _ (by first | rfl | assumption)))) ?_
                refine Sd.quiet 2 _ _ rfl rfl rfl rfl rfl (QOp.ok (fun X => OpOk.lenR rfl rfl (Rd.right rdy9).left.left.left.left.left.left.left rfl)) ?_
                refine Sd.quiet 3 _ _ rfl rfl rfl rfl rfl (QOp.ok (fun X => OpOk.min2L rfl rfl rfl (by omega))) ?_
                refine Sd.quiet 4 _ _ rfl rfl rfl rfl rfl (QOp.ok (fun X => OpOk.as (c := false) (OpOk.neq rfl rfl) (by rw [decide_eq_true (by omega)]; rfl))) ?_
                refine Sd.quiet 5 _ _ rfl rfl rfl rfl rfl (QOp.ok (fun X => OpOk.move rfl)) ?_
                refine Sd.quiet 6 _ _ rfl rfl rfl rfl rfl (QOp.ok (fun X => OpOk.move rfl)) ?_
                refine Sd.quiet 8 _ _ rfl rfl rfl rfl rfl (QOp.ok (fun X => OpOk.load rfl rfl rfl (Blk.out Blk.pts.left.left.left.left.left _ _ (by first | rfl | assumption)))) ?_
                (refine Sd.exec 7 rfl rfl rfl rfl rfl ?hrest (by rfl) (fun Xz1 Kz1 hKz1 => ?_); case hrest => kernel_rfl)
                refine RunL.mem (fl2 (sep_emp _) (flS rfl)) ?_
                refine RunL.call cal30 rfl (s30 (by omega)) rfl (fun vz2 Az2 hz2 => ?_)
                obtain ⟨z3, rfl⟩ := hz2
                refine RunL.know (fun w s => (s.conv rfl).ownRd0) (fun rdz4 => ?_)
                refine Sd.ret hKz1 (Eq.trans (frc (frl rfl) (frc (frl rfl) rfl)) (gp2 (asg rfl) (asg rfl))) ⟨_, (emp_sep _).symm⟩ ?_
                refine Sd.quiet 9 _ _ rfl rfl rfl rfl rfl (QOp.call cal24 rfl (fun X => s24 (Rd.right (Rd.right rdz4)).left (Rd.right rdy7).left.left.left.left)) ?_
                refine Sd.quiet 10 _ _ rfl rfl rfl rfl rfl (QOp.ok (fun X => OpOk.not rfl)) ?_
                refine Sd.quiet 11 _ _ rfl rfl rfl rfl rfl (QOp.ok (fun X => OpOk.pickF rfl rfl)) ?_
                refine Sd.quiet 12 _ _ rfl rfl rfl rfl rfl (QOp.ok (fun X => OpOk.move rfl)) ?_
                refine Sd.splitBF (bnF (by first | omega | with_reducible rfl | assumption)) ?_
                refine Sd.quiet 13 _ _ rfl rfl rfl rfl rfl (QOp.ok (fun X => OpOk.move rfl)) ?_
                refine Sd.quiet 15 _ _ rfl rfl rfl rfl rfl (QOp.ok (fun X => OpOk.load rfl rfl rfl (Blk.out Blk.pts.left.left.left.left.left _ _ (by first | rfl | assumption)))) ?_
                refine Sd.quiet 16 _ _ rfl rfl rfl rfl rfl (QOp.ok (fun X => OpOk.lenR rfl rfl (Rd.right rdy7).left.left.left.left rfl)) ?_
                (refine Sd.exec 14 rfl rfl rfl rfl rfl ?hrest (by rfl) (fun Xz5 Kz5 hKz5 => ?_); case hrest => kernel_rfl)
                refine RunL.mem (fl2 (flS rfl) (flS rfl)) ?_
                refine RunL.call cal20 rfl (s20) rfl (fun vz6 Az6 hz6 => ?_)
                obtain ⟨rfl, rfl⟩ := hz6
                refine Sd.ret hKz5 (Eq.trans rfl (gp2 (sep_emp _).symm (asg (asg (asg rfl))))) ⟨_, (asg rfl)⟩ ?_
                refine Sd.quiet 17 _ _ rfl rfl rfl rfl rfl (QOp.ok (fun X => OpOk.as (c := false) (OpOk.neq rfl rfl) (by rw [decide_eq_true (by omega)]; rfl))) ?_
                refine Sd.quiet 18 _ _ rfl rfl rfl rfl rfl (QOp.ok (fun X => OpOk.pickF rfl rfl)) ?_
                (apply Sd.tail; case hall => kernel_rfl)
                refine RunL.mem (fl2 (flS (flS (flS rfl))) (sep_emp _)) ?_
                refine RunL.nil ?_
                refine Run.condF rfl ?_
                refine Run.skip ?_
                refine Run.inBlock ?_
                refine Run.region ?_
                refine RunL.ok (OpOk.move rfl) rfl ?_
                refine RunL.ok (OpOk.addN _ 1 rfl rfl rfl rfl (by omega)) rfl ?_
                refine RunL.ok (OpOk.assign rfl) rfl ?_
                refine RunL.nil ?_
                refine Run.jump ((ih (i + 1, D :: ds, _, v, lv, l) ⟨by dsimp only; omega, by dsimp only; omega, hL2⟩ (by dsimp only; omega))) ⟨rfl, rfl, rfl, rfl, rfl, trivial⟩ (Grew.of (Eq.trans (frc (frl (frl (frl (frl rfl)))) (frc rfl (frc rfl (frc (frl (frl (frl rfl))) (frc (frl (frl (frl rfl))) (frc (frl (frl (frl (frl (frl (frl rfl)))))) rfl)))))) (congrArg (· * _) (congrArg (· * _) (congrArg (· * _) (congrArg (· * _) (congrArg (· * _) (congrArg (· * _) (asg (asg (asg (asg (asg (asg as1))))))))))))) (Grew.refl _))
              · exact absurd hz.2.2 (by omega)
            · obtain ⟨k, hk, hkl⟩ := mod_nat oi h0
              have hap : (l ++ [l.getD k default]).length = l.length + 1 := by simp
              refine Run.seq ?_
              refine Run.seq ?_
              refine Run.region ?_
              refine RunL.ok (OpOk.move rfl) rfl ?_
              refine RunL.ok (OpOk.move rfl) rfl ?_
              refine RunL.ok (OpOk.lenR rfl rfl rd.left.left.left.left.left.left.left rfl) rfl ?_
              refine RunL.ok (OpOk.asT (OpOk.lss rfl rfl) (by omega)) rfl ?_
              refine RunL.ok (OpOk.move rfl) rfl ?_
              refine RunL.on rfl rfl ?_
              refine RunL.ok (OpOk.move rfl) rfl ?_
              refine RunL.on rfl rfl ?_
              refine RunL.ok (OpOk.asT (OpOk.lss rfl rfl) (by omega)) rfl ?_
              refine RunL.ok (OpOk.pickT rfl rfl) rfl ?_
              refine RunL.nil ?_
              refine Run.condT rfl ?_
              refine Run.skip ?_
              refine Run.seq ?_
              refine Run.block ?_
              refine Run.seq ?_
              refine Run.region ?_
              refine RunL.ok (OpOk.move rfl) rfl ?_
              refine RunL.ok (OpOk.move rfl) rfl ?_
              refine RunL.ok (OpOk.idxN rfl ti39 rfl rd.left.left.left.left.left.left.left rfl (by omega)) rfl ?_
              refine RunL.ok (OpOk.loadFlE (by assumption) rfl rfl ti39 rfl rd.left.left.left.left.left.left.left (fun _ => rfl) rfl (by omega)) rfl ?_
              refine RunL.alloc ti39 rfl (fun by1 => ?_)
              refine RunL.storeAll ti39 rfl rfl rfl (by assumption) rfl rfl ?_
              refine RunL.nil ?_
              refine Run.seq ?_
              refine Run.region ?_
              refine RunL.ok (OpOk.move rfl) rfl ?_
              refine RunL.mem (frc (frl (frl rfl)) (frc (frl (frl rfl)) rfl)) ?_
              refine RunL.call cal25 rfl (s25 (by omega)) rfl (fun vy2 Ay2 hy2 => ?_)
              obtain ⟨y3, ⟨y4, ⟨rfl, rfl⟩⟩⟩ := hy2
              refine RunL.ok (OpOk.assign rfl) rfl ?_
              refine RunL.nil ?_
              refine Run.seq ?_
              refine Run.region ?_
              refine RunL.lit0 rfl ti9 rfl (fun vy5 rdy5 => ?_)
              refine RunL.ok (OpOk.load rfl rfl rfl (Blk.out Blk.pts.left.left.left.left.left.left.left.left _ _ (by first | rfl | assumption))) rfl ?_
              refine RunL.know (fun w s => (s.conv (frl (frl (frl (frl (frl (frl (frl rfl)))))))).ownRd0) (fun rdy7 => ?_)
              refine RunL.appendF0 rfl ti9 rfl rfl rfl rfl (Rd.right rdy7).left.left.left.left.left.left.left rfl (by decide) (by omega) (by simp only [maxLen]; omega) rfl (fun vy6 rdy6 => ?_)
              refine RunL.alloc ti22 rfl (fun by8 => ?_)
              refine RunL.know (fun w s => (s.conv (frl rfl)).ownRd0) (fun rdy9 => ?_)
              refine RunL.store ti22 rfl rfl (Rd.one rdy9) rfl (by exact Nat.le_of_ble_eq_true rfl) (.inl rfl) ?_
              refine RunL.nil ?_
              refine Run.seq ?_
              refine Run.seq ?_
              refine Run.region ?_
              refine RunL.ok (OpOk.fieldAddr fld39_0 rfl) rfl ?_
              refine RunL.ok (OpOk.load rfl rfl rfl (Blk.out Blk.pts.left.left.left.left.left.left _ _ (by first | rfl | assumption))) rfl ?_
              refine RunL.nil ?_
              refine Run.block ?_
              refine Run.seq ?_
              refine Run.region ?_
              refine RunL.ok (OpOk.asF (OpOk.eql rfl rfl) (by omega)) rfl ?_
              refine RunL.ok (OpOk.assign rfl) rfl ?_
              refine RunL.nil ?_
              refine Run.condF rfl ?_
              refine Run.seq ?_
              refine Run.region ?_
              refine RunL.ok (OpOk.asF (OpOk.eql rfl rfl) (by omega)) rfl ?_
              refine RunL.ok (OpOk.assign rfl) rfl ?_
              refine RunL.nil ?_
              refine Run.condF rfl ?_
              refine Run.seq ?_
              refine Run.region ?_
              refine RunL.ok (OpOk.asT (OpOk.eql rfl rfl) (by omega)) rfl ?_
              refine RunL.ok (OpOk.assign rfl) rfl ?_
              refine RunL.nil ?_
              refine Run.condT rfl ?_
              refine Run.seq ?_
              refine Run.seq ?_
              refine Run.know (fun w s => (s.conv (frl (frl (frl (frl rfl))))).ownRd0) (fun rdy10 => ?_)
              refine Run.know (fun w s => (s.conv (frl (frl rfl))).ownRd0) (fun rdy11 => ?_)
              (apply Run.drawD [] (by rfl) (Eq.trans (frc (frl (frl (frl (frl rfl)))) (frc (frl (frl (frl (frl rfl)))) rfl)) (asg rfl)); case hchk => kernel_rfl)
              refine Sd.quiet 0 _ _ rfl rfl rfl rfl rfl (QOp.ok (fun X => OpOk.move rfl)) ?_
              refine Sd.quiet 1 _ _ rfl rfl rfl rfl rfl (QOp.ok (fun X => OpOk.fieldAddr fld39_1 rfl)) ?_
              refine Sd.quiet 2 _ _ rfl rfl rfl rfl rfl (QOp.ok (fun X => OpOk.load rfl rfl rfl (Blk.out Blk.pts.left.left.left.left.left.left _ _ (by first | rfl | assumption)))) ?_
              refine Sd.quiet 4 _ _ rfl rfl rfl rfl rfl (QOp.ok (fun X => OpOk.load rfl rfl rfl (Blk.out Blk.pts.left.left.left.left.left.left.left.left.left _ _ (by first | rfl | assumption)))) ?_
              refine Sd.quiet 5 _ _ rfl rfl rfl rfl rfl (QOp.ok (fun X => OpOk.lenR rfl rfl (Rd.right rdy7).left.left.left.left.left.left.left.left rfl)) ?_
              refine Sd.quiet 6 _ _ rfl rfl rfl rfl rfl (QOp.ok (fun X => OpOk.asT (OpOk.gtr rfl rfl) (by omega))) ?_
              (refine Sd.exec 3 rfl rfl rfl rfl rfl ?hrest (by rfl) (fun Xy12 Ky12 hKy12 => ?_); case hrest => kernel_rfl)
              refine RunL.mem (fl2 (sep_emp _) (flS rfl)) ?_
              refine RunL.call cal28 rfl (s28 (by assumption) (by omega) (by assumption)) rfl (fun vy14 Ay14 hy14 => ?_)
              obtain ⟨y15, ⟨y16, ⟨rfl, rfl⟩⟩⟩ := hy14
              refine RunL.know (fun w s => (s.conv rfl).ownRd0) (fun rdy17 => ?_)
              refine Sd.ret hKy12 (Eq.trans rfl (gp2 (sep_emp _).symm (asg (asg rfl)))) ⟨_, (emp_sep _).symm⟩ ?_
              refine Sd.quiet 7 _ _ rfl rfl rfl rfl rfl (QOp.ok (fun X => OpOk.neqB rfl rfl rfl)) ?_
              (apply Sd.tail; case hall => kernel_rfl)
              refine RunL.mem (fl2 (flS (flS rfl)) (sep_emp _)) ?_
              refine RunL.nil ?_
              refine Run.condF rfl ?_
              refine Run.skip ?_
              refine Run.seq ?_
              refine Run.region ?_
              refine RunL.ok (OpOk.load rfl rfl rfl (Blk.out Blk.pts.left.left.left.left.left.left.left.left.left.left _ _ (by first | rfl | assumption))) rfl ?_
              refine RunL.ok (OpOk.lenR rfl rfl (Rd.right rdy7).left.left.left.left.left.left.left.left.left rfl) rfl ?_
              refine RunL.ok (OpOk.asT (OpOk.gtr rfl rfl) (by omega)) rfl ?_
              refine RunL.nil ?_
              refine Run.condT rfl ?_
              (apply Run.drawD [11] (by rfl) (Eq.trans (frc (frl (frl (frl (frl (frl (frl (frl (frl (frl rfl))))))))) rfl) rfl); case hchk => kernel_rfl)
              refine Sd.quiet 0 _ _ rfl rfl rfl rfl rfl (QOp.ok (fun X => OpOk.load rfl rfl rfl (Blk.out Blk.pts.left.left.left.left.left.left.left.left.left.left.left _ _ (by first | rfl | assumption)))) ?_
              refine Sd.quiet 1 _ _ rfl rfl rfl rfl rfl (QOp.ok (fun X => OpOk.load rfl rfl rfl (Blk.out Blk.pts.left.left.left.left.left.left.left.left.left.left.left _ _ (by first | rfl | assumption)))) ?_
              refine Sd.quiet 2 _ _ rfl rfl rfl rfl rfl (QOp.ok (fun X => OpOk.fieldAddr fld39_1 rfl)) ?_
              refine Sd.quiet 3 _ _ rfl rfl rfl rfl rfl (QOp.ok (fun X => OpOk.load rfl rfl rfl (Blk.out Blk.pts.left.left.left.left.left.left.left.left.left _ _ (by first | rfl | assumption)))) ?_
              refine Sd.quiet 4 _ _ rfl rfl rfl rfl rfl (QOp.ok (fun X => OpOk.load rfl rfl rfl (Blk.out Blk.pts.left.left.left.left.left.left.left.left.left.left.left _ _ (by first | rfl | assumption)))) ?_
              (refine Sd.exec 5 rfl rfl rfl rfl rfl ?hrest (by rfl) (fun Xy18 Ky18 hKy18 => ?_); case hrest => kernel_rfl)
              refine RunL.mem (fl2 (sep_emp _) rfl) ?_
              refine RunL.ok (OpOk.lenR rfl rfl (Rd.right rdy7) rfl) rfl ?_
              refine Sd.ret hKy18 (Eq.trans rfl (gp2 rfl (sep_emp _).symm)) ⟨emp, (sep_emp _).symm⟩ ?_
              refine Sd.quiet 6 _ _ rfl rfl rfl rfl rfl (QOp.call cal26 rfl (fun X => s26a (by assumption) (by omega) (by assumption))) ?_
              (refine Sd.exec 7 rfl rfl rfl rfl rfl ?hrest (by rfl) (fun Xy19 Ky19 hKy19 => ?_); case hrest => kernel_rfl)
              refine RunL.mem (fl2 (sep_emp _) rfl) ?_
              refine RunL.ok (OpOk.idx1N rfl ti9 rfl (Rd.right rdy7) rfl (by omega)) rfl ?_
              refine Sd.ret hKy19 (Eq.trans rfl (gp2 rfl (sep_emp _).symm)) ⟨emp, (sep_emp _).symm⟩ ?_
              (refine Sd.exec 8 rfl rfl rfl rfl rfl ?hrest (by rfl) (fun Xy20 Ky20 hKy20 => ?_); case hrest => kernel_rfl)
              refine RunL.mem (fl2 (sep_emp _) rfl) ?_
              refine RunL.ok (OpOk.loadStr rfl rfl rfl (Rd.right rdy7) (by omega)) rfl ?_
              refine Sd.ret hKy20 (Eq.trans rfl (gp2 rfl (sep_emp _).symm)) ⟨emp, (sep_emp _).symm⟩ ?_
              (refine Sd.exec 9 rfl rfl rfl rfl rfl ?hrest (by rfl) (fun Xy21 Ky21 hKy21 => ?_); case hrest => kernel_rfl)
              refine RunL.mem (fl2 (sep_emp _) rfl) ?_
              refine RunL.litS (ss := [l.getD k default]) rfl ti9 rfl rfl rfl (by decide) rfl (fun vy22 rdy22 => ?_)
              refine RunL.know (fun w s => (s.conv rfl).ownRd0) (fun rdy23 => ?_)
              refine Sd.ret hKy21 (Eq.trans (frc (frl rfl) rfl) (gp2 rfl rfl)) ⟨_, (emp_sep _).symm⟩ ?_
              (refine Sd.exec 10 rfl rfl rfl rfl rfl ?hrest (by rfl) (fun Xy24 Ky24 hKy24 => ?_); case hrest => kernel_rfl)
              refine RunL.mem (fl2 rfl rfl) ?_
              refine RunL.appendF rfl ti9 rfl rfl rfl rfl (Rd.right rdy23).left rfl (by decide) (by omega) (by simp only [maxLen]; omega) rfl (fun vy25 rdy25 => ?_)
              refine RunL.know (fun w s => (s.conv rfl).ownRd0) (fun rdy26 => ?_)
              refine Sd.ret hKy24 (Eq.trans rfl (gp2 (sep_emp _).symm (asg rfl))) ⟨_, rfl⟩ ?_
              (apply Sd.tail; case hall => kernel_rfl)
              refine RunL.mem (fl2 (flS rfl) (sep_emp _)) ?_
              refine RunL.store ti22 rfl rfl (Rd.one rdy26) (frl (frl (frl (frl (frl (frl (frl (frl (frl (frl (frl rfl))))))))))) (by exact Nat.le_of_ble_eq_true rfl) (.inl rfl) ?_
              refine RunL.nil ?_
              refine Run.inBlock ?_
              refine Run.seq ?_
              refine Run.region ?_
              refine RunL.alloc ti3 rfl (fun by27 => ?_)
              refine RunL.store ti3 rfl rfl rfl rfl (by exact Nat.le_of_ble_eq_true rfl) (.inl rfl) ?_
              refine RunL.nil ?_
              refine Run.seq ?_
              refine Run.seq ?_
              refine Run.region ?_
              refine RunL.ok (OpOk.move rfl) rfl ?_
              refine RunL.nil ?_
              refine Run.block ?_
              rw [← hap]
              have hL2 : ((l ++ [l.getD k default])).length ≤ puts (ops.take (i + 1)) + (i + 1) := by omega
              have hL3 : ((l ++ [l.getD k default])).length ≤ 1048726 := by omega
              refine Run.range (Z := Asn × Int) (iterS (v := y4) (ss := l) (b := y3) (by omega)) rfl rfl (fun z => old w0 * z.1 * pts bx1 (.cells #[.bool false] 4 (0, 0)) * pts by8 (.cells #[vy6] 22 (0, 0)) * own 9 1 vy6 l.length (Fl encS l) * pts by27 (.cells #[.int .i64 z.2] 3 (0, 0)) * pts bx5 (.cells #[vy25] 22 (0, 0)) * own 9 1 vy25 ((l ++ [l.getD k default])).length (Fl encS ((l ++ [l.getD k default]))) * pts bx4 (.cells #[y15] 26 (0, 0)) * own 9 1 y15 ((l ++ [l.getD k default])).length (Fl encS ((l ++ [l.getD k default])))) (fun i z => z.2 = (i : Int) ∧ i < 4) (fun c z => c = .exit 5 ∧ z.2 = 4 ∧ 4 ≤ l.length) (J * pts by1 (.cells (Value.agg (encT39 (2, oi, os, osv, ol)).toArray).cells 39 (0, 0)) * y16 * own 9 1 vy22 1 (Fl encS [l.getD k default]), 0) ⟨rfl, by decide⟩ ?_ (fun RR lo rc j z J3 hj hz hgo _ hex => ?_) (fun z J3 D hz => ?_) (fun c z J3 D hz => ?_)
              · simp only [← sep_assoc]
                exact (frc (frl (frl (frl (frl (frl (frl (frl (frl (frl (frl (frl (frl rfl)))))))))))) (frc (frl (frl (frl (frl (frl (frl (frl (frl (frl rfl))))))))) (frc (frl (frl (frl (frl (frl (frl (frl (frl (frl rfl))))))))) (frc (frl (frl (frl (frl rfl)))) (frc (frl (frl (frl (frl rfl)))) (frc (frl (frl rfl)) (frc (frl rfl) (frc rfl (frc (frl (frl (frl rfl))) (frc (frl (frl rfl)) (frc (frl (frl (frl rfl))) rfl)))))))))))
              · obtain ⟨J2, n⟩ := z
                simp only at hz hgo hex ⊢
                obtain ⟨hz, hj4⟩ := hz
                subst hz
                rcases Nat.lt_or_ge j 3 with h3 | h3
                · refine Run.region ?_
                  refine RunL.ok (OpOk.assign rfl) rfl ?_
                  refine RunL.nil ?_
                  refine Run.beginRound ?_
                  refine Run.block ?_
                  refine Run.seq ?_
                  refine Run.seq ?_
                  refine Run.region ?_
                  refine RunL.ok (OpOk.load rfl rfl rfl (Blk.out Blk.pts.left.left.left.left.left.left _ _ (by first | rfl | assumption))) rfl ?_
                  refine RunL.ok (OpOk.load rfl rfl rfl (Blk.out Blk.pts.left.left.left.left.left.left.left.left _ _ (by first | rfl | assumption))) rfl ?_
                  refine RunL.ok (OpOk.lenR rfl rfl (Rd.right rdy9).left.left.left.left.left.left.left rfl) rfl ?_
                  refine RunL.ok (OpOk.asF (OpOk.geq rfl rfl) (by omega)) rfl ?_
                  refine RunL.ok (OpOk.move rfl) rfl ?_
                  refine RunL.on rfl rfl ?_
                  refine RunL.ok (OpOk.move rfl) rfl ?_
                  refine RunL.on rfl rfl ?_
                  refine RunL.ok (OpOk.load rfl rfl rfl (Blk.out Blk.pts.left.left.left.left.left.left.left.left _ _ (by first | rfl | assumption))) rfl ?_
                  refine RunL.on rfl rfl ?_
                  refine RunL.ok (OpOk.load rfl rfl rfl (Blk.out Blk.pts.left.left.left.left.left.left _ _ (by first | rfl | assumption))) rfl ?_
                  refine RunL.on rfl rfl ?_
                  refine RunL.ok (OpOk.idx1N rfl ti9 rfl (Rd.right rdy9).left.left.left.left.left.left.left rfl (by omega)) rfl ?_
                  refine RunL.on rfl rfl ?_
                  refine RunL.ok (OpOk.loadStr rfl rfl rfl (Rd.right rdy9).left.left.left.left.left.left.left (by omega)) rfl ?_
                  refine RunL.on rfl rfl ?_
                  refine RunL.ok (OpOk.neqSS rfl rfl) rfl ?_
                  refine RunL.ok (OpOk.pickF rfl rfl) rfl ?_
                  refine RunL.nil ?_
                  refine Run.condNF rfl (by first | omega | with_reducible rfl | assumption) ?_
                  refine Run.skip ?_
                  refine Run.seq ?_
                  refine Run.region ?_
                  refine RunL.ok (OpOk.load rfl rfl rfl (Blk.out Blk.pts.left.left.left.left.left.left _ _ (by first | rfl | assumption))) rfl ?_
                  refine RunL.ok (OpOk.addN _ 1 rfl rfl rfl rfl (by omega)) rfl ?_
                  refine RunL.store ti3 rfl rfl rfl (frl (frl (frl (frl (frl (frl rfl)))))) (by exact Nat.le_of_ble_eq_true rfl) (.inl rfl) ?_
                  refine RunL.nil ?_
                  refine Run.seq ?_
                  refine Run.region ?_
                  refine RunL.ok (OpOk.load rfl rfl rfl (Blk.out Blk.pts _ _ (by first | rfl | assumption))) rfl ?_
                  refine RunL.ok (OpOk.asF (OpOk.eql rfl rfl) (by omega)) rfl ?_
                  refine RunL.nil ?_
                  refine Run.condF rfl ?_
                  refine Run.skip ?_
                  refine Run.inBlock ?_
                  refine Run.jump ((hgo (_, (j : Int) + 1) ⟨by dsimp only; omega, by omega⟩ [])) trivial (Grew.of (Eq.trans (frc (frl rfl) (frc (frl rfl) (frc (frl rfl) (frc (frl rfl) (frc (frl rfl) (frc (frl rfl) (frc rfl rfl))))))) (congrArg (· * _) (congrArg (· * _) (congrArg (· * _) (congrArg (· * _) (congrArg (· * _) (congrArg (· * _) (congrArg (· * _) (congrArg (· * _) (congrArg (· * _) (congrArg (· * _) as1))))))))))) (Grew.refl _))
                · obtain rfl : j = 3 := by omega
                  refine Run.region ?_
                  refine RunL.ok (OpOk.assign rfl) rfl ?_
                  refine RunL.nil ?_
                  refine Run.beginRound ?_
                  refine Run.block ?_
                  refine Run.seq ?_
                  refine Run.seq ?_
                  refine Run.region ?_
                  refine RunL.ok (OpOk.load rfl rfl rfl (Blk.out Blk.pts.left.left.left.left.left.left _ _ (by first | rfl | assumption))) rfl ?_
                  refine RunL.ok (OpOk.load rfl rfl rfl (Blk.out Blk.pts.left.left.left.left.left.left.left.left _ _ (by first | rfl | assumption))) rfl ?_
                  refine RunL.ok (OpOk.lenR rfl rfl (Rd.right rdy9).left.left.left.left.left.left.left rfl) rfl ?_
                  refine RunL.ok (OpOk.asF (OpOk.geq rfl rfl) (by omega)) rfl ?_
                  refine RunL.ok (OpOk.move rfl) rfl ?_
                  refine RunL.on rfl rfl ?_
                  refine RunL.ok (OpOk.move rfl) rfl ?_
                  refine RunL.on rfl rfl ?_
                  refine RunL.ok (OpOk.load rfl rfl rfl (Blk.out Blk.pts.left.left.left.left.left.left.left.left _ _ (by first | rfl | assumption))) rfl ?_
                  refine RunL.on rfl rfl ?_
                  refine RunL.ok (OpOk.load rfl rfl rfl (Blk.out Blk.pts.left.left.left.left.left.left _ _ (by first | rfl | assumption))) rfl ?_
                  refine RunL.on rfl rfl ?_
                  refine RunL.ok (OpOk.idx1N rfl ti9 rfl (Rd.right rdy9).left.left.left.left.left.left.left rfl (by omega)) rfl ?_
                  refine RunL.on rfl rfl ?_
                  refine RunL.ok (OpOk.loadStr rfl rfl rfl (Rd.right rdy9).left.left.left.left.left.left.left (by omega)) rfl ?_
                  refine RunL.on rfl rfl ?_
                  refine RunL.ok (OpOk.neqSS rfl rfl) rfl ?_
                  refine RunL.ok (OpOk.pickF rfl rfl) rfl ?_
                  refine RunL.nil ?_
                  refine Run.condNF rfl (by first | omega | with_reducible rfl | assumption) ?_
                  refine Run.skip ?_
                  refine Run.seq ?_
                  refine Run.region ?_
                  refine RunL.ok (OpOk.load rfl rfl rfl (Blk.out Blk.pts.left.left.left.left.left.left _ _ (by first | rfl | assumption))) rfl ?_
                  refine RunL.ok (OpOk.addN _ 1 rfl rfl rfl rfl (by omega)) rfl ?_
                  refine RunL.store ti3 rfl rfl rfl (frl (frl (frl (frl (frl (frl rfl)))))) (by exact Nat.le_of_ble_eq_true rfl) (.inl rfl) ?_
                  refine RunL.nil ?_
                  refine Run.seq ?_
                  refine Run.region ?_
                  refine RunL.ok (OpOk.load rfl rfl rfl (Blk.out Blk.pts _ _ (by first | rfl | assumption))) rfl ?_
                  refine RunL.ok (OpOk.asT (OpOk.eql rfl rfl) (by omega)) rfl ?_
                  refine RunL.nil ?_
                  refine Run.condT rfl ?_
                  refine Run.jump ((hex 5 (_, 4) ⟨rfl, rfl, by omega⟩ _ [] rfl)) trivial (Grew.of (Eq.trans (frc (frl rfl) (frc (frl rfl) (frc (frl rfl) (frc (frl rfl) (frc (frl rfl) (frc (frl rfl) (frc rfl rfl))))))) (congrArg (· * _) (congrArg (· * _) (congrArg (· * _) (congrArg (· * _) (congrArg (· * _) (congrArg (· * _) (congrArg (· * _) (congrArg (· * _) (congrArg (· * _) (congrArg (· * _) as1))))))))))) (Grew.refl _))
              · obtain ⟨J2, n⟩ := z
                simp only at hz ⊢
                obtain ⟨hz, hn4⟩ := hz
                subst hz
                refine Run.inBlock ?_
                refine Run.seq ?_
                refine Run.know (fun w s => (s.conv (frl (frl (frl (frl rfl))))).ownRd0) (fun rdz1 => ?_)
                (apply Run.drawD [] (by rfl) (Eq.trans (frc (frl (frl rfl)) (frc (frl (frl rfl)) rfl)) (asg rfl)); case hchk => kernel_rfl)
                refine Sd.quiet 0 _ _ rfl rfl rfl rfl rfl (QOp.ok (fun X => OpOk.load rfl rfl rfl (Blk.out Blk.pts.left.left.left.left.left.left _ _ (by first | rfl | assumption)))) ?_
                refine Sd.quiet 1 _ _ rfl rfl rfl rfl rfl (QOp.ok (fun X => OpOk.load rfl rfl rfl (Blk.out Blk.pts.left.left.left.left.left.left.left.left _ _ (by first | rfl | assumption)))) ?_
                refine Sd.quiet 2 _ _ rfl rfl rfl rfl rfl (QOp.ok (fun X => OpOk.lenR rfl rfl (Rd.right rdy9).left.left.left.left.left.left.left rfl)) ?_
                refine Sd.quiet 3 _ _ rfl rfl rfl rfl rfl (QOp.ok (fun X => OpOk.min2L rfl rfl rfl (by omega))) ?_
                refine Sd.quiet 4 _ _ rfl rfl rfl rfl rfl (QOp.ok (fun X => OpOk.as (c := false) (OpOk.neq rfl rfl) (by rw [decide_eq_true (by omega)]; rfl))) ?_
                refine Sd.quiet 5 _ _ rfl rfl rfl rfl rfl (QOp.ok (fun X => OpOk.move rfl)) ?_
                refine Sd.quiet 6 _ _ rfl rfl rfl rfl rfl (QOp.ok (fun X => OpOk.move rfl)) ?_
                refine Sd.quiet 8 _ _ rfl rfl rfl rfl rfl (QOp.ok (fun X => OpOk.load rfl rfl rfl (Blk.out Blk.pts.left.left.left.left.left _ _ (by first | rfl | assumption)))) ?_
                (refine Sd.exec 7 rfl rfl rfl rfl rfl ?hrest (by rfl) (fun Xz2 Kz2 hKz2 => ?_); case hrest => kernel_rfl)
                refine RunL.mem (fl2 (sep_emp _) (flS rfl)) ?_
                refine RunL.call cal30 rfl (s30 (by omega)) rfl (fun vz3 Az3 hz3 => ?_)
                obtain ⟨z4, rfl⟩ := hz3
                refine RunL.know (fun w s => (s.conv rfl).ownRd0) (fun rdz5 => ?_)
                refine Sd.ret hKz2 (Eq.trans (frc (frl rfl) (frc (frl rfl) rfl)) (gp2 (asg rfl) (asg rfl))) ⟨_, (emp_sep _).symm⟩ ?_
                refine Sd.quiet 9 _ _ rfl rfl rfl rfl rfl (QOp.call cal24 rfl (fun X => s24 (Rd.right (Rd.right rdz5)).left (Rd.right rdz1).left.left.left.left)) ?_
                refine Sd.quiet 10 _ _ rfl rfl rfl rfl rfl (QOp.ok (fun X => OpOk.not rfl)) ?_
                refine Sd.quiet 11 _ _ rfl rfl rfl rfl rfl (QOp.ok (fun X => OpOk.pickF rfl rfl)) ?_
                refine Sd.quiet 12 _ _ rfl rfl rfl rfl rfl (QOp.ok (fun X => OpOk.move rfl)) ?_
                refine Sd.splitBF (bnF (by first | omega | with_reducible rfl | assumption)) ?_
                refine Sd.quiet 13 _ _ rfl rfl rfl rfl rfl (QOp.ok (fun X => OpOk.move rfl)) ?_
                refine Sd.quiet 15 _ _ rfl rfl rfl rfl rfl (QOp.ok (fun X => OpOk.load rfl rfl rfl (Blk.out Blk.pts.left.left.left.left.left _ _ (by first | rfl | assumption)))) ?_
                refine Sd.quiet 16 _ _ rfl rfl rfl rfl rfl (QOp.ok (fun X => OpOk.lenR rfl rfl (Rd.right rdz1).left.left.left.left rfl)) ?_
                (refine Sd.exec 14 rfl rfl rfl rfl rfl ?hrest (by rfl) (fun Xz6 Kz6 hKz6 => ?_); case hrest => kernel_rfl)
                refine RunL.mem (fl2 (flS rfl) (flS rfl)) ?_
                refine RunL.call cal20 rfl (s20) rfl (fun vz7 Az7 hz7 => ?_)
                obtain ⟨rfl, rfl⟩ := hz7
                refine Sd.ret hKz6 (Eq.trans rfl (gp2 (sep_emp _).symm (asg (asg (asg rfl))))) ⟨_, (asg rfl)⟩ ?_
                refine Sd.quiet 17 _ _ rfl rfl rfl rfl rfl (QOp.ok (fun X => OpOk.as (c := false) (OpOk.neq rfl rfl) (by rw [decide_eq_true (by omega)]; rfl))) ?_
                refine Sd.quiet 18 _ _ rfl rfl rfl rfl rfl (QOp.ok (fun X => OpOk.pickF rfl rfl)) ?_
                (apply Sd.tail; case hall => kernel_rfl)
                refine RunL.mem (fl2 (flS (flS (flS rfl))) (sep_emp _)) ?_
                refine RunL.nil ?_
                refine Run.condF rfl ?_
                refine Run.skip ?_
                refine Run.inBlock ?_
                refine Run.region ?_
                refine RunL.ok (OpOk.move rfl) rfl ?_
                refine RunL.ok (OpOk.addN _ 1 rfl rfl rfl rfl (by omega)) rfl ?_
                refine RunL.ok (OpOk.assign rfl) rfl ?_
                refine RunL.nil ?_
                refine Run.jump ((ih (i + 1, D :: ds, _, y15, vy25, (l ++ [l.getD k default])) ⟨by dsimp only; omega, by dsimp only; omega, hL2⟩ (by dsimp only; omega))) ⟨rfl, rfl, rfl, rfl, rfl, trivial⟩ (Grew.of (Eq.trans (frc (frl (frl (frl (frl rfl)))) (frc rfl (frc rfl (frc (frl (frl (frl rfl))) (frc (frl (frl (frl rfl))) (frc (frl (frl (frl (frl (frl (frl rfl)))))) rfl)))))) (congrArg (· * _) (congrArg (· * _) (congrArg (· * _) (congrArg (· * _) (congrArg (· * _) (congrArg (· * _) (asg (asg (asg (asg (asg (asg as1))))))))))))) (Grew.refl _))
              · obtain ⟨J2, n⟩ := z
                simp only at hz ⊢
                obtain ⟨rfl, hz, hn4⟩ := hz
                subst hz
                refine Run.exit rfl ?_
                refine Run.seq ?_
                refine Run.know (fun w s => (s.conv (frl (frl (frl (frl rfl))))).ownRd0) (fun rdz1 => ?_)
                (apply Run.drawD [] (by rfl) (Eq.trans (frc (frl (frl rfl)) (frc (frl (frl rfl)) rfl)) (asg rfl)); case hchk => kernel_rfl)
                refine Sd.quiet 0 _ _ rfl rfl rfl rfl rfl (QOp.ok (fun X => OpOk.load rfl rfl rfl (Blk.out Blk.pts.left.left.left.left.left.left _ _ (by first | rfl | assumption)))) ?_
                refine Sd.quiet 1 _ _ rfl rfl rfl rfl rfl (QOp.ok (fun X => OpOk.load rfl rfl rfl (Blk.out Blk.pts.left.left.left.left.left.left.left.left _ _ (by first | rfl | assumption)))) ?_
                refine Sd.quiet 2 _ _ rfl rfl rfl rfl rfl (QOp.ok (fun X => OpOk.lenR rfl rfl (Rd.right rdy9).left.left.left.left.left.left.left rfl)) ?_
                refine Sd.quiet 3 _ _ rfl rfl rfl rfl rfl (QOp.ok (fun X => OpOk.min2R rfl rfl rfl (by omega))) ?_
                refine Sd.quiet 4 _ _ rfl rfl rfl rfl rfl (QOp.ok (fun X => OpOk.as (c := false) (OpOk.neq rfl rfl) (by rw [decide_eq_true (by omega)]; rfl))) ?_
                refine Sd.quiet 5 _ _ rfl rfl rfl rfl rfl (QOp.ok (fun X => OpOk.move rfl)) ?_
                refine Sd.quiet 6 _ _ rfl rfl rfl rfl rfl (QOp.ok (fun X => OpOk.move rfl)) ?_
                refine Sd.quiet 8 _ _ rfl rfl rfl rfl rfl (QOp.ok (fun X => OpOk.load rfl rfl rfl (Blk.out Blk.pts.left.left.left.left.left _ _ (by first | rfl | assumption)))) ?_
                (refine Sd.exec 7 rfl rfl rfl rfl rfl ?hrest (by rfl) (fun Xz2 Kz2 hKz2 => ?_); case hrest => kernel_rfl)
                refine RunL.mem (fl2 (sep_emp _) (flS rfl)) ?_
                refine RunL.call cal30 rfl (s30 (by omega)) rfl (fun vz3 Az3 hz3 => ?_)
                obtain ⟨z4, rfl⟩ := hz3
                refine RunL.know (fun w s => (s.conv rfl).ownRd0) (fun rdz5 => ?_)
                refine Sd.ret hKz2 (Eq.trans (frc (frl rfl) (frc (frl rfl) rfl)) (gp2 (asg rfl) (asg rfl))) ⟨_, (emp_sep _).symm⟩ ?_
                refine Sd.quiet 9 _ _ rfl rfl rfl rfl rfl (QOp.call cal24 rfl (fun X => s24 (Rd.right (Rd.right rdz5)).left (Rd.right rdz1).left.left.left.left)) ?_
                refine Sd.quiet 10 _ _ rfl rfl rfl rfl rfl (QOp.ok (fun X => OpOk.not rfl)) ?_
                refine Sd.quiet 11 _ _ rfl rfl rfl rfl rfl (QOp.ok (fun X => OpOk.pickF rfl rfl)) ?_
                refine Sd.quiet 12 _ _ rfl rfl rfl rfl rfl (QOp.ok (fun X => OpOk.move rfl)) ?_
                refine Sd.splitBF (bnF (by first | omega | with_reducible rfl | assumption)) ?_
                refine Sd.quiet 13 _ _ rfl rfl rfl rfl rfl (QOp.ok (fun X => OpOk.move rfl)) ?_
                refine Sd.quiet 15 _ _ rfl rfl rfl rfl rfl (QOp.ok (fun X => OpOk.load rfl rfl rfl (Blk.out Blk.pts.left.left.left.left.left _ _ (by first | rfl | assumption)))) ?_
                refine Sd.quiet 16 _ _ rfl rfl rfl rfl rfl (QOp.ok (fun X => OpOk.lenR rfl rfl (Rd.right rdz1).left.left.left.left rfl)) ?_
                (refine Sd.exec 14 rfl rfl rfl rfl rfl ?hrest (by rfl) (fun Xz6 Kz6 hKz6 => ?_); case hrest => kernel_rfl)
                refine RunL.mem (fl2 (flS rfl) (flS rfl)) ?_
                refine RunL.call cal20 rfl (s20) rfl (fun vz7 Az7 hz7 => ?_)
                obtain ⟨rfl, rfl⟩ := hz7
                refine Sd.ret hKz6 (Eq.trans rfl (gp2 (sep_emp _).symm (asg (asg (asg rfl))))) ⟨_, (asg rfl)⟩ ?_
                refine Sd.quiet 17 _ _ rfl rfl rfl rfl rfl (QOp.ok (fun X => OpOk.as (c := false) (OpOk.neq rfl rfl) (by rw [decide_eq_true (by omega)]; rfl))) ?_
                refine Sd.quiet 18 _ _ rfl rfl rfl rfl rfl (QOp.ok (fun X => OpOk.pickF rfl rfl)) ?_
                (apply Sd.tail; case hall => kernel_rfl)
                refine RunL.mem (fl2 (flS (flS (flS rfl))) (sep_emp _)) ?_
                refine RunL.nil ?_
                refine Run.condF rfl ?_
                refine Run.skip ?_
                refine Run.inBlock ?_
                refine Run.region ?_
                refine RunL.ok (OpOk.move rfl) rfl ?_
                refine RunL.ok (OpOk.addN _ 1 rfl rfl rfl rfl (by omega)) rfl ?_
                refine RunL.ok (OpOk.assign rfl) rfl ?_
                refine RunL.nil ?_
                refine Run.jump ((ih (i + 1, D :: ds, _, y15, vy25, (l ++ [l.getD k default])) ⟨by dsimp only; omega, by dsimp only; omega, hL2⟩ (by dsimp only; omega))) ⟨rfl, rfl, rfl, rfl, rfl, trivial⟩ (Grew.of (Eq.trans (frc (frl (frl (frl (frl rfl)))) (frc rfl (frc rfl (frc (frl (frl (frl rfl))) (frc (frl (frl (frl rfl))) (frc (frl (frl (frl (frl (frl (frl rfl)))))) rfl)))))) (congrArg (· * _) (congrArg (· * _) (congrArg (· * _) (congrArg (· * _) (congrArg (· * _) (congrArg (· * _) (asg (asg (asg (asg (asg (asg as1))))))))))))) (Grew.refl _))
          · have hol := only_le os true l
            refine Run.seq ?_
            refine Run.seq ?_
            refine Run.region ?_
            refine RunL.ok (OpOk.move rfl) rfl ?_
            refine RunL.ok (OpOk.move rfl) rfl ?_
            refine RunL.ok (OpOk.lenR rfl rfl rd.left.left.left.left.left.left.left rfl) rfl ?_
            refine RunL.ok (OpOk.asT (OpOk.lss rfl rfl) (by omega)) rfl ?_
            refine RunL.ok (OpOk.move rfl) rfl ?_
            refine RunL.on rfl rfl ?_
            refine RunL.ok (OpOk.move rfl) rfl ?_
            refine RunL.on rfl rfl ?_
            refine RunL.ok (OpOk.asT (OpOk.lss rfl rfl) (by omega)) rfl ?_
            refine RunL.ok (OpOk.pickT rfl rfl) rfl ?_
            refine RunL.nil ?_
            refine Run.condT rfl ?_
            refine Run.skip ?_
            refine Run.seq ?_
            refine Run.block ?_
            refine Run.seq ?_
            refine Run.region ?_
            refine RunL.ok (OpOk.move rfl) rfl ?_
            refine RunL.ok (OpOk.move rfl) rfl ?_
            refine RunL.ok (OpOk.idxN rfl ti39 rfl rd.left.left.left.left.left.left.left rfl (by omega)) rfl ?_
            refine RunL.ok (OpOk.loadFlE (by assumption) rfl rfl ti39 rfl rd.left.left.left.left.left.left.left (fun _ => rfl) rfl (by omega)) rfl ?_
            refine RunL.alloc ti39 rfl (fun by1 => ?_)
            refine RunL.storeAll ti39 rfl rfl rfl (by assumption) rfl rfl ?_
            refine RunL.nil ?_
            refine Run.seq ?_
            refine Run.region ?_
            refine RunL.ok (OpOk.move rfl) rfl ?_
            refine RunL.mem (frc (frl (frl rfl)) (frc (frl (frl rfl)) rfl)) ?_
            refine RunL.call cal25 rfl (s25 (by omega)) rfl (fun vy2 Ay2 hy2 => ?_)
            obtain ⟨y3, ⟨y4, ⟨rfl, rfl⟩⟩⟩ := hy2
            refine RunL.ok (OpOk.assign rfl) rfl ?_
            refine RunL.nil ?_
            refine Run.seq ?_
            refine Run.region ?_
            refine RunL.lit0 rfl ti9 rfl (fun vy5 rdy5 => ?_)
            refine RunL.ok (OpOk.load rfl rfl rfl (Blk.out Blk.pts.left.left.left.left.left.left.left.left _ _ (by first | rfl | assumption))) rfl ?_
            refine RunL.know (fun w s => (s.conv (frl (frl (frl (frl (frl (frl (frl rfl)))))))).ownRd0) (fun rdy7 => ?_)
            refine RunL.appendF0 rfl ti9 rfl rfl rfl rfl (Rd.right rdy7).left.left.left.left.left.left.left rfl (by decide) (by omega) (by simp only [maxLen]; omega) rfl (fun vy6 rdy6 => ?_)
            refine RunL.alloc ti22 rfl (fun by8 => ?_)
            refine RunL.know (fun w s => (s.conv (frl rfl)).ownRd0) (fun rdy9 => ?_)
            refine RunL.store ti22 rfl rfl (Rd.one rdy9) rfl (by exact Nat.le_of_ble_eq_true rfl) (.inl rfl) ?_
            refine RunL.nil ?_
            refine Run.seq ?_
            refine Run.seq ?_
            refine Run.region ?_
            refine RunL.ok (OpOk.fieldAddr fld39_0 rfl) rfl ?_
            refine RunL.ok (OpOk.load rfl rfl rfl (Blk.out Blk.pts.left.left.left.left.left.left _ _ (by first | rfl | assumption))) rfl ?_
            refine RunL.nil ?_
            refine Run.block ?_
            refine Run.seq ?_
            refine Run.region ?_
            refine RunL.ok (OpOk.asF (OpOk.eql rfl rfl) (by omega)) rfl ?_
            refine RunL.ok (OpOk.assign rfl) rfl ?_
            refine RunL.nil ?_
            refine Run.condF rfl ?_
            refine Run.seq ?_
            refine Run.region ?_
            refine RunL.ok (OpOk.asF (OpOk.eql rfl rfl) (by omega)) rfl ?_
            refine RunL.ok (OpOk.assign rfl) rfl ?_
            refine RunL.nil ?_
            refine Run.condF rfl ?_
            refine Run.seq ?_
            refine Run.region ?_
            refine RunL.ok (OpOk.asF (OpOk.eql rfl rfl) (by omega)) rfl ?_
            refine RunL.ok (OpOk.assign rfl) rfl ?_
            refine RunL.nil ?_
            refine Run.condF rfl ?_
            refine Run.seq ?_
            refine Run.region ?_
            refine RunL.alloc ti3 rfl (fun by10 => ?_)
            refine RunL.store ti3 rfl rfl rfl rfl (by exact Nat.le_of_ble_eq_true rfl) (.inl rfl) ?_
            refine RunL.nil ?_
            refine Run.seq ?_
            refine Run.region ?_
            refine RunL.alloc ti4 rfl (fun by11 => ?_)
            refine RunL.store ti4 rfl rfl rfl rfl (by exact Nat.le_of_ble_eq_true rfl) (.inl rfl) ?_
            refine RunL.nil ?_
            refine Run.seq ?_
            refine Run.region ?_
            refine RunL.ok (OpOk.move rfl) rfl ?_
            refine RunL.ok (OpOk.makeFunc rfl rfl) rfl ?_
            refine RunL.mem (frc (frl (frl (frl (frl (frl (frl rfl)))))) (frc (frl (frl (frl (frl (frl (frl rfl)))))) (frc (frl (frl (frl (frl (frl (frl rfl)))))) (frc (frl (frl (frl (frl (frl (frl (frl rfl))))))) (frc (frl (frl (frl (frl (frl (frl (frl rfl))))))) (frc (frl rfl) (frc rfl rfl))))))) ?_
            refine RunL.call cal16 rfl (s16f (by omega)) rfl (fun vy12 Ay12 hy12 => ?_)
            obtain ⟨y13, ⟨y14, rfl⟩⟩ := hy12
            refine RunL.ok (OpOk.assign rfl) rfl ?_
            refine RunL.nil ?_
            refine Run.seq ?_
            refine Run.seq ?_
            refine Run.region ?_
            refine RunL.ok (OpOk.load rfl rfl rfl (Blk.out Blk.pts.left.left.left.left.left.left.left _ _ (by first | rfl | assumption))) rfl ?_
            refine RunL.ok (OpOk.not rfl) rfl ?_
            refine RunL.ok (OpOk.move rfl) rfl ?_
            refine RunL.on rfl rfl ?_
            refine RunL.ok (OpOk.load rfl rfl rfl (Blk.out Blk.pts.left.left.left.left.left.left _ _ (by first | rfl | assumption))) rfl ?_
            refine RunL.on rfl rfl ?_
            refine RunL.ok (OpOk.load rfl rfl rfl (Blk.out Blk.pts.left.left.left.left.left _ _ (by first | rfl | assumption))) rfl ?_
            refine RunL.on rfl rfl ?_
            refine RunL.ok (OpOk.lenR rfl rfl (Rd.right rdy7).left.left.left.left rfl) rfl ?_
            refine RunL.on rfl rfl ?_
            refine RunL.ok (OpOk.as (c := false) (OpOk.neq rfl rfl) (by rw [decide_eq_true (by omega)]; rfl)) rfl ?_
            refine RunL.ok (OpOk.pickF rfl rfl) rfl ?_
            refine RunL.ok (OpOk.move rfl) rfl ?_
            refine RunL.on rfl rfl ?_
            refine RunL.ok (OpOk.move rfl) rfl ?_
            refine RunL.on rfl rfl ?_
            refine RunL.ok (OpOk.load rfl rfl rfl (Blk.out Blk.pts.left.left.left.left.left _ _ (by first | rfl | assumption))) rfl ?_
            refine RunL.on rfl rfl ?_
            refine RunL.ok (OpOk.fieldAddr fld39_2 rfl) rfl ?_
            refine RunL.on rfl rfl ?_
            refine RunL.ok (OpOk.load rfl rfl rfl (Blk.out Blk.pts.left.left.left _ _ (by first | rfl | assumption))) rfl ?_
            refine RunL.on rfl rfl ?_
            refine RunL.call cal18 rfl (s18 (Rd.right rdy7).left.left.left.left (by omega)) rfl (fun vy15 Ay15 hy15 => ?_)
            obtain ⟨y16, rfl⟩ := hy15
            refine RunL.on rfl rfl ?_
            refine RunL.know (fun w s => (s.conv (frl (frl rfl))).ownRd0) (fun rdy17 => ?_)
            refine RunL.know (fun w s => (s.conv rfl).ownRd0) (fun rdy18 => ?_)
            refine RunL.call cal24 rfl (s24 (Rd.right rdy17).left.left (Rd.right rdy18)) rfl (fun vy19 Ay19 hy19 => ?_)
            obtain ⟨rfl, rfl⟩ := hy19
            refine RunL.on rfl rfl ?_
            refine RunL.ok (OpOk.not rfl) rfl ?_
            refine RunL.ok (OpOk.pickF rfl rfl) rfl ?_
            refine RunL.nil ?_
            refine Run.condNF rfl (by first | omega | with_reducible rfl | assumption) ?_
            refine Run.skip ?_
            refine Run.region ?_
            refine RunL.ok (OpOk.load rfl rfl rfl (Blk.out Blk.pts.left.left.left.left.left.left.left _ _ (by first | rfl | assumption))) rfl ?_
            refine RunL.ok (OpOk.fieldAddr fld39_2 rfl) rfl ?_
            refine RunL.ok (OpOk.load rfl rfl rfl (Blk.out Blk.pts.left.left.left.left.left _ _ (by first | rfl | assumption))) rfl ?_
            refine RunL.call cal18 rfl (s18 (Rd.right rdy7).left.left.left.left.left.left (by omega)) rfl (fun vy20 Ay20 hy20 => ?_)
            obtain ⟨y21, rfl⟩ := hy20
            refine RunL.know (fun w s => (s.conv rfl).ownRd0) (fun rdy22 => ?_)
            refine RunL.store ti22 rfl rfl (Rd.one rdy22) (frl (frl (frl (frl (frl (frl (frl (frl (frl rfl))))))))) (by exact Nat.le_of_ble_eq_true rfl) (.inl rfl) ?_
            refine RunL.nil ?_
            refine Run.inBlock ?_
            refine Run.seq ?_
            refine Run.region ?_
            refine RunL.alloc ti3 rfl (fun by23 => ?_)
            refine RunL.store ti3 rfl rfl rfl rfl (by exact Nat.le_of_ble_eq_true rfl) (.inl rfl) ?_
            refine RunL.nil ?_
            refine Run.seq ?_
            refine Run.seq ?_
            refine Run.region ?_
            refine RunL.ok (OpOk.move rfl) rfl ?_
            refine RunL.nil ?_
            refine Run.block ?_
            have hL2 : ((only os true l)).length ≤ puts (ops.take (i + 1)) + (i + 1) := by omega
            have hL3 : ((only os true l)).length ≤ 1048726 := by omega
            refine Run.range (Z := Asn × Int) (iterS (v := y4) (ss := l) (b := y3) (by omega)) rfl rfl (fun z => old w0 * z.1 * pts bx1 (.cells #[.bool false] 4 (0, 0)) * pts by8 (.cells #[vy6] 22 (0, 0)) * own 9 1 vy6 l.length (Fl encS l) * pts by23 (.cells #[.int .i64 z.2] 3 (0, 0)) * pts bx5 (.cells #[vy20] 22 (0, 0)) * own 9 1 vy20 ((only os true l)).length (Fl encS ((only os true l))) * pts bx4 (.cells #[y14] 26 (0, 0)) * own 9 1 y14 ((only os true l)).length (Fl encS ((only os true l)))) (fun i z => z.2 = (i : Int) ∧ i < 4) (fun c z => c = .exit 5 ∧ z.2 = 4 ∧ 4 ≤ l.length) (J * y13 * pts by11 (.cells #[.bool true] 4 (0, 0)) * pts by10 (.cells #[.int .i64 (l.length : Int)] 3 (0, 0)) * own 9 1 lv l.length (Fl encS l) * pts by1 (.cells (Value.agg (encT39 (ok, oi, os, osv, ol)).toArray).cells 39 (0, 0)) * own 9 1 vy12 (only os false l).length (Fl encS (only os false l)) * y16 * own 9 1 vy15 (only os false l).length (Fl encS (only os false l)) * y21, 0) ⟨rfl, by decide⟩ ?_ (fun RR lo rc j z J3 hj hz hgo _ hex => ?_) (fun z J3 D hz => ?_) (fun c z J3 D hz => ?_)
            · simp only [← sep_assoc]
              exact (frc (frl (frl (frl (frl (frl (frl (frl (frl (frl (frl (frl (frl (frl (frl (frl (frl (frl (frl rfl)))))))))))))))))) (frc (frl (frl (frl (frl (frl (frl (frl (frl (frl (frl (frl (frl (frl (frl (frl (frl rfl)))))))))))))))) (frc (frl (frl (frl (frl (frl (frl (frl (frl (frl (frl (frl (frl (frl (frl (frl (frl rfl)))))))))))))))) (frc (frl (frl (frl (frl (frl (frl (frl rfl))))))) (frc (frl (frl (frl (frl (frl (frl (frl rfl))))))) (frc (frl (frl rfl)) (frc (frl rfl) (frc rfl (frc (frl (frl (frl (frl (frl (frl (frl (frl (frl (frl rfl)))))))))) (frc (frl (frl (frl (frl (frl (frl (frl (frl (frl rfl))))))))) (frc (frl (frl (frl (frl (frl (frl (frl (frl (frl rfl))))))))) rfl)))))))))))
            · obtain ⟨J2, n⟩ := z
              simp only at hz hgo hex ⊢
              obtain ⟨hz, hj4⟩ := hz
              subst hz
              rcases Nat.lt_or_ge j 3 with h3 | h3
              · refine Run.region ?_
                refine RunL.ok (OpOk.assign rfl) rfl ?_
                refine RunL.nil ?_
                refine Run.beginRound ?_
                refine Run.block ?_
                refine Run.seq ?_
                refine Run.seq ?_
                refine Run.region ?_
                refine RunL.ok (OpOk.load rfl rfl rfl (Blk.out Blk.pts.left.left.left.left.left.left _ _ (by first | rfl | assumption))) rfl ?_
                refine RunL.ok (OpOk.load rfl rfl rfl (Blk.out Blk.pts.left.left.left.left.left.left.left.left _ _ (by first | rfl | assumption))) rfl ?_
                refine RunL.ok (OpOk.lenR rfl rfl (Rd.right rdy9).left.left.left.left.left.left.left rfl) rfl ?_
                refine RunL.ok (OpOk.asF (OpOk.geq rfl rfl) (by omega)) rfl ?_
                refine RunL.ok (OpOk.move rfl) rfl ?_
                refine RunL.on rfl rfl ?_
                refine RunL.ok (OpOk.move rfl) rfl ?_
                refine RunL.on rfl rfl ?_
                refine RunL.ok (OpOk.load rfl rfl rfl (Blk.out Blk.pts.left.left.left.left.left.left.left.left _ _ (by first | rfl | assumption))) rfl ?_
                refine RunL.on rfl rfl ?_
                refine RunL.ok (OpOk.load rfl rfl rfl (Blk.out Blk.pts.left.left.left.left.left.left _ _ (by first | rfl | assumption))) rfl ?_
                refine RunL.on rfl rfl ?_
                refine RunL.ok (OpOk.idx1N rfl ti9 rfl (Rd.right rdy9).left.left.left.left.left.left.left rfl (by omega)) rfl ?_
                refine RunL.on rfl rfl ?_
                refine RunL.ok (OpOk.loadStr rfl rfl rfl (Rd.right rdy9).left.left.left.left.left.left.left (by omega)) rfl ?_
                refine RunL.on rfl rfl ?_
                refine RunL.ok (OpOk.neqSS rfl rfl) rfl ?_
                refine RunL.ok (OpOk.pickF rfl rfl) rfl ?_
                refine RunL.nil ?_
                refine Run.condNF rfl (by first | omega | with_reducible rfl | assumption) ?_
                refine Run.skip ?_
                refine Run.seq ?_
                refine Run.region ?_
                refine RunL.ok (OpOk.load rfl rfl rfl (Blk.out Blk.pts.left.left.left.left.left.left _ _ (by first | rfl | assumption))) rfl ?_
                refine RunL.ok (OpOk.addN _ 1 rfl rfl rfl rfl (by omega)) rfl ?_
                refine RunL.store ti3 rfl rfl rfl (frl (frl (frl (frl (frl (frl rfl)))))) (by exact Nat.le_of_ble_eq_true rfl) (.inl rfl) ?_
                refine RunL.nil ?_
                refine Run.seq ?_
                refine Run.region ?_
                refine RunL.ok (OpOk.load rfl rfl rfl (Blk.out Blk.pts _ _ (by first | rfl | assumption))) rfl ?_
                refine RunL.ok (OpOk.asF (OpOk.eql rfl rfl) (by omega)) rfl ?_
                refine RunL.nil ?_
                refine Run.condF rfl ?_
                refine Run.skip ?_
                refine Run.inBlock ?_
                refine Run.jump ((hgo (_, (j : Int) + 1) ⟨by dsimp only; omega, by omega⟩ [])) trivial (Grew.of (Eq.trans (frc (frl rfl) (frc (frl rfl) (frc (frl rfl) (frc (frl rfl) (frc (frl rfl) (frc (frl rfl) (frc rfl rfl))))))) (congrArg (· * _) (congrArg (· * _) (congrArg (· * _) (congrArg (· * _) (congrArg (· * _) (congrArg (· * _) (congrArg (· * _) (congrArg (· * _) (congrArg (· * _) (congrArg (· * _) as1))))))))))) (Grew.refl _))
              · obtain rfl : j = 3 := by omega
                refine Run.region ?_
                refine RunL.ok (OpOk.assign rfl) rfl ?_
                refine RunL.nil ?_
                refine Run.beginRound ?_
                refine Run.block ?_
                refine Run.seq ?_
                refine Run.seq ?_
                refine Run.region ?_
                refine RunL.ok (OpOk.load rfl rfl rfl (Blk.out Blk.pts.left.left.left.left.left.left _ _ (by first | rfl | assumption))) rfl ?_
                refine RunL.ok (OpOk.load rfl rfl rfl (Blk.out Blk.pts.left.left.left.left.left.left.left.left _ _ (by first | rfl | assumption))) rfl ?_
                refine RunL.ok (OpOk.lenR rfl rfl (Rd.right rdy9).left.left.left.left.left.left.left rfl) rfl ?_
                refine RunL.ok (OpOk.asF (OpOk.geq rfl rfl) (by omega)) rfl ?_
                refine RunL.ok (OpOk.move rfl) rfl ?_
                refine RunL.on rfl rfl ?_
                refine RunL.ok (OpOk.move rfl) rfl ?_
                refine RunL.on rfl rfl ?_
                refine RunL.ok (OpOk.load rfl rfl rfl (Blk.out Blk.pts.left.left.left.left.left.left.left.left _ _ (by first | rfl | assumption))) rfl ?_
                refine RunL.on rfl rfl ?_
                refine RunL.ok (OpOk.load rfl rfl rfl (Blk.out Blk.pts.left.left.left.left.left.left _ _ (by first | rfl | assumption))) rfl ?_
                refine RunL.on rfl rfl ?_
                refine RunL.ok (OpOk.idx1N rfl ti9 rfl (Rd.right rdy9).left.left.left.left.left.left.left rfl (by omega)) rfl ?_
                refine RunL.on rfl rfl ?_
                refine RunL.ok (OpOk.loadStr rfl rfl rfl (Rd.right rdy9).left.left.left.left.left.left.left (by omega)) rfl ?_
                refine RunL.on rfl rfl ?_
                refine RunL.ok (OpOk.neqSS rfl rfl) rfl ?_
                refine RunL.ok (OpOk.pickF rfl rfl) rfl ?_
                refine RunL.nil ?_
                refine Run.condNF rfl (by first | omega | with_reducible rfl | assumption) ?_
                refine Run.skip ?_
                refine Run.seq ?_
                refine Run.region ?_
                refine RunL.ok (OpOk.load rfl rfl rfl (Blk.out Blk.pts.left.left.left.left.left.left _ _ (by first | rfl | assumption))) rfl ?_
                refine RunL.ok (OpOk.addN _ 1 rfl rfl rfl rfl (by omega)) rfl ?_
                refine RunL.store ti3 rfl rfl rfl (frl (frl (frl (frl (frl (frl rfl)))))) (by exact Nat.le_of_ble_eq_true rfl) (.inl rfl) ?_
                refine RunL.nil ?_
                refine Run.seq ?_
                refine Run.region ?_
                refine RunL.ok (OpOk.load rfl rfl rfl (Blk.out Blk.pts _ _ (by first | rfl | assumption))) rfl ?_
                refine RunL.ok (OpOk.asT (OpOk.eql rfl rfl) (by omega)) rfl ?_
                refine RunL.nil ?_
                refine Run.condT rfl ?_
                refine Run.jump ((hex 5 (_, 4) ⟨rfl, rfl, by omega⟩ _ [] rfl)) trivial (Grew.of (Eq.trans (frc (frl rfl) (frc (frl rfl) (frc (frl rfl) (frc (frl rfl) (frc (frl rfl) (frc (frl rfl) (frc rfl rfl))))))) (congrArg (· * _) (congrArg (· * _) (congrArg (· * _) (congrArg (· * _) (congrArg (· * _) (congrArg (· * _) (congrArg (· * _) (congrArg (· * _) (congrArg (· * _) (congrArg (· * _) as1))))))))))) (Grew.refl _))
            · obtain ⟨J2, n⟩ := z
              simp only at hz ⊢
              obtain ⟨hz, hn4⟩ := hz
              subst hz
              refine Run.inBlock ?_
              refine Run.seq ?_
              refine Run.know (fun w s => (s.conv (frl (frl rfl))).ownRd0) (fun rdz1 => ?_)
              (apply Run.drawD [] (by rfl) (Eq.trans (frc (frl (frl rfl)) (frc (frl (frl rfl)) rfl)) (asg rfl)); case hchk => kernel_rfl)
              refine Sd.quiet 0 _ _ rfl rfl rfl rfl rfl (QOp.ok (fun X => OpOk.load rfl rfl rfl (Blk.out Blk.pts.left.left.left.left.left.left _ _ (by first | rfl | assumption)))) ?_
              refine Sd.quiet 1 _ _ rfl rfl rfl rfl rfl (QOp.ok (fun X => OpOk.load rfl rfl rfl (Blk.out Blk.pts.left.left.left.left.left.left.left.left _ _ (by first | rfl | assumption)))) ?_
              refine Sd.quiet 2 _ _ rfl rfl rfl rfl rfl (QOp.ok (fun X => OpOk.lenR rfl rfl (Rd.right rdy9).left.left.left.left.left.left.left rfl)) ?_
              refine Sd.quiet 3 _ _ rfl rfl rfl rfl rfl (QOp.ok (fun X => OpOk.min2L rfl rfl rfl (by omega))) ?_
              refine Sd.quiet 4 _ _ rfl rfl rfl rfl rfl (QOp.ok (fun X => OpOk.as (c := false) (OpOk.neq rfl rfl) (by rw [decide_eq_true (by omega)]; rfl))) ?_
              refine Sd.quiet 5 _ _ rfl rfl rfl rfl rfl (QOp.ok (fun X => OpOk.move rfl)) ?_
              refine Sd.quiet 6 _ _ rfl rfl rfl rfl rfl (QOp.ok (fun X => OpOk.move rfl)) ?_
              refine Sd.quiet 8 _ _ rfl rfl rfl rfl rfl (QOp.ok (fun X => OpOk.load rfl rfl rfl (Blk.out Blk.pts.left.left.left.left.left _ _ (by first | rfl | assumption)))) ?_
              (refine Sd.exec 7 rfl rfl rfl rfl rfl ?hrest (by rfl) (fun Xz2 Kz2 hKz2 => ?_); case hrest => kernel_rfl)
              refine RunL.mem (fl2 (sep_emp _) (flS rfl)) ?_
              refine RunL.call cal30 rfl (s30 (by omega)) rfl (fun vz3 Az3 hz3 => ?_)
              obtain ⟨z4, rfl⟩ := hz3
              refine RunL.know (fun w s => (s.conv rfl).ownRd0) (fun rdz5 => ?_)
              refine Sd.ret hKz2 (Eq.trans (frc (frl rfl) (frc (frl rfl) rfl)) (gp2 (asg rfl) (asg rfl))) ⟨_, (emp_sep _).symm⟩ ?_
              refine Sd.quiet 9 _ _ rfl rfl rfl rfl rfl (QOp.call cal24 rfl (fun X => s24 (Rd.right (Rd.right rdz5)).left (Rd.right rdy22).left.left.left.left)) ?_
              refine Sd.quiet 10 _ _ rfl rfl rfl rfl rfl (QOp.ok (fun X => OpOk.not rfl)) ?_
              refine Sd.quiet 11 _ _ rfl rfl rfl rfl rfl (QOp.ok (fun X => OpOk.pickF rfl rfl)) ?_
              refine Sd.quiet 12 _ _ rfl rfl rfl rfl rfl (QOp.ok (fun X => OpOk.move rfl)) ?_
              refine Sd.splitBF (bnF (by first | omega | with_reducible rfl | assumption)) ?_
              refine Sd.quiet 13 _ _ rfl rfl rfl rfl rfl (QOp.ok (fun X => OpOk.move rfl)) ?_
              refine Sd.quiet 15 _ _ rfl rfl rfl rfl rfl (QOp.ok (fun X => OpOk.load rfl rfl rfl (Blk.out Blk.pts.left.left.left.left.left _ _ (by first | rfl | assumption)))) ?_
              refine Sd.quiet 16 _ _ rfl rfl rfl rfl rfl (QOp.ok (fun X => OpOk.lenR rfl rfl (Rd.right rdy22).left.left.left.left rfl)) ?_
              (refine Sd.exec 14 rfl rfl rfl rfl rfl ?hrest (by rfl) (fun Xz6 Kz6 hKz6 => ?_); case hrest => kernel_rfl)
              refine RunL.mem (fl2 (flS rfl) (flS rfl)) ?_
              refine RunL.call cal20 rfl (s20) rfl (fun vz7 Az7 hz7 => ?_)
              obtain ⟨rfl, rfl⟩ := hz7
              refine Sd.ret hKz6 (Eq.trans rfl (gp2 (sep_emp _).symm (asg (asg (asg rfl))))) ⟨_, (asg rfl)⟩ ?_
              refine Sd.quiet 17 _ _ rfl rfl rfl rfl rfl (QOp.ok (fun X => OpOk.as (c := false) (OpOk.neq rfl rfl) (by rw [decide_eq_true (by omega)]; rfl))) ?_
              refine Sd.quiet 18 _ _ rfl rfl rfl rfl rfl (QOp.ok (fun X => OpOk.pickF rfl rfl)) ?_
              (apply Sd.tail; case hall => kernel_rfl)
              refine RunL.mem (fl2 (flS (flS (flS rfl))) (sep_emp _)) ?_
              refine RunL.nil ?_
              refine Run.condF rfl ?_
              refine Run.skip ?_
              refine Run.inBlock ?_
              refine Run.region ?_
              refine RunL.ok (OpOk.move rfl) rfl ?_
              refine RunL.ok (OpOk.addN _ 1 rfl rfl rfl rfl (by omega)) rfl ?_
              refine RunL.ok (OpOk.assign rfl) rfl ?_
              refine RunL.nil ?_
              refine Run.jump ((ih (i + 1, D :: ds, _, y14, vy20, (only os true l)) ⟨by dsimp only; omega, by dsimp only; omega, hL2⟩ (by dsimp only; omega))) ⟨rfl, rfl, rfl, rfl, rfl, trivial⟩ (Grew.of (Eq.trans (frc (frl (frl (frl (frl rfl)))) (frc rfl (frc rfl (frc (frl (frl (frl rfl))) (frc (frl (frl (frl rfl))) (frc (frl (frl (frl (frl (frl (frl rfl)))))) rfl)))))) (congrArg (· * _) (congrArg (· * _) (congrArg (· * _) (congrArg (· * _) (congrArg (· * _) (congrArg (· * _) (asg (asg (asg (asg (asg (asg as1))))))))))))) (Grew.refl _))
            · obtain ⟨J2, n⟩ := z
              simp only at hz ⊢
              obtain ⟨rfl, hz, hn4⟩ := hz
              subst hz
              refine Run.exit rfl ?_
              refine Run.seq ?_
              refine Run.know (fun w s => (s.conv (frl (frl rfl))).ownRd0) (fun rdz1 => ?_)
              (apply Run.drawD [] (by rfl) (Eq.trans (frc (frl (frl rfl)) (frc (frl (frl rfl)) rfl)) (asg rfl)); case hchk => kernel_rfl)
              refine Sd.quiet 0 _ _ rfl rfl rfl rfl rfl (QOp.ok (fun X => OpOk.load rfl rfl rfl (Blk.out Blk.pts.left.left.left.left.left.left _ _ (by first | rfl | assumption)))) ?_
              refine Sd.quiet 1 _ _ rfl rfl rfl rfl rfl (QOp.ok (fun X => OpOk.load rfl rfl rfl (Blk.out Blk.pts.left.left.left.left.left.left.left.left _ _ (by first | rfl | assumption)))) ?_
              refine Sd.quiet 2 _ _ rfl rfl rfl rfl rfl (QOp.ok (fun X => OpOk.lenR rfl rfl (Rd.right rdy9).left.left.left.left.left.left.left rfl)) ?_
              refine Sd.quiet 3 _ _ rfl rfl rfl rfl rfl (QOp.ok (fun X => OpOk.min2R rfl rfl rfl (by omega))) ?_
              refine Sd.quiet 4 _ _ rfl rfl rfl rfl rfl (QOp.ok (fun X => OpOk.as (c := false) (OpOk.neq rfl rfl) (by rw [decide_eq_true (by omega)]; rfl))) ?_
              refine Sd.quiet 5 _ _ rfl rfl rfl rfl rfl (QOp.ok (fun X => OpOk.move rfl)) ?_
              refine Sd.quiet 6 _ _ rfl rfl rfl rfl rfl (QOp.ok (fun X => OpOk.move rfl)) ?_
              refine Sd.quiet 8 _ _ rfl rfl rfl rfl rfl (QOp.ok (fun X => OpOk.load rfl rfl rfl (Blk.out Blk.pts.left.left.left.left.left _ _ (by first | rfl | assumption)))) ?_
              (refine Sd.exec 7 rfl rfl rfl rfl rfl ?hrest (by rfl) (fun Xz2 Kz2 hKz2 => ?_); case hrest => kernel_rfl)
              refine RunL.mem (fl2 (sep_emp _) (flS rfl)) ?_
              refine RunL.call cal30 rfl (s30 (by omega)) rfl (fun vz3 Az3 hz3 => ?_)
              obtain ⟨z4, rfl⟩ := hz3
              refine RunL.know (fun w s => (s.conv rfl).ownRd0) (fun rdz5 => ?_)
              refine Sd.ret hKz2 (Eq.trans (frc (frl rfl) (frc (frl rfl) rfl)) (gp2 (asg rfl) (asg rfl))) ⟨_, (emp_sep _).symm⟩ ?_
              refine Sd.quiet 9 _ _ rfl rfl rfl rfl rfl (QOp.call cal24 rfl (fun X => s24 (Rd.right (Rd.right rdz5)).left (Rd.right rdy22).left.left.left.left)) ?_
              refine Sd.quiet 10 _ _ rfl rfl rfl rfl rfl (QOp.ok (fun X => OpOk.not rfl)) ?_
              refine Sd.quiet 11 _ _ rfl rfl rfl rfl rfl (QOp.ok (fun X => OpOk.pickF rfl rfl)) ?_
              refine Sd.quiet 12 _ _ rfl rfl rfl rfl rfl (QOp.ok (fun X => OpOk.move rfl)) ?_
              refine Sd.splitBF (bnF (by first | omega | with_reducible rfl | assumption)) ?_
              refine Sd.quiet 13 _ _ rfl rfl rfl rfl rfl (QOp.ok (fun X => OpOk.move rfl)) ?_
              refine Sd.quiet 15 _ _ rfl rfl rfl rfl rfl (QOp.ok (fun X => OpOk.load rfl rfl rfl (Blk.out Blk.pts.left.left.left.left.left _ _ (by first | rfl | assumption)))) ?_
              refine Sd.quiet 16 _ _ rfl rfl rfl rfl rfl (QOp.ok (fun X => OpOk.lenR rfl rfl (Rd.right rdy22).left.left.left.left rfl)) ?_
              (refine Sd.exec 14 rfl rfl rfl rfl rfl ?hrest (by rfl) (fun Xz6 Kz6 hKz6 => ?_); case hrest => kernel_rfl)
              refine RunL.mem (fl2 (flS rfl) (flS rfl)) ?_
              refine RunL.call cal20 rfl (s20) rfl (fun vz7 Az7 hz7 => ?_)
              obtain ⟨rfl, rfl⟩ := hz7
              refine Sd.ret hKz6 (Eq.trans rfl (gp2 (sep_emp _).symm (asg (asg (asg rfl))))) ⟨_, (asg rfl)⟩ ?_
              refine Sd.quiet 17 _ _ rfl rfl rfl rfl rfl (QOp.ok (fun X => OpOk.as (c := false) (OpOk.neq rfl rfl) (by rw [decide_eq_true (by omega)]; rfl))) ?_
              refine Sd.quiet 18 _ _ rfl rfl rfl rfl rfl (QOp.ok (fun X => OpOk.pickF rfl rfl)) ?_
              (apply Sd.tail; case hall => kernel_rfl)
              refine RunL.mem (fl2 (flS (flS (flS rfl))) (sep_emp _)) ?_
              refine RunL.nil ?_
              refine Run.condF rfl ?_
              refine Run.skip ?_
              refine Run.inBlock ?_
              refine Run.region ?_
              refine RunL.ok (OpOk.move rfl) rfl ?_
              refine RunL.ok (OpOk.addN _ 1 rfl rfl rfl rfl (by omega)) rfl ?_
              refine RunL.ok (OpOk.assign rfl) rfl ?_
              refine RunL.nil ?_
              refine Run.jump ((ih (i + 1, D :: ds, _, y14, vy20, (only os true l)) ⟨by dsimp only; omega, by dsimp only; omega, hL2⟩ (by dsimp only; omega))) ⟨rfl, rfl, rfl, rfl, rfl, trivial⟩ (Grew.of (Eq.trans (frc (frl (frl (frl (frl rfl)))) (frc rfl (frc rfl (frc (frl (frl (frl rfl))) (frc (frl (frl (frl rfl))) (frc (frl (frl (frl (frl (frl (frl rfl)))))) rfl)))))) (congrArg (· * _) (congrArg (· * _) (congrArg (· * _) (congrArg (· * _) (congrArg (· * _) (congrArg (· * _) (asg (asg (asg (asg (asg (asg as1))))))))))))) (Grew.refl _))
    · clear ih
      refine Run.seq ?_
      refine Run.seq ?_
      refine Run.region ?_
      refine RunL.ok (OpOk.move rfl) rfl ?_
      refine RunL.ok (OpOk.move rfl) rfl ?_
      refine RunL.ok (OpOk.lenR rfl rfl rd.left.left.left.left.left.left.left rfl) rfl ?_
      refine RunL.ok (OpOk.asT (OpOk.lss rfl rfl) (by omega)) rfl ?_
      refine RunL.ok (OpOk.move rfl) rfl ?_
      refine RunL.on rfl rfl ?_
      refine RunL.ok (OpOk.move rfl) rfl ?_
      refine RunL.on rfl rfl ?_
      refine RunL.ok (OpOk.asF (OpOk.lss rfl rfl) (by omega)) rfl ?_
      refine RunL.ok (OpOk.pickT rfl rfl) rfl ?_
      refine RunL.nil ?_
      refine Run.condF rfl ?_
      refine Run.exit rfl ?_
      refine Run.seq ?_
      refine Run.region ?_
      refine RunL.store ti4 rfl rfl rfl (frl (frl (frl (frl (frl rfl))))) (by exact Nat.le_of_ble_eq_true rfl) (.inl rfl) ?_
      refine RunL.nil ?_
      refine Run.mem (frc (frl rfl) rfl) ?_
      refine Run.shut ?_
      refine Run.retC1 (A' := _) Try.func5 rfl rfl rfl rfl Blk.pts rfl (Grew.refl _) ?_
      exact ⟨rfl, ⟨_, (asg (asg (asg (asg (asg as1)))))⟩⟩
  · clear ih
    refine Run.seq ?_
    refine Run.seq ?_
    refine Run.region ?_
    refine RunL.ok (OpOk.move rfl) rfl ?_
    refine RunL.ok (OpOk.move rfl) rfl ?_
    refine RunL.ok (OpOk.lenR rfl rfl rd.left.left.left.left.left.left.left rfl) rfl ?_
    refine RunL.ok (OpOk.asF (OpOk.lss rfl rfl) (by omega)) rfl ?_
    refine RunL.ok (OpOk.move rfl) rfl ?_
    refine RunL.off rfl rfl rfl rfl ?_
    refine RunL.off rfl rfl rfl rfl ?_
    refine RunL.ok (OpOk.pickF rfl rfl) rfl ?_
    refine RunL.nil ?_
    refine Run.condF rfl ?_
    refine Run.exit rfl ?_
    refine Run.seq ?_
    refine Run.region ?_
    refine RunL.store ti4 rfl rfl rfl (frl (frl (frl (frl (frl rfl))))) (by exact Nat.le_of_ble_eq_true rfl) (.inl rfl) ?_
    refine RunL.nil ?_
    refine Run.mem (frc (frl rfl) rfl) ?_
    refine Run.shut ?_
    refine Run.retC1 (A' := _) Try.func5 rfl rfl rfl rfl Blk.pts rfl (Grew.refl _) ?_
    exact ⟨rfl, ⟨_, (asg (asg (asg (asg (asg as1)))))⟩⟩
end
end Go.Proofs.Ytegbfnibjgpbpaa
