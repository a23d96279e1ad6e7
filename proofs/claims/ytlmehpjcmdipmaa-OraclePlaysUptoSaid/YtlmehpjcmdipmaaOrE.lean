/- The law OracleOrder, walked. -/
import Derived.Test.YtlmehpjcmdipmaaOrC
import Derived.Test.YtlmehpjcmdipmaaOrD
import Derived.Test.YtlmehpjcmdipmaaSto
namespace Go.Proofs.Ytlmehpjcmdipmaa
open Go Go.Proofs
set_option maxRecDepth 100000
set_option maxHeartbeats 4000000
set_option linter.unusedSimpArgs false
/-- The list behind a Mint, and the token. -/
def nxtL (l : List Me) (x : Me) : List Me := if atF 0 l x = 0 then l ++ [x] else l
def nxtT (l : List Me) (x : Me) : Nat := if atF 0 l x = 0 then l.length + 1 else atF 0 l x
theorem nxt_facts {l : List Me} {x : Me} (hn : l.Nodup) : (nxtL l x).Nodup ∧ 1 ≤ nxtT l x ∧ nxtT l x ≤ (nxtL l x).length ∧ nxtT l x ≤ l.length + 1 ∧ (nxtL l x).length ≤ l.length + 1 ∧ (nxtL l x).getD (nxtT l x - 1) default = x ∧ (nxtT l x = l.length + 1 ↔ (nxtL l x).length = l.length + 1) := by
  unfold nxtL nxtT
  rcases Decidable.em (atF 0 l x = 0) with h | h
  · simp only [if_pos h]
    obtain ⟨_, h2⟩ := atF_zero h
    refine ⟨?_, by omega, by simp, by omega, by simp, ?_, by simp⟩
    · rw [List.nodup_append]
      refine ⟨hn, by simp, fun a ha b hb => ?_⟩
      simp only [List.mem_singleton] at hb
      subst hb
      exact fun e => h2 (e ▸ ha)
    · rw [Nat.add_sub_cancel, List.getD_eq_getElem?_getD, List.getElem?_append_right (Nat.le_refl _), Nat.sub_self]
      rfl
  · simp only [if_neg h]
    obtain ⟨_, h1, h2, h3⟩ := atF_pos h
    refine ⟨hn, by omega, by omega, by omega, by omega, h3, by omega⟩
theorem nodup_getD {l : List Me} (hn : l.Nodup) {i j : Nat} (hi : i < l.length) (hj : j < l.length) (h : l.getD i default = l.getD j default) : i = j := by
  rw [List.getD_eq_getElem?_getD, List.getD_eq_getElem?_getD, List.getElem?_eq_getElem hi, List.getElem?_eq_getElem hj] at h
  exact (List.getElem_inj hn).1 h
section
variable {w0 : World} {A : Asn}
theorem s14 {p t2 : Nat} {mv av : Value} {l l2 : List Me} {a b c d : Int} {u : Value} {m : Nat} {ls : List (Value × List UInt8)} (rd : Rd w0 A u 1 m (Fl encV ls)) (al : Alls (GB w0) A ls) (hl2 : l2 = nxtL l ((a, b, c, d), flatB ls)) (ht2 : t2 = nxtT l ((a, b, c, d), flatB ls)) (hb : (flatB ls).length ≤ 140737488355328) (hl : l.length ≤ 1048576) :
    Spec Try.prog w0 14 [.pointer (some ⟨p, 0, none⟩), .agg #[.int .i64 a, .int .i64 b, .int .i64 c, .int .i64 d], u] (A * pts p (.cells #[mv, av] 34 (0, 0)) * omap mv (l) * own 85 6 av (l).length (Fl encT85 (mintF 0 (l)))) (fun v' A' => ∃ mv2 av2 J, v' = .int .i64 (t2 : Int) ∧ A' = A * J * pts p (.cells #[mv2, av2] 34 (0, 0)) * omap mv2 (l2) * own 85 6 av2 (l2).length (Fl encT85 (mintF 0 (l2)))) := by
  subst hl2 ht2
  unfold nxtL nxtT
  rcases Decidable.em (atF 0 l ((a, b, c, d), flatB ls) = 0) with h | h
  · simp only [if_pos h]
    refine (s14a rd al h hb hl).mono ?_
    rintro v' A' ⟨rfl, mv2, av2, J, rfl⟩
    exact ⟨mv2, av2, J, rfl, rfl⟩
  · simp only [if_neg h]
    refine (s14b rd al h hb hl).mono ?_
    rintro v' A' ⟨rfl, J, rfl⟩
    exact ⟨mv, av, J, rfl, rfl⟩
theorem s15 {p : Nat} {mv av : Value} {l : List Me} {t a b c d : Int} {u : Value} {m : Nat} {ls : List (Value × List UInt8)} (rd : Rd w0 A u 1 m (Fl encV ls)) (al : Alls (GB w0) A ls) (hb : (flatB ls).length ≤ 140737488355328) (hl : l.length ≤ 1048576) :
    Spec Try.prog w0 15 [.pointer (some ⟨p, 0, none⟩), .int .i64 t, .agg #[.int .i64 a, .int .i64 b, .int .i64 c, .int .i64 d], u] (A * pts p (.cells #[mv, av] 34 (0, 0)) * omap mv (l) * own 85 6 av (l).length (Fl encT85 (mintF 0 (l)))) (fun v' A' => ∃ J, v' = .bool (decide (holdsP l t ((a, b, c, d), flatB ls))) ∧ A' = A * J * pts p (.cells #[mv, av] 34 (0, 0)) * omap mv (l) * own 85 6 av (l).length (Fl encT85 (mintF 0 (l)))) := by
  rcases Decidable.em (1 ≤ t ∧ t ≤ (l.length : Int)) with h | h
  · refine (s15c rd al h.1 h.2 hl hb).mono ?_
    rintro v' A' ⟨rfl, J, rfl⟩
    refine ⟨J, congrArg Value.bool (decide_eq_decide.2 ⟨fun e => ⟨h.1, h.2, e⟩, fun e => e.2.2⟩), rfl⟩
  · refine (s15a (by omega)).mono ?_
    rintro v' A' ⟨rfl, J, rfl⟩
    refine ⟨J, congrArg Value.bool (decide_eq_false (fun e : holdsP l t ((a, b, c, d), flatB ls) => h ⟨e.1, e.2.1⟩)).symm, rfl⟩
theorem oracleOrder_spec {u : Value} {ops : List OpT} (rd : Rd w0 (old w0) u 7 ops.length (Fl encT28 ops)) (hok : ∀ o ∈ ops, OpG w0 o) :
    Spec Try.prog w0 12 [u] (old w0) (fun v' A' => v' = .bool true ∧ Grew (old w0) A') := by
  have hmx := rd.max
  refine Spec.of_run [(0, u)] Try.func12 rfl (Nat.le_of_ble_eq_true rfl) (by repeat (first | exact trivial | refine ⟨rfl, ?_⟩)) ?_
  refine Run.seq ?_
  refine Run.region ?_
  refine RunL.alloc ti4 rfl (fun bx1 => ?_)
  refine RunL.nil ?_
  refine Run.seq ?_
  refine Run.seq ?_
  refine Run.region ?_
  refine RunL.call cal13 rfl (s13) rfl (fun vx2 Ax2 hx2 => ?_)
  obtain ⟨x3, ⟨rfl, rfl⟩⟩ := hx2
  refine RunL.ok (OpOk.not rfl) rfl ?_
  refine RunL.nil ?_
  refine Run.condF rfl ?_
  refine Run.skip ?_
  refine Run.seq ?_
  refine Run.region ?_
  refine RunL.ok (OpOk.build rfl (fun w => run_build w 34 _ _ (by rfl))) rfl ?_
  refine RunL.box rfl rfl (fun bx4 => ?_)
  refine RunL.ent (newT34 _ _) ?_
  refine RunL.ok (OpOk.assign rfl) rfl ?_
  refine RunL.nil ?_
  refine Run.seq ?_
  refine Run.seq ?_
  refine Run.region ?_
  refine RunL.ok (OpOk.assign rfl) rfl ?_
  refine RunL.nil ?_
  refine Run.block ?_
  refine Run.jump ((Run.loopM0 (X := Nat × List Nat × Asn × Value × Value × List Me) (fun x => x.2.1) (fun x => [(4, .int .i64 (x.1 : Int)), (3, .pointer (some ⟨bx4, 0, none⟩)), (2, .pointer (some ⟨bx1, 0, none⟩)), (0, u)]) (fun x => old w0 * x.2.2.1 * pts bx1 (.cells #[.bool false] 4 (0, 0)) * pts bx4 (.cells #[x.2.2.2.1, x.2.2.2.2.1] 34 (0, 0)) * omap x.2.2.2.1 (x.2.2.2.2.2) * own 85 6 x.2.2.2.2.1 (x.2.2.2.2.2).length (Fl encT85 (mintF 0 (x.2.2.2.2.2)))) (fun x => x.1 ≤ ops.length ∧ x.1 ≤ 100 ∧ x.2.2.2.2.2.length ≤ x.1 ∧ x.2.2.2.2.2.Nodup) (fun x => ops.length - x.1) (0, [], _, .map none, .slice none 0 0, []) ⟨Nat.zero_le _, Nat.zero_le _, by simp, by simp⟩ rfl (fun x hx ih => ?_))) ⟨rfl, rfl, rfl, rfl, trivial⟩ (Grew.of (Eq.trans (frc rfl (frc rfl (frc rfl (frc (frl rfl) rfl)))) (congrArg (· * _) (congrArg (· * _) (congrArg (· * _) (congrArg (· * _) as1))))) (Grew.refl _))
  obtain ⟨i, ds, J, mv, av, l⟩ := x
  simp only at hx ih ⊢
  obtain ⟨hi, hi1, hl, hnd⟩ := hx
  rcases Nat.lt_or_ge i ops.length with hlt | hge
  · rcases Nat.lt_or_ge i 100 with h100 | h100
    · have ho := hok _ (getD_mem hlt)
      obtain ⟨o, hoe⟩ : ∃ o, ops.getD i default = o := ⟨_, rfl⟩
      rw [hoe] at ho
      obtain ⟨ob, ot, ⟨oa, oc, od, oe⟩, os, ol⟩ := o
      have hord := ho.rd
      have hoal := ho.al
      have hosz := ho.sz
      dsimp only at hord hoal hosz
      obtain ⟨hf1, hf2, hf3, hf4, hf5, hf6, hf7⟩ := nxt_facts (x := ((oa, oc, od, oe), flatB ol)) hnd
      obtain ⟨l2, hl2⟩ : ∃ y, y = nxtL l ((oa, oc, od, oe), flatB ol) := ⟨_, rfl⟩
      obtain ⟨t2, ht2⟩ : ∃ y, y = nxtT l ((oa, oc, od, oe), flatB ol) := ⟨_, rfl⟩
      rw [← hl2] at hf1 hf3 hf5 hf6 hf7
      rw [← ht2] at hf2 hf3 hf4 hf6 hf7
      have hml := mintF_length l2 0
      refine Run.seq ?_
      refine Run.seq ?_
      refine Run.region ?_
      refine RunL.ok (OpOk.move rfl) rfl ?_
      refine RunL.ok (OpOk.move rfl) rfl ?_
      refine RunL.ok (OpOk.lenR rfl rfl rd.left.left.left.left.left.left rfl) rfl ?_
      refine RunL.ok (OpOk.asT (OpOk.lss rfl rfl) (by omega)) rfl ?_
      refine RunL.ok (OpOk.move rfl) rfl ?_
      refine RunL.on rfl rfl ?_
      refine RunL.ok (OpOk.move rfl) rfl ?_
      refine RunL.on rfl rfl ?_
      refine RunL.ok (OpOk.asT (OpOk.lss rfl rfl) (by omega)) rfl ?_
      refine RunL.ok (OpOk.pickT rfl rfl) rfl ?_
      refine RunL.nil ?_
      refine Run.condT rfl ?_
      refine Run.skip ?_
      refine Run.seq ?_
      refine Run.block ?_
      refine Run.seq ?_
      refine Run.region ?_
      refine RunL.ok (OpOk.move rfl) rfl ?_
      refine RunL.mem (frc (frl rfl) (frc (frl rfl) (frc (frl rfl) rfl))) ?_
      refine RunL.call cal39 rfl (s39) rfl (fun vy1 Ay1 hy1 => ?_)
      obtain ⟨rfl, rfl⟩ := hy1
      refine RunL.ok (OpOk.assign rfl) rfl ?_
      refine RunL.nil ?_
      refine Run.seq ?_
      refine Run.know (fun w s => (s.conv rfl).ownRd0) (fun rdy2 => ?_)
      (apply Run.drawD [13] (by rfl) (sep_emp _).symm; case hchk => kernel_rfl)
      refine Sd.quiet 0 _ _ rfl rfl rfl rfl rfl (QOp.ok (fun X => OpOk.move rfl)) ?_
      refine Sd.quiet 1 _ _ rfl rfl rfl rfl rfl (QOp.ok (fun X => OpOk.move rfl)) ?_
      refine Sd.quiet 2 _ _ rfl rfl rfl rfl rfl (QOp.ok (fun X => OpOk.idxN rfl ti28 rfl rd.left.left.left.left.left.left.left.left rfl (by omega))) ?_
      refine Sd.quiet 3 _ _ rfl rfl rfl rfl rfl (QOp.ok (fun X => OpOk.fieldAddrA fld28_2 rfl)) ?_
      refine Sd.quiet 4 _ _ rfl rfl rfl rfl rfl (QOp.ok (fun X => OpOk.loadFlGE hoe _ rfl rfl ti25 rfl rd.left.left.left.left.left.left.left.left (fun _ => rfl) (by omega) (by omega) rfl rfl)) ?_
      refine Sd.quiet 5 _ _ rfl rfl rfl rfl rfl (QOp.ok (fun X => OpOk.move rfl)) ?_
      refine Sd.quiet 6 _ _ rfl rfl rfl rfl rfl (QOp.ok (fun X => OpOk.move rfl)) ?_
      refine Sd.quiet 7 _ _ rfl rfl rfl rfl rfl (QOp.ok (fun X => OpOk.idxN rfl ti28 rfl rd.left.left.left.left.left.left.left.left rfl (by omega))) ?_
      refine Sd.quiet 8 _ _ rfl rfl rfl rfl rfl (QOp.ok (fun X => OpOk.fieldAddrA fld28_3 rfl)) ?_
      refine Sd.quiet 9 _ _ rfl rfl rfl rfl rfl (QOp.ok (fun X => OpOk.loadFl1E hoe rfl rfl rfl rd.left.left.left.left.left.left.left.left (fun _ => rfl) rfl (by omega) rfl)) ?_
      refine Sd.quiet 10 _ _ rfl rfl rfl rfl rfl (QOp.call cal16 rfl (fun X => s16 hord.left.left.left.left.left.left.left.left hoal.left.left.left.left.left.left.left.left (by omega))) ?_
      refine Sd.quiet 11 _ _ rfl rfl rfl rfl rfl (QOp.ok (fun X => OpOk.build (cells := #[.int (IntKind.i64) (oa), .int (IntKind.i64) (oc), .int (IntKind.i64) (od), .int (IntKind.i64) (oe), .string ({ data := (flatB ol).toArray })]) rfl (fun w => run_build w 87 _ _ (by rfl)))) ?_
      (refine Sd.exec 12 rfl rfl rfl rfl rfl ?hrest (by rfl) (fun Xy3 Ky3 hKy3 => ?_); case hrest => kernel_rfl)
      refine RunL.mem (fl2 (sep_emp _) (sep_emp _)) ?_
      refine RunL.alloc ti87 rfl (fun by4 => ?_)
      refine Sd.ret hKy3 (Eq.trans rfl (gp2 (sep_emp _).symm rfl)) ⟨_, (emp_sep _).symm⟩ ?_
      (apply Sd.tail; case hall => kernel_rfl)
      refine RunL.mem (fl2 rfl (sep_emp _)) ?_
      refine RunL.storeAll ti87 rfl rfl rfl (ones rfl) rfl rfl ?_
      refine RunL.nil ?_
      refine Run.seq ?_
      (apply Run.drawD [] (by rfl) (Eq.trans (frc (frl rfl) (frc (frl rfl) (frc (frl rfl) rfl))) (asg (asg rfl))); case hchk => kernel_rfl)
      refine Sd.quiet 0 _ _ rfl rfl rfl rfl rfl (QOp.ok (fun X => OpOk.move rfl)) ?_
      refine Sd.quiet 1 _ _ rfl rfl rfl rfl rfl (QOp.ok (fun X => OpOk.move rfl)) ?_
      refine Sd.quiet 2 _ _ rfl rfl rfl rfl rfl (QOp.ok (fun X => OpOk.move rfl)) ?_
      refine Sd.quiet 3 _ _ rfl rfl rfl rfl rfl (QOp.ok (fun X => OpOk.idxN rfl ti28 rfl rd.left.left.left.left.left.left rfl (by omega))) ?_
      refine Sd.quiet 4 _ _ rfl rfl rfl rfl rfl (QOp.ok (fun X => OpOk.fieldAddrA fld28_1 rfl)) ?_
      refine Sd.quiet 5 _ _ rfl rfl rfl rfl rfl (QOp.ok (fun X => OpOk.loadFl1E hoe rfl rfl rfl rd.left.left.left.left.left.left (fun _ => rfl) rfl (by omega) rfl)) ?_
      refine Sd.quiet 6 _ _ rfl rfl rfl rfl rfl (QOp.ok (fun X => OpOk.move rfl)) ?_
      refine Sd.quiet 7 _ _ rfl rfl rfl rfl rfl (QOp.ok (fun X => OpOk.move rfl)) ?_
      refine Sd.quiet 8 _ _ rfl rfl rfl rfl rfl (QOp.ok (fun X => OpOk.idxN rfl ti28 rfl rd.left.left.left.left.left.left rfl (by omega))) ?_
      refine Sd.quiet 9 _ _ rfl rfl rfl rfl rfl (QOp.ok (fun X => OpOk.fieldAddrA fld28_2 rfl)) ?_
      refine Sd.quiet 10 _ _ rfl rfl rfl rfl rfl (QOp.ok (fun X => OpOk.loadFlGE hoe _ rfl rfl ti25 rfl rd.left.left.left.left.left.left (fun _ => rfl) (by omega) (by omega) rfl rfl)) ?_
      refine Sd.quiet 11 _ _ rfl rfl rfl rfl rfl (QOp.ok (fun X => OpOk.move rfl)) ?_
      refine Sd.quiet 12 _ _ rfl rfl rfl rfl rfl (QOp.ok (fun X => OpOk.move rfl)) ?_
      refine Sd.quiet 13 _ _ rfl rfl rfl rfl rfl (QOp.ok (fun X => OpOk.idxN rfl ti28 rfl rd.left.left.left.left.left.left rfl (by omega))) ?_
      refine Sd.quiet 14 _ _ rfl rfl rfl rfl rfl (QOp.ok (fun X => OpOk.fieldAddrA fld28_3 rfl)) ?_
      refine Sd.quiet 15 _ _ rfl rfl rfl rfl rfl (QOp.ok (fun X => OpOk.loadFl1E hoe rfl rfl rfl rd.left.left.left.left.left.left (fun _ => rfl) rfl (by omega) rfl)) ?_
      (refine Sd.exec 16 rfl rfl rfl rfl rfl ?hrest (by rfl) (fun Xy5 Ky5 hKy5 => ?_); case hrest => kernel_rfl)
      refine RunL.mem (fl2 (sep_emp _) (flS (flS rfl))) ?_
      refine RunL.call cal15 rfl (s15 hord.left.left.left.left.left hoal.left.left.left.left.left (by omega) (by omega)) rfl (fun vy9 Ay9 hy9 => ?_)
      obtain ⟨y10, ⟨rfl, rfl⟩⟩ := hy9
      refine Sd.ret hKy5 (Eq.trans rfl (gp2 (sep_emp _).symm (asg (asg (asg rfl))))) ⟨_, (emp_sep _).symm⟩ ?_
      (apply Sd.tail; case hall => kernel_rfl)
      refine RunL.mem (fl2 (flS (flS (flS rfl))) (sep_emp _)) ?_
      refine RunL.nil ?_
      refine Run.seq ?_
      refine Run.seq ?_
      refine Run.region ?_
      refine RunL.ok (OpOk.move rfl) rfl ?_
      refine RunL.call cal39 rfl (s39) rfl (fun vy11 Ay11 hy11 => ?_)
      obtain ⟨rfl, rfl⟩ := hy11
      refine RunL.ok (OpOk.move rfl) rfl ?_
      refine RunL.ok (OpOk.as (c := false) (OpOk.neq rfl rfl) (by rw [decide_eq_true (by omega)]; rfl)) rfl ?_
      refine RunL.nil ?_
      refine Run.condF rfl ?_
      refine Run.skip ?_
      refine Run.seq ?_
      (apply Run.drawD [13] (by rfl) (Eq.trans rfl (asg (asg rfl))); case hchk => kernel_rfl)
      refine Sd.quiet 0 _ _ rfl rfl rfl rfl rfl (QOp.ok (fun X => OpOk.move rfl)) ?_
      refine Sd.quiet 1 _ _ rfl rfl rfl rfl rfl (QOp.ok (fun X => OpOk.move rfl)) ?_
      refine Sd.quiet 2 _ _ rfl rfl rfl rfl rfl (QOp.ok (fun X => OpOk.move rfl)) ?_
      refine Sd.quiet 3 _ _ rfl rfl rfl rfl rfl (QOp.ok (fun X => OpOk.idxN rfl ti28 rfl rd.left.left.left.left.left.left.left rfl (by omega))) ?_
      refine Sd.quiet 4 _ _ rfl rfl rfl rfl rfl (QOp.ok (fun X => OpOk.fieldAddrA fld28_2 rfl)) ?_
      refine Sd.quiet 5 _ _ rfl rfl rfl rfl rfl (QOp.ok (fun X => OpOk.loadFlGE hoe _ rfl rfl ti25 rfl rd.left.left.left.left.left.left.left (fun _ => rfl) (by omega) (by omega) rfl rfl)) ?_
      refine Sd.quiet 6 _ _ rfl rfl rfl rfl rfl (QOp.ok (fun X => OpOk.move rfl)) ?_
      refine Sd.quiet 7 _ _ rfl rfl rfl rfl rfl (QOp.ok (fun X => OpOk.move rfl)) ?_
      refine Sd.quiet 8 _ _ rfl rfl rfl rfl rfl (QOp.ok (fun X => OpOk.idxN rfl ti28 rfl rd.left.left.left.left.left.left.left rfl (by omega))) ?_
      refine Sd.quiet 9 _ _ rfl rfl rfl rfl rfl (QOp.ok (fun X => OpOk.fieldAddrA fld28_3 rfl)) ?_
      refine Sd.quiet 10 _ _ rfl rfl rfl rfl rfl (QOp.ok (fun X => OpOk.loadFl1E hoe rfl rfl rfl rd.left.left.left.left.left.left.left (fun _ => rfl) rfl (by omega) rfl)) ?_
      apply Sd.make 12 (by rfl) (by rfl) (by rfl) (by rfl) (by rfl) (by rfl)
      case h =>
        intro Xy14 Ky14 hKy14
        refine RunL.mem (sep_emp _) ?_
        refine RunL.allocX ti23 rfl (fun vy15 => ?_)
        exact RunL.mem (Eq.trans rfl (gp2 rfl (sep_emp _).symm)) (hKy14 _)
      (refine Sd.exec 11 rfl rfl rfl rfl rfl ?hrest (by rfl) (fun Xy17 Ky17 hKy17 => ?_); case hrest => kernel_rfl)
      refine RunL.mem (fl2 (sep_emp _) (flS (flS rfl))) ?_
      refine RunL.call cal14 rfl (s14 hord.left.left.left.left.left.left hoal.left.left.left.left.left.left (by assumption) (by assumption) (by omega) (by omega)) rfl (fun vy20 Ay20 hy20 => ?_)
      obtain ⟨y21, ⟨y22, ⟨y23, ⟨rfl, rfl⟩⟩⟩⟩ := hy20
      refine RunL.know (fun w s => (s.conv rfl).ownRd0) (fun rdy24 => ?_)
      refine Sd.ret hKy17 (Eq.trans rfl (gp2 (sep_emp _).symm (asg (asg (asg rfl))))) ⟨_, (emp_sep _).symm⟩ ?_
      (refine Sd.take 12 _ ?hrest (fun vy25 hvy25 => ?_); case hrest => kernel_rfl)
      obtain ⟨by25, rfl⟩ := boxOf hvy25
      rw [boxA_eq]
      (apply Sd.tail; case hall => kernel_rfl)
      refine RunL.mem (fl2 (flS (flS (flS (flS rfl)))) (sep_emp _)) ?_
      refine RunL.store ti23 rfl rfl rfl rfl (by exact Nat.le_of_ble_eq_true rfl) (.inl rfl) ?_
      refine RunL.nil ?_
      refine Run.seq ?_
      refine Run.seq ?_
      (apply Run.drawD [] (by rfl) (Eq.trans (frc (frl rfl) (frc (frl rfl) (frc (frl rfl) rfl))) (asg (asg rfl))); case hchk => kernel_rfl)
      refine Sd.quiet 0 _ _ rfl rfl rfl rfl rfl (QOp.ok (fun X => OpOk.load rfl rfl rfl (Blk.out Blk.pts.left.left _ _ (by first | rfl | assumption)))) ?_
      refine Sd.quiet 1 _ _ rfl rfl rfl rfl rfl (QOp.ok (fun X => OpOk.move rfl)) ?_
      refine Sd.quiet 2 _ _ rfl rfl rfl rfl rfl (QOp.ok (fun X => OpOk.addN _ 1 rfl rfl rfl rfl (by omega))) ?_
      refine Sd.quiet 3 _ _ rfl rfl rfl rfl rfl (QOp.ok (fun X => OpOk.asF (OpOk.gtr rfl rfl) (by omega))) ?_
      refine Sd.quiet 4 _ _ rfl rfl rfl rfl rfl (QOp.ok (fun X => OpOk.move rfl)) ?_
      refine Sd.quiet 5 _ _ rfl rfl rfl rfl rfl (QOp.ok (fun X => OpOk.load rfl rfl rfl (Blk.out Blk.pts.left.left _ _ (by first | rfl | assumption)))) ?_
      refine Sd.quiet 6 _ _ rfl rfl rfl rfl rfl (QOp.ok (fun X => OpOk.asF (OpOk.lss rfl rfl) (by omega))) ?_
      refine Sd.quiet 7 _ _ rfl rfl rfl rfl rfl (QOp.ok (fun X => OpOk.pickF rfl rfl)) ?_
      refine Sd.quiet 8 _ _ rfl rfl rfl rfl rfl (QOp.ok (fun X => OpOk.move rfl)) ?_
      refine Sd.quiet 9 _ _ rfl rfl rfl rfl rfl (QOp.ok (fun X => OpOk.load rfl rfl rfl (Blk.out Blk.pts.left.left _ _ (by first | rfl | assumption)))) ?_
      refine Sd.quiet 10 _ _ rfl rfl rfl rfl rfl (QOp.ok (fun X => OpOk.move rfl)) ?_
      refine Sd.quiet 11 _ _ rfl rfl rfl rfl rfl (QOp.ok (fun X => OpOk.addN _ 1 rfl rfl rfl rfl (by omega))) ?_
      refine Sd.quiet 12 _ _ rfl rfl rfl rfl rfl (QOp.ok (fun X => OpOk.eql rfl rfl)) ?_
      refine Sd.splitD (fun y26 => ?_) (fun y26 => ?_)
      · refine Sd.quiet 13 _ _ rfl rfl rfl rfl rfl (QOp.ok (fun X => OpOk.move rfl)) ?_
        refine Sd.quiet 15 _ _ rfl rfl rfl rfl rfl (QOp.ok (fun X => OpOk.move rfl)) ?_
        refine Sd.quiet 16 _ _ rfl rfl rfl rfl rfl (QOp.ok (fun X => OpOk.addN _ 1 rfl rfl rfl rfl (by omega))) ?_
        (refine Sd.exec 14 rfl rfl rfl rfl rfl ?hrest (by rfl) (fun Xy27 Ky27 hKy27 => ?_); case hrest => kernel_rfl)
        refine RunL.mem (fl2 (sep_emp _) (flS (flS rfl))) ?_
        refine RunL.call cal39 rfl (s39) rfl (fun vy28 Ay28 hy28 => ?_)
        obtain ⟨rfl, rfl⟩ := hy28
        refine Sd.ret hKy27 (Eq.trans rfl (gp2 (sep_emp _).symm (asg (asg rfl)))) ⟨_, (emp_sep _).symm⟩ ?_
        refine Sd.quiet 17 _ _ rfl rfl rfl rfl rfl (QOp.ok (fun X => OpOk.asT (OpOk.eql rfl rfl) (by omega))) ?_
        refine Sd.quiet 18 _ _ rfl rfl rfl rfl rfl (QOp.ok (fun X => OpOk.neqB rfl rfl rfl)) ?_
        refine Sd.quiet 19 _ _ rfl rfl rfl rfl rfl (QOp.ok (fun X => OpOk.pickF rfl rfl)) ?_
        (apply Sd.tail; case hall => kernel_rfl)
        refine RunL.mem (fl2 (flS (flS rfl)) (sep_emp _)) ?_
        refine RunL.nil ?_
        refine Run.condF rfl ?_
        refine Run.skip ?_
        refine Run.seq ?_
        refine Run.region ?_
        refine RunL.alloc ti3 rfl (fun by29 => ?_)
        refine RunL.store ti3 rfl rfl rfl rfl (by exact Nat.le_of_ble_eq_true rfl) (.inl rfl) ?_
        refine RunL.nil ?_
        refine Run.seq ?_
        refine Run.seq ?_
        refine Run.region ?_
        refine RunL.ok (OpOk.move rfl) rfl ?_
        refine RunL.mem (frc (frl rfl) (frc (frl rfl) (frc (frl rfl) rfl))) ?_
        refine RunL.call cal38 rfl (s38 (by omega)) rfl (fun vy30 Ay30 hy30 => ?_)
        obtain ⟨y31, ⟨y32, ⟨rfl, rfl⟩⟩⟩ := hy30
        refine RunL.nil ?_
        refine Run.block ?_
        refine Run.range (Z := Asn × Int) (iterM (v := y32) (xs := mintF 0 l2) (b := y31) (by omega)) rfl rfl (fun z => old w0 * z.1 * pts bx1 (.cells #[.bool false] 4 (0, 0)) * pts by4 (.cells (Value.agg #[.int .i64 oa, .int .i64 oc, .int .i64 od, .int .i64 oe, S (flatB ol)]).cells 87 (0, 0)) * pts by25 (.cells #[.int .i64 (t2 : Int)] 23 (0, 0)) * pts by29 (.cells #[.int .i64 z.2] 3 (0, 0)) * pts bx4 (.cells #[y21, y22] 34 (0, 0)) * omap y21 (l2) * own 85 6 y22 (l2).length (Fl encT85 (mintF 0 (l2)))) (fun i z => z.2 = (i : Int)) (fun _ _ => False) (J * y10 * y23, 0) rfl ?_ (fun RR l rc j z J3 hj hz hgo _ _ => ?_) (fun z J3 D hz => ?_) (fun c z J3 D hz => hz.elim)
        · simp only [← sep_assoc]
          exact (frc (frl (frl (frl (frl (frl (frl (frl (frl (frl (frl rfl)))))))))) (frc rfl (frc rfl (frc rfl (frc rfl (frc rfl (frc rfl (frc rfl (frc (frl (frl rfl)) (frc (frl (frl rfl)) rfl))))))))))
        · obtain ⟨J2, k⟩ := z
          simp only at hz hgo ⊢
          subst hz
          have hjl : j < l2.length := by omega
          have hmg := mintF_get l2 0 j hjl
          obtain ⟨mi, hmi⟩ : ∃ mi, (mintF 0 l2).getD j default = mi := ⟨_, rfl⟩
          rw [hmi] at hmg ⊢
          obtain ⟨mt, ⟨ma, mb, mc, md⟩, mdat⟩ := mi
          have h0 : mt = ((0 + j + 1 : Nat) : Int) := congrArg Prod.fst hmg
          have h0x : ((ma, mb, mc, md), mdat) = l2.getD j default := congrArg Prod.snd hmg
          have hEq : mt = (t2 : Int) → ((ma, mb, mc, md), mdat) = ((oa, oc, od, oe), flatB ol) := fun h => by
            rw [h0x, show j = t2 - 1 by omega]; exact hf6
          have hNe : ¬ mt = (t2 : Int) → ((ma, mb, mc, md), mdat) ≠ ((oa, oc, od, oe), flatB ol) := fun h e => h (by
            have := nodup_getD hf1 hjl (show t2 - 1 < l2.length by omega) (by rw [← h0x, e, hf6])
            omega)
          refine Run.region ?_
          refine RunL.alloc ti85 rfl (fun bz1 => ?_)
          refine RunL.storeAll ti85 rfl rfl rfl (ones rfl) rfl rfl ?_
          refine RunL.nil ?_
          refine Run.mem (frc (frl rfl) rfl) ?_
          refine Run.beginRound ?_
          refine Run.block ?_
          refine Run.seq ?_
          refine Run.region ?_
          refine RunL.ok (OpOk.load rfl rfl rfl (Blk.out Blk.pts.left.left.left.left.left.left _ _ (by first | rfl | assumption))) rfl ?_
          refine RunL.ok (OpOk.addN _ 1 rfl rfl rfl rfl (by omega)) rfl ?_
          refine RunL.store ti3 rfl rfl rfl (frl (frl (frl (frl (frl (frl rfl)))))) (by exact Nat.le_of_ble_eq_true rfl) (.inl rfl) ?_
          refine RunL.nil ?_
          refine Run.seq ?_
          refine Run.region ?_
          refine RunL.ok (OpOk.fieldAddr fld85_0 rfl) rfl ?_
          refine RunL.ok (OpOk.load rfl rfl rfl (Blk.out Blk.pts.left.left _ _ (by first | rfl | assumption))) rfl ?_
          refine RunL.ok (OpOk.load rfl rfl rfl (Blk.out Blk.pts.left.left.left.left.left.left.left _ _ (by first | rfl | assumption))) rfl ?_
          refine RunL.ok (OpOk.eql rfl rfl) rfl ?_
          refine RunL.ok (OpOk.move rfl) rfl ?_
          refine RunL.splitD (t := 100) rfl (fun z2 => ?_) (fun z2 => ?_)
          · refine RunL.on rfl rfl ?_
            refine RunL.ok (OpOk.fieldAddr fld85_1 rfl) rfl ?_
            refine RunL.on rfl rfl ?_
            refine RunL.ok (OpOk.loadSub rfl rfl ti25 rfl Blk.pts.left.left rfl rfl) rfl ?_
            refine RunL.on rfl rfl ?_
            refine RunL.ok (OpOk.fieldAddr fld87_0 rfl) rfl ?_
            refine RunL.on rfl rfl ?_
            refine RunL.ok (OpOk.loadSub rfl rfl ti25 rfl Blk.pts.left.left.left.left.left.left.left.left rfl rfl) rfl ?_
            refine RunL.on rfl rfl ?_
            refine RunL.ok (OpOk.neqK4 (p := ((mt, (ma, mb, mc, md), mdat).snd.fst.fst, (mt, (ma, mb, mc, md), mdat).snd.fst.snd.fst, (mt, (ma, mb, mc, md), mdat).snd.fst.snd.snd.fst, (mt, (ma, mb, mc, md), mdat).snd.fst.snd.snd.snd)) (q := (oa, oc, od, oe)) four25 rfl rfl) rfl ?_
            refine RunL.on rfl rfl ?_
            refine RunL.ok (OpOk.move rfl) rfl ?_
            refine RunL.splitN (t := 106) rfl (fun z3 => ?_) (fun z3 => ?_)
            · refine RunL.off rfl rfl rfl rfl ?_
              refine RunL.off rfl rfl rfl rfl ?_
              refine RunL.off rfl rfl rfl rfl ?_
              refine RunL.off rfl rfl rfl rfl ?_
              refine RunL.off rfl rfl rfl rfl ?_
              refine RunL.on rfl rfl ?_
              refine RunL.ok (OpOk.pickT rfl rfl) rfl ?_
              refine RunL.ok (OpOk.pickT rfl rfl) rfl ?_
              refine RunL.ok (OpOk.move rfl) rfl ?_
              refine RunL.off rfl rfl rfl rfl ?_
              refine RunL.off rfl rfl rfl rfl ?_
              refine RunL.off rfl rfl rfl rfl ?_
              refine RunL.off rfl rfl rfl rfl ?_
              refine RunL.off rfl rfl rfl rfl ?_
              refine RunL.off rfl rfl rfl rfl ?_
              refine RunL.off rfl rfl rfl rfl ?_
              refine RunL.off rfl rfl rfl rfl ?_
              refine RunL.off rfl rfl rfl rfl ?_
              refine RunL.off rfl rfl rfl rfl ?_
              refine RunL.off rfl rfl rfl rfl ?_
              refine RunL.off rfl rfl rfl rfl ?_
              refine RunL.off rfl rfl rfl rfl ?_
              refine RunL.off rfl rfl rfl rfl ?_
              refine RunL.off rfl rfl rfl rfl ?_
              refine RunL.off rfl rfl rfl rfl ?_
              refine RunL.off rfl rfl rfl rfl ?_
              refine RunL.off rfl rfl rfl rfl ?_
              refine RunL.ok (OpOk.pickT rfl rfl) rfl ?_
              refine RunL.nil ?_
              refine Run.condT rfl ?_
              refine Run.seq ?_
              refine Run.region ?_
              refine RunL.store ti4 rfl rfl rfl (frl (frl (frl (frl (frl (frl (frl (frl (frl rfl))))))))) (by exact Nat.le_of_ble_eq_true rfl) (.inl rfl) ?_
              refine RunL.nil ?_
              exact absurd (congrArg Prod.fst (hEq z2)) z3
            refine RunL.on rfl rfl ?_
            refine RunL.ok (OpOk.fieldAddr fld85_2 rfl) rfl ?_
            refine RunL.on rfl rfl ?_
            refine RunL.ok (OpOk.load rfl rfl rfl (Blk.out Blk.pts.left.left _ _ (by first | rfl | assumption))) rfl ?_
            refine RunL.on rfl rfl ?_
            refine RunL.ok (OpOk.fieldAddr fld87_1 rfl) rfl ?_
            refine RunL.on rfl rfl ?_
            refine RunL.ok (OpOk.load rfl rfl rfl (Blk.out Blk.pts.left.left.left.left.left.left.left.left _ _ (by first | rfl | assumption))) rfl ?_
            refine RunL.on rfl rfl ?_
            refine RunL.ok (OpOk.neqSS rfl rfl) rfl ?_
            refine RunL.on rfl rfl ?_
            refine RunL.ok (OpOk.pickF rfl rfl) rfl ?_
            refine RunL.ok (OpOk.pickT rfl rfl) rfl ?_
            refine RunL.ok (OpOk.move rfl) rfl ?_
            refine RunL.splitN (t := 114) rfl (fun z4 => ?_) (fun z4 => ?_)
            · refine RunL.off rfl rfl rfl rfl ?_
              refine RunL.off rfl rfl rfl rfl ?_
              refine RunL.off rfl rfl rfl rfl ?_
              refine RunL.off rfl rfl rfl rfl ?_
              refine RunL.off rfl rfl rfl rfl ?_
              refine RunL.off rfl rfl rfl rfl ?_
              refine RunL.off rfl rfl rfl rfl ?_
              refine RunL.off rfl rfl rfl rfl ?_
              refine RunL.off rfl rfl rfl rfl ?_
              refine RunL.off rfl rfl rfl rfl ?_
              refine RunL.off rfl rfl rfl rfl ?_
              refine RunL.off rfl rfl rfl rfl ?_
              refine RunL.off rfl rfl rfl rfl ?_
              refine RunL.off rfl rfl rfl rfl ?_
              refine RunL.off rfl rfl rfl rfl ?_
              refine RunL.off rfl rfl rfl rfl ?_
              refine RunL.off rfl rfl rfl rfl ?_
              refine RunL.off rfl rfl rfl rfl ?_
              refine RunL.ok (OpOk.pickT rfl rfl) rfl ?_
              refine RunL.nil ?_
              refine Run.condT rfl ?_
              refine Run.seq ?_
              refine Run.region ?_
              refine RunL.store ti4 rfl rfl rfl (frl (frl (frl (frl (frl (frl (frl (frl (frl rfl))))))))) (by exact Nat.le_of_ble_eq_true rfl) (.inl rfl) ?_
              refine RunL.nil ?_
              exact absurd (congrArg Prod.snd (hEq z2)) z4
            refine RunL.on rfl rfl ?_
            refine RunL.ok (OpOk.fieldAddr fld85_0 rfl) rfl ?_
            refine RunL.on rfl rfl ?_
            refine RunL.ok (OpOk.load rfl rfl rfl (Blk.out Blk.pts.left.left _ _ (by first | rfl | assumption))) rfl ?_
            refine RunL.on rfl rfl ?_
            refine RunL.ok (OpOk.load rfl rfl rfl (Blk.out Blk.pts.left.left.left.left.left.left.left _ _ (by first | rfl | assumption))) rfl ?_
            refine RunL.on rfl rfl ?_
            refine RunL.ok (OpOk.as (c := false) (OpOk.neq rfl rfl) (by rw [decide_eq_true (by omega)]; rfl)) rfl ?_
            refine RunL.on rfl rfl ?_
            refine RunL.ok (OpOk.move rfl) rfl ?_
            refine RunL.off rfl rfl rfl rfl ?_
            refine RunL.off rfl rfl rfl rfl ?_
            refine RunL.off rfl rfl rfl rfl ?_
            refine RunL.off rfl rfl rfl rfl ?_
            refine RunL.off rfl rfl rfl rfl ?_
            refine RunL.on rfl rfl ?_
            refine RunL.ok (OpOk.pickF rfl rfl) rfl ?_
            refine RunL.on rfl rfl ?_
            refine RunL.ok (OpOk.move rfl) rfl ?_
            refine RunL.off rfl rfl rfl rfl ?_
            refine RunL.off rfl rfl rfl rfl ?_
            refine RunL.off rfl rfl rfl rfl ?_
            refine RunL.off rfl rfl rfl rfl ?_
            refine RunL.off rfl rfl rfl rfl ?_
            refine RunL.on rfl rfl ?_
            refine RunL.ok (OpOk.pickF rfl rfl) rfl ?_
            refine RunL.ok (OpOk.pickF rfl rfl) rfl ?_
            refine RunL.nil ?_
            refine Run.condF rfl ?_
            refine Run.skip ?_
            refine Run.inBlock ?_
            refine Run.jump ((hgo (_, (j : Int) + 1) (by dsimp only; omega) [])) trivial (Grew.of (Eq.trans (frc (frl rfl) (frc (frl (frl rfl)) (frc (frl (frl rfl)) (frc (frl (frl rfl)) (frc (frl (frl rfl)) (frc rfl (frc (frl rfl) (frc (frl rfl) (frc (frl rfl) rfl))))))))) (congrArg (· * _) (congrArg (· * _) (congrArg (· * _) (congrArg (· * _) (congrArg (· * _) (congrArg (· * _) (congrArg (· * _) (congrArg (· * _) (congrArg (· * _) (asg as1))))))))))) (Grew.refl _))
          refine RunL.off rfl rfl rfl rfl ?_
          refine RunL.off rfl rfl rfl rfl ?_
          refine RunL.off rfl rfl rfl rfl ?_
          refine RunL.off rfl rfl rfl rfl ?_
          refine RunL.off rfl rfl rfl rfl ?_
          refine RunL.off rfl rfl rfl rfl ?_
          refine RunL.off rfl rfl rfl rfl ?_
          refine RunL.off rfl rfl rfl rfl ?_
          refine RunL.off rfl rfl rfl rfl ?_
          refine RunL.off rfl rfl rfl rfl ?_
          refine RunL.off rfl rfl rfl rfl ?_
          refine RunL.off rfl rfl rfl rfl ?_
          refine RunL.ok (OpOk.pickF rfl rfl) rfl ?_
          refine RunL.ok (OpOk.move rfl) rfl ?_
          refine RunL.on rfl rfl ?_
          refine RunL.ok (OpOk.fieldAddr fld85_0 rfl) rfl ?_
          refine RunL.on rfl rfl ?_
          refine RunL.ok (OpOk.load rfl rfl rfl (Blk.out Blk.pts.left.left _ _ (by first | rfl | assumption))) rfl ?_
          refine RunL.on rfl rfl ?_
          refine RunL.ok (OpOk.load rfl rfl rfl (Blk.out Blk.pts.left.left.left.left.left.left.left _ _ (by first | rfl | assumption))) rfl ?_
          refine RunL.on rfl rfl ?_
          refine RunL.ok (OpOk.as (c := true) (OpOk.neq rfl rfl) (by rw [decide_eq_false (by omega)]; rfl)) rfl ?_
          refine RunL.on rfl rfl ?_
          refine RunL.ok (OpOk.move rfl) rfl ?_
          refine RunL.on rfl rfl ?_
          refine RunL.ok (OpOk.fieldAddr fld85_1 rfl) rfl ?_
          refine RunL.on rfl rfl ?_
          refine RunL.ok (OpOk.loadSub rfl rfl ti25 rfl Blk.pts.left.left rfl rfl) rfl ?_
          refine RunL.on rfl rfl ?_
          refine RunL.ok (OpOk.fieldAddr fld87_0 rfl) rfl ?_
          refine RunL.on rfl rfl ?_
          refine RunL.ok (OpOk.loadSub rfl rfl ti25 rfl Blk.pts.left.left.left.left.left.left.left.left rfl rfl) rfl ?_
          refine RunL.on rfl rfl ?_
          refine RunL.ok (OpOk.eqlK4 (p := ((mt, (ma, mb, mc, md), mdat).snd.fst.fst, (mt, (ma, mb, mc, md), mdat).snd.fst.snd.fst, (mt, (ma, mb, mc, md), mdat).snd.fst.snd.snd.fst, (mt, (ma, mb, mc, md), mdat).snd.fst.snd.snd.snd)) (q := (oa, oc, od, oe)) four25 rfl rfl) rfl ?_
          refine RunL.on rfl rfl ?_
          refine RunL.ok (OpOk.pickT rfl rfl) rfl ?_
          refine RunL.on rfl rfl ?_
          refine RunL.ok (OpOk.move rfl) rfl ?_
          refine RunL.splitD (t := 126) rfl (fun z5 => ?_) (fun z5 => ?_)
          · refine RunL.on rfl rfl ?_
            refine RunL.ok (OpOk.fieldAddr fld85_2 rfl) rfl ?_
            refine RunL.on rfl rfl ?_
            refine RunL.ok (OpOk.load rfl rfl rfl (Blk.out Blk.pts.left.left _ _ (by first | rfl | assumption))) rfl ?_
            refine RunL.on rfl rfl ?_
            refine RunL.ok (OpOk.fieldAddr fld87_1 rfl) rfl ?_
            refine RunL.on rfl rfl ?_
            refine RunL.ok (OpOk.load rfl rfl rfl (Blk.out Blk.pts.left.left.left.left.left.left.left.left _ _ (by first | rfl | assumption))) rfl ?_
            refine RunL.on rfl rfl ?_
            refine RunL.ok (OpOk.eqlSS rfl rfl) rfl ?_
            refine RunL.on rfl rfl ?_
            refine RunL.ok (OpOk.pickT rfl rfl) rfl ?_
            refine RunL.ok (OpOk.pickF rfl rfl) rfl ?_
            refine RunL.nil ?_
            refine Run.condD rfl (fun z6 => ?_) (fun z6 => ?_)
            · refine Run.seq ?_
              refine Run.region ?_
              refine RunL.store ti4 rfl rfl rfl (frl (frl (frl (frl (frl (frl (frl (frl (frl rfl))))))))) (by exact Nat.le_of_ble_eq_true rfl) (.inl rfl) ?_
              refine RunL.nil ?_
              exact absurd (Prod.ext (by assumption) (by assumption)) (hNe (by assumption))
            refine Run.skip ?_
            refine Run.inBlock ?_
            refine Run.jump ((hgo (_, (j : Int) + 1) (by dsimp only; omega) [])) trivial (Grew.of (Eq.trans (frc (frl rfl) (frc (frl (frl rfl)) (frc (frl (frl rfl)) (frc (frl (frl rfl)) (frc (frl (frl rfl)) (frc rfl (frc (frl rfl) (frc (frl rfl) (frc (frl rfl) rfl))))))))) (congrArg (· * _) (congrArg (· * _) (congrArg (· * _) (congrArg (· * _) (congrArg (· * _) (congrArg (· * _) (congrArg (· * _) (congrArg (· * _) (congrArg (· * _) (asg as1))))))))))) (Grew.refl _))
          refine RunL.off rfl rfl rfl rfl ?_
          refine RunL.off rfl rfl rfl rfl ?_
          refine RunL.off rfl rfl rfl rfl ?_
          refine RunL.off rfl rfl rfl rfl ?_
          refine RunL.off rfl rfl rfl rfl ?_
          refine RunL.on rfl rfl ?_
          refine RunL.ok (OpOk.pickF rfl rfl) rfl ?_
          refine RunL.ok (OpOk.pickF rfl rfl) rfl ?_
          refine RunL.nil ?_
          refine Run.condF rfl ?_
          refine Run.skip ?_
          refine Run.inBlock ?_
          refine Run.jump ((hgo (_, (j : Int) + 1) (by dsimp only; omega) [])) trivial (Grew.of (Eq.trans (frc (frl rfl) (frc (frl (frl rfl)) (frc (frl (frl rfl)) (frc (frl (frl rfl)) (frc (frl (frl rfl)) (frc rfl (frc (frl rfl) (frc (frl rfl) (frc (frl rfl) rfl))))))))) (congrArg (· * _) (congrArg (· * _) (congrArg (· * _) (congrArg (· * _) (congrArg (· * _) (congrArg (· * _) (congrArg (· * _) (congrArg (· * _) (congrArg (· * _) (asg as1))))))))))) (Grew.refl _))
        · obtain ⟨J2, k⟩ := z
          simp only at hz ⊢
          rw [hml] at hz
          subst hz
          refine Run.inBlock ?_
          refine Run.seq ?_
          (apply Run.drawD [] (by rfl) (Eq.trans (frc (frl (frl rfl)) (frc (frl (frl rfl)) (frc (frl (frl rfl)) rfl))) (asg (asg rfl))); case hchk => kernel_rfl)
          refine Sd.quiet 0 _ _ rfl rfl rfl rfl rfl (QOp.ok (fun X => OpOk.load rfl rfl rfl (Blk.out Blk.pts.left.left.left.left _ _ (by first | rfl | assumption)))) ?_
          refine Sd.quiet 1 _ _ rfl rfl rfl rfl rfl (QOp.ok (fun X => OpOk.move rfl)) ?_
          (refine Sd.exec 2 rfl rfl rfl rfl rfl ?hrest (by rfl) (fun Xz1 Kz1 hKz1 => ?_); case hrest => kernel_rfl)
          refine RunL.mem (fl2 (sep_emp _) (flS (flS rfl))) ?_
          refine RunL.call cal39 rfl (s39) rfl (fun vz2 Az2 hz2 => ?_)
          obtain ⟨rfl, rfl⟩ := hz2
          refine Sd.ret hKz1 (Eq.trans rfl (gp2 (sep_emp _).symm (asg (asg rfl)))) ⟨_, (emp_sep _).symm⟩ ?_
          refine Sd.quiet 3 _ _ rfl rfl rfl rfl rfl (QOp.ok (fun X => OpOk.as (c := false) (OpOk.neq rfl rfl) (by rw [decide_eq_true (by omega)]; rfl))) ?_
          (apply Sd.tail; case hall => kernel_rfl)
          refine RunL.mem (fl2 (flS (flS rfl)) (sep_emp _)) ?_
          refine RunL.nil ?_
          refine Run.condF rfl ?_
          refine Run.skip ?_
          refine Run.inBlock ?_
          refine Run.region ?_
          refine RunL.ok (OpOk.move rfl) rfl ?_
          refine RunL.ok (OpOk.addN _ 1 rfl rfl rfl rfl (by omega)) rfl ?_
          refine RunL.ok (OpOk.assign rfl) rfl ?_
          refine RunL.nil ?_
          refine Run.jump ((ih (i + 1, D :: ds, _, y21, y22, l2) ⟨by dsimp only; omega, by dsimp only; omega, by dsimp only; omega, hf1⟩ (by dsimp only; omega))) ⟨rfl, rfl, rfl, rfl, trivial⟩ (Grew.of (Eq.trans (frc (frl (frl (frl rfl))) (frc rfl (frc rfl (frc rfl (frc (frl (frl (frl (frl rfl)))) rfl))))) (congrArg (· * _) (congrArg (· * _) (congrArg (· * _) (congrArg (· * _) (congrArg (· * _) (asg (asg (asg (asg as1)))))))))) (Grew.refl _))
      refine Sd.quiet 13 _ _ rfl rfl rfl rfl rfl (QOp.ok (fun X => OpOk.move rfl)) ?_
      refine Sd.quiet 15 _ _ rfl rfl rfl rfl rfl (QOp.ok (fun X => OpOk.move rfl)) ?_
      refine Sd.quiet 16 _ _ rfl rfl rfl rfl rfl (QOp.ok (fun X => OpOk.addN _ 1 rfl rfl rfl rfl (by omega))) ?_
      (refine Sd.exec 14 rfl rfl rfl rfl rfl ?hrest (by rfl) (fun Xy33 Ky33 hKy33 => ?_); case hrest => kernel_rfl)
      refine RunL.mem (fl2 (sep_emp _) (flS (flS rfl))) ?_
      refine RunL.call cal39 rfl (s39) rfl (fun vy34 Ay34 hy34 => ?_)
      obtain ⟨rfl, rfl⟩ := hy34
      refine Sd.ret hKy33 (Eq.trans rfl (gp2 (sep_emp _).symm (asg (asg rfl)))) ⟨_, (emp_sep _).symm⟩ ?_
      refine Sd.quiet 17 _ _ rfl rfl rfl rfl rfl (QOp.ok (fun X => OpOk.asF (OpOk.eql rfl rfl) (by omega))) ?_
      refine Sd.quiet 18 _ _ rfl rfl rfl rfl rfl (QOp.ok (fun X => OpOk.neqB rfl rfl rfl)) ?_
      refine Sd.quiet 19 _ _ rfl rfl rfl rfl rfl (QOp.ok (fun X => OpOk.pickF rfl rfl)) ?_
      (apply Sd.tail; case hall => kernel_rfl)
      refine RunL.mem (fl2 (flS (flS rfl)) (sep_emp _)) ?_
      refine RunL.nil ?_
      refine Run.condF rfl ?_
      refine Run.skip ?_
      refine Run.seq ?_
      refine Run.region ?_
      refine RunL.alloc ti3 rfl (fun by35 => ?_)
      refine RunL.store ti3 rfl rfl rfl rfl (by exact Nat.le_of_ble_eq_true rfl) (.inl rfl) ?_
      refine RunL.nil ?_
      refine Run.seq ?_
      refine Run.seq ?_
      refine Run.region ?_
      refine RunL.ok (OpOk.move rfl) rfl ?_
      refine RunL.mem (frc (frl rfl) (frc (frl rfl) (frc (frl rfl) rfl))) ?_
      refine RunL.call cal38 rfl (s38 (by omega)) rfl (fun vy36 Ay36 hy36 => ?_)
      obtain ⟨y37, ⟨y38, ⟨rfl, rfl⟩⟩⟩ := hy36
      refine RunL.nil ?_
      refine Run.block ?_
      refine Run.range (Z := Asn × Int) (iterM (v := y38) (xs := mintF 0 l2) (b := y37) (by omega)) rfl rfl (fun z => old w0 * z.1 * pts bx1 (.cells #[.bool false] 4 (0, 0)) * pts by4 (.cells (Value.agg #[.int .i64 oa, .int .i64 oc, .int .i64 od, .int .i64 oe, S (flatB ol)]).cells 87 (0, 0)) * pts by25 (.cells #[.int .i64 (t2 : Int)] 23 (0, 0)) * pts by35 (.cells #[.int .i64 z.2] 3 (0, 0)) * pts bx4 (.cells #[y21, y22] 34 (0, 0)) * omap y21 (l2) * own 85 6 y22 (l2).length (Fl encT85 (mintF 0 (l2)))) (fun i z => z.2 = (i : Int)) (fun _ _ => False) (J * y10 * y23, 0) rfl ?_ (fun RR l rc j z J3 hj hz hgo _ _ => ?_) (fun z J3 D hz => ?_) (fun c z J3 D hz => hz.elim)
      · simp only [← sep_assoc]
        exact (frc (frl (frl (frl (frl (frl (frl (frl (frl (frl (frl rfl)))))))))) (frc rfl (frc rfl (frc rfl (frc rfl (frc rfl (frc rfl (frc rfl (frc (frl (frl rfl)) (frc (frl (frl rfl)) rfl))))))))))
      · obtain ⟨J2, k⟩ := z
        simp only at hz hgo ⊢
        subst hz
        have hjl : j < l2.length := by omega
        have hmg := mintF_get l2 0 j hjl
        obtain ⟨mi, hmi⟩ : ∃ mi, (mintF 0 l2).getD j default = mi := ⟨_, rfl⟩
        rw [hmi] at hmg ⊢
        obtain ⟨mt, ⟨ma, mb, mc, md⟩, mdat⟩ := mi
        have h0 : mt = ((0 + j + 1 : Nat) : Int) := congrArg Prod.fst hmg
        have h0x : ((ma, mb, mc, md), mdat) = l2.getD j default := congrArg Prod.snd hmg
        have hEq : mt = (t2 : Int) → ((ma, mb, mc, md), mdat) = ((oa, oc, od, oe), flatB ol) := fun h => by
          rw [h0x, show j = t2 - 1 by omega]; exact hf6
        have hNe : ¬ mt = (t2 : Int) → ((ma, mb, mc, md), mdat) ≠ ((oa, oc, od, oe), flatB ol) := fun h e => h (by
          have := nodup_getD hf1 hjl (show t2 - 1 < l2.length by omega) (by rw [← h0x, e, hf6])
          omega)
        refine Run.region ?_
        refine RunL.alloc ti85 rfl (fun bz1 => ?_)
        refine RunL.storeAll ti85 rfl rfl rfl (ones rfl) rfl rfl ?_
        refine RunL.nil ?_
        refine Run.mem (frc (frl rfl) rfl) ?_
        refine Run.beginRound ?_
        refine Run.block ?_
        refine Run.seq ?_
        refine Run.region ?_
        refine RunL.ok (OpOk.load rfl rfl rfl (Blk.out Blk.pts.left.left.left.left.left.left _ _ (by first | rfl | assumption))) rfl ?_
        refine RunL.ok (OpOk.addN _ 1 rfl rfl rfl rfl (by omega)) rfl ?_
        refine RunL.store ti3 rfl rfl rfl (frl (frl (frl (frl (frl (frl rfl)))))) (by exact Nat.le_of_ble_eq_true rfl) (.inl rfl) ?_
        refine RunL.nil ?_
        refine Run.seq ?_
        refine Run.region ?_
        refine RunL.ok (OpOk.fieldAddr fld85_0 rfl) rfl ?_
        refine RunL.ok (OpOk.load rfl rfl rfl (Blk.out Blk.pts.left.left _ _ (by first | rfl | assumption))) rfl ?_
        refine RunL.ok (OpOk.load rfl rfl rfl (Blk.out Blk.pts.left.left.left.left.left.left.left _ _ (by first | rfl | assumption))) rfl ?_
        refine RunL.ok (OpOk.eql rfl rfl) rfl ?_
        refine RunL.ok (OpOk.move rfl) rfl ?_
        refine RunL.splitD (t := 100) rfl (fun z2 => ?_) (fun z2 => ?_)
        · refine RunL.on rfl rfl ?_
          refine RunL.ok (OpOk.fieldAddr fld85_1 rfl) rfl ?_
          refine RunL.on rfl rfl ?_
          refine RunL.ok (OpOk.loadSub rfl rfl ti25 rfl Blk.pts.left.left rfl rfl) rfl ?_
          refine RunL.on rfl rfl ?_
          refine RunL.ok (OpOk.fieldAddr fld87_0 rfl) rfl ?_
          refine RunL.on rfl rfl ?_
          refine RunL.ok (OpOk.loadSub rfl rfl ti25 rfl Blk.pts.left.left.left.left.left.left.left.left rfl rfl) rfl ?_
          refine RunL.on rfl rfl ?_
          refine RunL.ok (OpOk.neqK4 (p := ((mt, (ma, mb, mc, md), mdat).snd.fst.fst, (mt, (ma, mb, mc, md), mdat).snd.fst.snd.fst, (mt, (ma, mb, mc, md), mdat).snd.fst.snd.snd.fst, (mt, (ma, mb, mc, md), mdat).snd.fst.snd.snd.snd)) (q := (oa, oc, od, oe)) four25 rfl rfl) rfl ?_
          refine RunL.on rfl rfl ?_
          refine RunL.ok (OpOk.move rfl) rfl ?_
          refine RunL.splitN (t := 106) rfl (fun z3 => ?_) (fun z3 => ?_)
          · refine RunL.off rfl rfl rfl rfl ?_
            refine RunL.off rfl rfl rfl rfl ?_
            refine RunL.off rfl rfl rfl rfl ?_
            refine RunL.off rfl rfl rfl rfl ?_
            refine RunL.off rfl rfl rfl rfl ?_
            refine RunL.on rfl rfl ?_
            refine RunL.ok (OpOk.pickT rfl rfl) rfl ?_
            refine RunL.ok (OpOk.pickT rfl rfl) rfl ?_
            refine RunL.ok (OpOk.move rfl) rfl ?_
            refine RunL.off rfl rfl rfl rfl ?_
            refine RunL.off rfl rfl rfl rfl ?_
            refine RunL.off rfl rfl rfl rfl ?_
            refine RunL.off rfl rfl rfl rfl ?_
            refine RunL.off rfl rfl rfl rfl ?_
            refine RunL.off rfl rfl rfl rfl ?_
            refine RunL.off rfl rfl rfl rfl ?_
            refine RunL.off rfl rfl rfl rfl ?_
            refine RunL.off rfl rfl rfl rfl ?_
            refine RunL.off rfl rfl rfl rfl ?_
            refine RunL.off rfl rfl rfl rfl ?_
            refine RunL.off rfl rfl rfl rfl ?_
            refine RunL.off rfl rfl rfl rfl ?_
            refine RunL.off rfl rfl rfl rfl ?_
            refine RunL.off rfl rfl rfl rfl ?_
            refine RunL.off rfl rfl rfl rfl ?_
            refine RunL.off rfl rfl rfl rfl ?_
            refine RunL.off rfl rfl rfl rfl ?_
            refine RunL.ok (OpOk.pickT rfl rfl) rfl ?_
            refine RunL.nil ?_
            refine Run.condT rfl ?_
            refine Run.seq ?_
            refine Run.region ?_
            refine RunL.store ti4 rfl rfl rfl (frl (frl (frl (frl (frl (frl (frl (frl (frl rfl))))))))) (by exact Nat.le_of_ble_eq_true rfl) (.inl rfl) ?_
            refine RunL.nil ?_
            exact absurd (congrArg Prod.fst (hEq z2)) z3
          refine RunL.on rfl rfl ?_
          refine RunL.ok (OpOk.fieldAddr fld85_2 rfl) rfl ?_
          refine RunL.on rfl rfl ?_
          refine RunL.ok (OpOk.load rfl rfl rfl (Blk.out Blk.pts.left.left _ _ (by first | rfl | assumption))) rfl ?_
          refine RunL.on rfl rfl ?_
          refine RunL.ok (OpOk.fieldAddr fld87_1 rfl) rfl ?_
          refine RunL.on rfl rfl ?_
          refine RunL.ok (OpOk.load rfl rfl rfl (Blk.out Blk.pts.left.left.left.left.left.left.left.left _ _ (by first | rfl | assumption))) rfl ?_
          refine RunL.on rfl rfl ?_
          refine RunL.ok (OpOk.neqSS rfl rfl) rfl ?_
          refine RunL.on rfl rfl ?_
          refine RunL.ok (OpOk.pickF rfl rfl) rfl ?_
          refine RunL.ok (OpOk.pickT rfl rfl) rfl ?_
          refine RunL.ok (OpOk.move rfl) rfl ?_
          refine RunL.splitN (t := 114) rfl (fun z4 => ?_) (fun z4 => ?_)
          · refine RunL.off rfl rfl rfl rfl ?_
            refine RunL.off rfl rfl rfl rfl ?_
            refine RunL.off rfl rfl rfl rfl ?_
            refine RunL.off rfl rfl rfl rfl ?_
            refine RunL.off rfl rfl rfl rfl ?_
            refine RunL.off rfl rfl rfl rfl ?_
            refine RunL.off rfl rfl rfl rfl ?_
            refine RunL.off rfl rfl rfl rfl ?_
            refine RunL.off rfl rfl rfl rfl ?_
            refine RunL.off rfl rfl rfl rfl ?_
            refine RunL.off rfl rfl rfl rfl ?_
            refine RunL.off rfl rfl rfl rfl ?_
            refine RunL.off rfl rfl rfl rfl ?_
            refine RunL.off rfl rfl rfl rfl ?_
            refine RunL.off rfl rfl rfl rfl ?_
            refine RunL.off rfl rfl rfl rfl ?_
            refine RunL.off rfl rfl rfl rfl ?_
            refine RunL.off rfl rfl rfl rfl ?_
            refine RunL.ok (OpOk.pickT rfl rfl) rfl ?_
            refine RunL.nil ?_
            refine Run.condT rfl ?_
            refine Run.seq ?_
            refine Run.region ?_
            refine RunL.store ti4 rfl rfl rfl (frl (frl (frl (frl (frl (frl (frl (frl (frl rfl))))))))) (by exact Nat.le_of_ble_eq_true rfl) (.inl rfl) ?_
            refine RunL.nil ?_
            exact absurd (congrArg Prod.snd (hEq z2)) z4
          refine RunL.on rfl rfl ?_
          refine RunL.ok (OpOk.fieldAddr fld85_0 rfl) rfl ?_
          refine RunL.on rfl rfl ?_
          refine RunL.ok (OpOk.load rfl rfl rfl (Blk.out Blk.pts.left.left _ _ (by first | rfl | assumption))) rfl ?_
          refine RunL.on rfl rfl ?_
          refine RunL.ok (OpOk.load rfl rfl rfl (Blk.out Blk.pts.left.left.left.left.left.left.left _ _ (by first | rfl | assumption))) rfl ?_
          refine RunL.on rfl rfl ?_
          refine RunL.ok (OpOk.as (c := false) (OpOk.neq rfl rfl) (by rw [decide_eq_true (by omega)]; rfl)) rfl ?_
          refine RunL.on rfl rfl ?_
          refine RunL.ok (OpOk.move rfl) rfl ?_
          refine RunL.off rfl rfl rfl rfl ?_
          refine RunL.off rfl rfl rfl rfl ?_
          refine RunL.off rfl rfl rfl rfl ?_
          refine RunL.off rfl rfl rfl rfl ?_
          refine RunL.off rfl rfl rfl rfl ?_
          refine RunL.on rfl rfl ?_
          refine RunL.ok (OpOk.pickF rfl rfl) rfl ?_
          refine RunL.on rfl rfl ?_
          refine RunL.ok (OpOk.move rfl) rfl ?_
          refine RunL.off rfl rfl rfl rfl ?_
          refine RunL.off rfl rfl rfl rfl ?_
          refine RunL.off rfl rfl rfl rfl ?_
          refine RunL.off rfl rfl rfl rfl ?_
          refine RunL.off rfl rfl rfl rfl ?_
          refine RunL.on rfl rfl ?_
          refine RunL.ok (OpOk.pickF rfl rfl) rfl ?_
          refine RunL.ok (OpOk.pickF rfl rfl) rfl ?_
          refine RunL.nil ?_
          refine Run.condF rfl ?_
          refine Run.skip ?_
          refine Run.inBlock ?_
          refine Run.jump ((hgo (_, (j : Int) + 1) (by dsimp only; omega) [])) trivial (Grew.of (Eq.trans (frc (frl rfl) (frc (frl (frl rfl)) (frc (frl (frl rfl)) (frc (frl (frl rfl)) (frc (frl (frl rfl)) (frc rfl (frc (frl rfl) (frc (frl rfl) (frc (frl rfl) rfl))))))))) (congrArg (· * _) (congrArg (· * _) (congrArg (· * _) (congrArg (· * _) (congrArg (· * _) (congrArg (· * _) (congrArg (· * _) (congrArg (· * _) (congrArg (· * _) (asg as1))))))))))) (Grew.refl _))
        refine RunL.off rfl rfl rfl rfl ?_
        refine RunL.off rfl rfl rfl rfl ?_
        refine RunL.off rfl rfl rfl rfl ?_
        refine RunL.off rfl rfl rfl rfl ?_
        refine RunL.off rfl rfl rfl rfl ?_
        refine RunL.off rfl rfl rfl rfl ?_
        refine RunL.off rfl rfl rfl rfl ?_
        refine RunL.off rfl rfl rfl rfl ?_
        refine RunL.off rfl rfl rfl rfl ?_
        refine RunL.off rfl rfl rfl rfl ?_
        refine RunL.off rfl rfl rfl rfl ?_
        refine RunL.off rfl rfl rfl rfl ?_
        refine RunL.ok (OpOk.pickF rfl rfl) rfl ?_
        refine RunL.ok (OpOk.move rfl) rfl ?_
        refine RunL.on rfl rfl ?_
        refine RunL.ok (OpOk.fieldAddr fld85_0 rfl) rfl ?_
        refine RunL.on rfl rfl ?_
        refine RunL.ok (OpOk.load rfl rfl rfl (Blk.out Blk.pts.left.left _ _ (by first | rfl | assumption))) rfl ?_
        refine RunL.on rfl rfl ?_
        refine RunL.ok (OpOk.load rfl rfl rfl (Blk.out Blk.pts.left.left.left.left.left.left.left _ _ (by first | rfl | assumption))) rfl ?_
        refine RunL.on rfl rfl ?_
        refine RunL.ok (OpOk.as (c := true) (OpOk.neq rfl rfl) (by rw [decide_eq_false (by omega)]; rfl)) rfl ?_
        refine RunL.on rfl rfl ?_
        refine RunL.ok (OpOk.move rfl) rfl ?_
        refine RunL.on rfl rfl ?_
        refine RunL.ok (OpOk.fieldAddr fld85_1 rfl) rfl ?_
        refine RunL.on rfl rfl ?_
        refine RunL.ok (OpOk.loadSub rfl rfl ti25 rfl Blk.pts.left.left rfl rfl) rfl ?_
        refine RunL.on rfl rfl ?_
        refine RunL.ok (OpOk.fieldAddr fld87_0 rfl) rfl ?_
        refine RunL.on rfl rfl ?_
        refine RunL.ok (OpOk.loadSub rfl rfl ti25 rfl Blk.pts.left.left.left.left.left.left.left.left rfl rfl) rfl ?_
        refine RunL.on rfl rfl ?_
        refine RunL.ok (OpOk.eqlK4 (p := ((mt, (ma, mb, mc, md), mdat).snd.fst.fst, (mt, (ma, mb, mc, md), mdat).snd.fst.snd.fst, (mt, (ma, mb, mc, md), mdat).snd.fst.snd.snd.fst, (mt, (ma, mb, mc, md), mdat).snd.fst.snd.snd.snd)) (q := (oa, oc, od, oe)) four25 rfl rfl) rfl ?_
        refine RunL.on rfl rfl ?_
        refine RunL.ok (OpOk.pickT rfl rfl) rfl ?_
        refine RunL.on rfl rfl ?_
        refine RunL.ok (OpOk.move rfl) rfl ?_
        refine RunL.splitD (t := 126) rfl (fun z5 => ?_) (fun z5 => ?_)
        · refine RunL.on rfl rfl ?_
          refine RunL.ok (OpOk.fieldAddr fld85_2 rfl) rfl ?_
          refine RunL.on rfl rfl ?_
          refine RunL.ok (OpOk.load rfl rfl rfl (Blk.out Blk.pts.left.left _ _ (by first | rfl | assumption))) rfl ?_
          refine RunL.on rfl rfl ?_
          refine RunL.ok (OpOk.fieldAddr fld87_1 rfl) rfl ?_
          refine RunL.on rfl rfl ?_
          refine RunL.ok (OpOk.load rfl rfl rfl (Blk.out Blk.pts.left.left.left.left.left.left.left.left _ _ (by first | rfl | assumption))) rfl ?_
          refine RunL.on rfl rfl ?_
          refine RunL.ok (OpOk.eqlSS rfl rfl) rfl ?_
          refine RunL.on rfl rfl ?_
          refine RunL.ok (OpOk.pickT rfl rfl) rfl ?_
          refine RunL.ok (OpOk.pickF rfl rfl) rfl ?_
          refine RunL.nil ?_
          refine Run.condD rfl (fun z6 => ?_) (fun z6 => ?_)
          · refine Run.seq ?_
            refine Run.region ?_
            refine RunL.store ti4 rfl rfl rfl (frl (frl (frl (frl (frl (frl (frl (frl (frl rfl))))))))) (by exact Nat.le_of_ble_eq_true rfl) (.inl rfl) ?_
            refine RunL.nil ?_
            exact absurd (Prod.ext (by assumption) (by assumption)) (hNe (by assumption))
          refine Run.skip ?_
          refine Run.inBlock ?_
          refine Run.jump ((hgo (_, (j : Int) + 1) (by dsimp only; omega) [])) trivial (Grew.of (Eq.trans (frc (frl rfl) (frc (frl (frl rfl)) (frc (frl (frl rfl)) (frc (frl (frl rfl)) (frc (frl (frl rfl)) (frc rfl (frc (frl rfl) (frc (frl rfl) (frc (frl rfl) rfl))))))))) (congrArg (· * _) (congrArg (· * _) (congrArg (· * _) (congrArg (· * _) (congrArg (· * _) (congrArg (· * _) (congrArg (· * _) (congrArg (· * _) (congrArg (· * _) (asg as1))))))))))) (Grew.refl _))
        refine RunL.off rfl rfl rfl rfl ?_
        refine RunL.off rfl rfl rfl rfl ?_
        refine RunL.off rfl rfl rfl rfl ?_
        refine RunL.off rfl rfl rfl rfl ?_
        refine RunL.off rfl rfl rfl rfl ?_
        refine RunL.on rfl rfl ?_
        refine RunL.ok (OpOk.pickF rfl rfl) rfl ?_
        refine RunL.ok (OpOk.pickF rfl rfl) rfl ?_
        refine RunL.nil ?_
        refine Run.condF rfl ?_
        refine Run.skip ?_
        refine Run.inBlock ?_
        refine Run.jump ((hgo (_, (j : Int) + 1) (by dsimp only; omega) [])) trivial (Grew.of (Eq.trans (frc (frl rfl) (frc (frl (frl rfl)) (frc (frl (frl rfl)) (frc (frl (frl rfl)) (frc (frl (frl rfl)) (frc rfl (frc (frl rfl) (frc (frl rfl) (frc (frl rfl) rfl))))))))) (congrArg (· * _) (congrArg (· * _) (congrArg (· * _) (congrArg (· * _) (congrArg (· * _) (congrArg (· * _) (congrArg (· * _) (congrArg (· * _) (congrArg (· * _) (asg as1))))))))))) (Grew.refl _))
      · obtain ⟨J2, k⟩ := z
        simp only at hz ⊢
        rw [hml] at hz
        subst hz
        refine Run.inBlock ?_
        refine Run.seq ?_
        (apply Run.drawD [] (by rfl) (Eq.trans (frc (frl (frl rfl)) (frc (frl (frl rfl)) (frc (frl (frl rfl)) rfl))) (asg (asg rfl))); case hchk => kernel_rfl)
        refine Sd.quiet 0 _ _ rfl rfl rfl rfl rfl (QOp.ok (fun X => OpOk.load rfl rfl rfl (Blk.out Blk.pts.left.left.left.left _ _ (by first | rfl | assumption)))) ?_
        refine Sd.quiet 1 _ _ rfl rfl rfl rfl rfl (QOp.ok (fun X => OpOk.move rfl)) ?_
        (refine Sd.exec 2 rfl rfl rfl rfl rfl ?hrest (by rfl) (fun Xz1 Kz1 hKz1 => ?_); case hrest => kernel_rfl)
        refine RunL.mem (fl2 (sep_emp _) (flS (flS rfl))) ?_
        refine RunL.call cal39 rfl (s39) rfl (fun vz2 Az2 hz2 => ?_)
        obtain ⟨rfl, rfl⟩ := hz2
        refine Sd.ret hKz1 (Eq.trans rfl (gp2 (sep_emp _).symm (asg (asg rfl)))) ⟨_, (emp_sep _).symm⟩ ?_
        refine Sd.quiet 3 _ _ rfl rfl rfl rfl rfl (QOp.ok (fun X => OpOk.as (c := false) (OpOk.neq rfl rfl) (by rw [decide_eq_true (by omega)]; rfl))) ?_
        (apply Sd.tail; case hall => kernel_rfl)
        refine RunL.mem (fl2 (flS (flS rfl)) (sep_emp _)) ?_
        refine RunL.nil ?_
        refine Run.condF rfl ?_
        refine Run.skip ?_
        refine Run.inBlock ?_
        refine Run.region ?_
        refine RunL.ok (OpOk.move rfl) rfl ?_
        refine RunL.ok (OpOk.addN _ 1 rfl rfl rfl rfl (by omega)) rfl ?_
        refine RunL.ok (OpOk.assign rfl) rfl ?_
        refine RunL.nil ?_
        refine Run.jump ((ih (i + 1, D :: ds, _, y21, y22, l2) ⟨by dsimp only; omega, by dsimp only; omega, by dsimp only; omega, hf1⟩ (by dsimp only; omega))) ⟨rfl, rfl, rfl, rfl, trivial⟩ (Grew.of (Eq.trans (frc (frl (frl (frl rfl))) (frc rfl (frc rfl (frc rfl (frc (frl (frl (frl (frl rfl)))) rfl))))) (congrArg (· * _) (congrArg (· * _) (congrArg (· * _) (congrArg (· * _) (congrArg (· * _) (asg (asg (asg (asg as1)))))))))) (Grew.refl _))
    · clear ih
      refine Run.seq ?_
      refine Run.seq ?_
      refine Run.region ?_
      refine RunL.ok (OpOk.move rfl) rfl ?_
      refine RunL.ok (OpOk.move rfl) rfl ?_
      refine RunL.ok (OpOk.lenR rfl rfl rd.left.left.left.left.left.left rfl) rfl ?_
      refine RunL.ok (OpOk.asT (OpOk.lss rfl rfl) (by omega)) rfl ?_
      refine RunL.ok (OpOk.move rfl) rfl ?_
      refine RunL.on rfl rfl ?_
      refine RunL.ok (OpOk.move rfl) rfl ?_
      refine RunL.on rfl rfl ?_
      refine RunL.ok (OpOk.asF (OpOk.lss rfl rfl) (by omega)) rfl ?_
      refine RunL.ok (OpOk.pickT rfl rfl) rfl ?_
      refine RunL.nil ?_
      refine Run.condF rfl ?_
      refine Run.exit rfl ?_
      refine Run.seq ?_
      refine Run.region ?_
      refine RunL.store ti4 rfl rfl rfl (frl (frl (frl (frl rfl)))) (by exact Nat.le_of_ble_eq_true rfl) (.inl rfl) ?_
      refine RunL.nil ?_
      refine Run.mem (frc (frl rfl) rfl) ?_
      refine Run.shut ?_
      refine Run.retC1 (A' := _) Try.func12 rfl rfl rfl rfl Blk.pts rfl (Grew.refl _) ?_
      exact ⟨rfl, ⟨_, (asg (asg (asg (asg as1))))⟩⟩
  · clear ih
    refine Run.seq ?_
    refine Run.seq ?_
    refine Run.region ?_
    refine RunL.ok (OpOk.move rfl) rfl ?_
    refine RunL.ok (OpOk.move rfl) rfl ?_
    refine RunL.ok (OpOk.lenR rfl rfl rd.left.left.left.left.left.left rfl) rfl ?_
    refine RunL.ok (OpOk.asF (OpOk.lss rfl rfl) (by omega)) rfl ?_
    refine RunL.ok (OpOk.move rfl) rfl ?_
    refine RunL.off rfl rfl rfl rfl ?_
    refine RunL.off rfl rfl rfl rfl ?_
    refine RunL.ok (OpOk.pickF rfl rfl) rfl ?_
    refine RunL.nil ?_
    refine Run.condF rfl ?_
    refine Run.exit rfl ?_
    refine Run.seq ?_
    refine Run.region ?_
    refine RunL.store ti4 rfl rfl rfl (frl (frl (frl (frl rfl)))) (by exact Nat.le_of_ble_eq_true rfl) (.inl rfl) ?_
    refine RunL.nil ?_
    refine Run.mem (frc (frl rfl) rfl) ?_
    refine Run.shut ?_
    refine Run.retC1 (A' := _) Try.func12 rfl rfl rfl rfl Blk.pts rfl (Grew.refl _) ?_
    exact ⟨rfl, ⟨_, (asg (asg (asg (asg as1))))⟩⟩
end
end Go.Proofs.Ytlmehpjcmdipmaa
