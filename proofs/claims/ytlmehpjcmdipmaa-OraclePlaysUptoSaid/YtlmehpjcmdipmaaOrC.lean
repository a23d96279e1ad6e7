/- The law OracleTrue, walked. -/
import Derived.Test.YtlmehpjcmdipmaaOrB
import Derived.Test.YtlmehpjcmdipmaaLe
namespace Go.Proofs.Ytlmehpjcmdipmaa
open Go Go.Proofs
set_option maxRecDepth 100000
set_option maxHeartbeats 4000000
set_option linter.unusedSimpArgs false
abbrev OpT := Bool × Int × K4 × SV × List (Value × List UInt8)
def encT28 : OpT → List Value := fun (b, t, (k1, k2, k3, k4), v, _) => [.bool b, .int .i64 t, .int .i64 k1, .int .i64 k2, .int .i64 k3, .int .i64 k4, v.1]
instance : OneC encT28 := ⟨fun ⟨b, t, ⟨k1, k2, k3, k4⟩, v, l⟩ u hu => by
  simp only [encT28, List.mem_cons, List.not_mem_nil, or_false] at hu
  rcases hu with rfl | rfl | rfl | rfl | rfl | rfl | rfl
  · rfl
  · rfl
  · rfl
  · rfl
  · rfl
  · rfl
  · exact v.2⟩
/-- What an operation's key and bytes are. -/
abbrev me (o : OpT) : Me := (((o).2.2.1.1, (o).2.2.1.2.1, (o).2.2.1.2.2.1, (o).2.2.1.2.2.2), flatB (o).2.2.2.2)
structure OpG (w0 : World) (o : OpT) : Prop where
  rd : Rd w0 (old w0) o.2.2.2.1.1 1 o.2.2.2.2.length (Fl encV o.2.2.2.2)
  al : Alls (GB w0) (old w0) o.2.2.2.2
  sz : (flatB o.2.2.2.2).length ≤ 1048576
def holdsP (l : List Me) (t : Int) (g : Me) : Prop := 1 ≤ t ∧ t ≤ (l.length : Int) ∧ l.getD (t - 1).toNat default = g
instance (l : List Me) (t : Int) (g : Me) : Decidable (holdsP l t g) := inferInstanceAs (Decidable (_ ∧ _))
theorem mt_new (l : List Me) (x : Me) (t : Int) : decide (holdsP (l ++ [x]) t x) = (decide (holdsP l t x) || decide (((l.length + 1 : Nat) : Int) = t)) := by
  rw [← Bool.decide_or]
  refine decide_eq_decide.2 ⟨?_, ?_⟩
  · rintro ⟨h1, h2, h3⟩
    rw [List.length_append, List.length_singleton] at h2
    rcases Decidable.em (((l.length + 1 : Nat) : Int) = t) with e | e
    · exact .inr e
    · refine .inl ⟨h1, by omega, ?_⟩
      rwa [List.getD_eq_getElem?_getD, List.getElem?_append_left (by omega), ← List.getD_eq_getElem?_getD] at h3
  · rintro (⟨h1, h2, h3⟩ | rfl)
    · refine ⟨h1, by rw [List.length_append]; omega, ?_⟩
      rwa [List.getD_eq_getElem?_getD, List.getElem?_append_left (by omega), ← List.getD_eq_getElem?_getD]
    · refine ⟨by omega, by rw [List.length_append, List.length_singleton]; omega, ?_⟩
      rw [show (((l.length + 1 : Nat) : Int) - 1).toNat = l.length by omega, List.getD_eq_getElem?_getD, List.getElem?_append_right (Nat.le_refl _), Nat.sub_self]
      rfl
theorem mt_diff {l : List Me} {x g : Me} (h : x ≠ g) (t : Int) : decide (holdsP (l ++ [x]) t g) = decide (holdsP l t g) := by
  refine decide_eq_decide.2 ⟨?_, ?_⟩
  · rintro ⟨h1, h2, h3⟩
    rw [List.length_append, List.length_singleton] at h2
    rcases Decidable.em (((l.length + 1 : Nat) : Int) = t) with e | e
    · subst e
      rw [show (((l.length + 1 : Nat) : Int) - 1).toNat = l.length by omega, List.getD_eq_getElem?_getD, List.getElem?_append_right (Nat.le_refl _), Nat.sub_self] at h3
      exact absurd h3 h
    · refine ⟨h1, by omega, ?_⟩
      rwa [List.getD_eq_getElem?_getD, List.getElem?_append_left (by omega), ← List.getD_eq_getElem?_getD] at h3
  · rintro ⟨h1, h2, h3⟩
    refine ⟨h1, by rw [List.length_append]; omega, ?_⟩
    rwa [List.getD_eq_getElem?_getD, List.getElem?_append_left (by omega), ← List.getD_eq_getElem?_getD]
theorem mt_old {l : List Me} {x : Me} {k : Nat} (h1 : 0 < k) (h2 : k ≤ l.length) (h3 : l.getD ((k : Int) - 1).toNat default = x) (t : Int) : decide (holdsP l t x) = (decide (holdsP l t x) || decide ((k : Int) = t)) := by
  rw [← Bool.decide_or]
  refine decide_eq_decide.2 ⟨.inl, ?_⟩
  rintro (h | rfl)
  · exact h
  · exact ⟨by omega, by omega, h3⟩
section
variable {w0 : World} {A : Asn}
theorem oracleTrue_spec {u : Value} {ops : List OpT} {gb : Bool} {gt ga gc gd ge : Int} {gs : SV} {gl : List (Value × List UInt8)} (rd : Rd w0 (old w0) u 7 ops.length (Fl encT28 ops)) (hok : ∀ o ∈ ops, OpG w0 o) (hg : OpG w0 (gb, gt, (ga, gc, gd, ge), gs, gl)) :
    Spec Try.prog w0 3 [u, .agg (encT28 (gb, gt, (ga, gc, gd, ge), gs, gl)).toArray] (old w0) (fun v' A' => v' = .bool true ∧ Grew (old w0) A') := by
  have hmx := rd.max
  have hgrd := hg.rd
  have hgal := hg.al
  have hgsz := hg.sz
  dsimp only at hgrd hgal hgsz
  refine Spec.of_run [(0, u), (1, .agg (encT28 (gb, gt, (ga, gc, gd, ge), gs, gl)).toArray)] Try.func3 rfl (Nat.le_of_ble_eq_true rfl) (by repeat (first | exact trivial | refine ⟨rfl, ?_⟩)) ?_
  refine Run.seq ?_
  refine Run.region ?_
  refine RunL.box rfl rfl (fun bx1 => ?_)
  refine RunL.ok (OpOk.assign rfl) rfl ?_
  refine RunL.nil ?_
  refine Run.seq ?_
  refine Run.seq ?_
  refine Run.region ?_
  refine RunL.call cal13 rfl (s13) rfl (fun vx2 Ax2 hx2 => ?_)
  obtain ⟨x3, ⟨rfl, rfl⟩⟩ := hx2
  refine RunL.ok (OpOk.not rfl) rfl ?_
  refine RunL.nil ?_
  refine Run.condF rfl ?_
  refine Run.skip ?_
  refine Run.seq ?_
  refine Run.region ?_
  refine RunL.ok (OpOk.build rfl (fun w => run_build w 34 _ _ (by rfl))) rfl ?_
  refine RunL.box rfl rfl (fun bx4 => ?_)
  refine RunL.ent (newT34 _ _) ?_
  refine RunL.ok (OpOk.assign rfl) rfl ?_
  refine RunL.nil ?_
  refine Run.seq ?_
  refine Run.region ?_
  refine RunL.ok (OpOk.assign rfl) rfl ?_
  refine RunL.nil ?_
  refine Run.seq ?_
  refine Run.seq ?_
  refine Run.region ?_
  refine RunL.ok (OpOk.assign rfl) rfl ?_
  refine RunL.nil ?_
  refine Run.block ?_
  refine Run.jump ((Run.loopJ (X := Nat × Asn × Value × Value × List Me × Bool) (fun x => [(7, .int .i64 (x.1 : Int)), (6, .bool x.2.2.2.2.2), (5, .pointer (some ⟨bx4, 0, none⟩)), (3, .pointer (some ⟨bx1, 0, none⟩)), (0, u)]) (fun x => old w0 * x.2.1 * pts bx1 (.cells (Value.agg (encT28 (gb, gt, (ga, gc, gd, ge), gs, gl)).toArray).cells 28 (0, 0)) * pts bx4 (.cells #[x.2.2.1, x.2.2.2.1] 34 (0, 0)) * omap x.2.2.1 (x.2.2.2.2.1) * own 85 6 x.2.2.2.1 (x.2.2.2.2.1).length (Fl encT85 (mintF 0 (x.2.2.2.2.1)))) (fun x => x.1 ≤ ops.length ∧ x.1 ≤ 100 ∧ x.2.2.2.2.1.length ≤ x.1 ∧ x.2.2.2.2.2 = decide (holdsP x.2.2.2.2.1 gt ((ga, gc, gd, ge), flatB gl))) (fun x => ops.length - x.1) (0, _, .map none, .slice none 0 0, [], false) ⟨Nat.zero_le _, Nat.zero_le _, by simp, by rw [eq_comm, decide_eq_false_iff_not]; rintro ⟨h1, h2, _⟩; simp at h2; omega⟩ (fun x hx ih => ?_))) ⟨rfl, rfl, rfl, rfl, rfl, trivial⟩ (Grew.of (Eq.trans (frc rfl (frc rfl (frc rfl (frc (frl rfl) rfl)))) (congrArg (· * _) (congrArg (· * _) (congrArg (· * _) (congrArg (· * _) as1))))) (Grew.refl _))
  obtain ⟨i, J, mv, av, l, mt⟩ := x
  simp only at hx ih ⊢
  obtain ⟨hi, hi1, hl, hmt⟩ := hx
  rcases Nat.lt_or_ge i ops.length with hlt | hge
  · rcases Nat.lt_or_ge i 100 with h100 | h100
    · have ho := hok _ (getD_mem hlt)
      obtain ⟨o, hoe⟩ : ∃ o, ops.getD i default = o := ⟨_, rfl⟩
      rw [hoe] at ho
      obtain ⟨ob, ot, ⟨oa, oc, od, oe⟩, os, ol⟩ := o
      have hord := ho.rd
      have hoal := ho.al
      have hosz := ho.sz
      dsimp only at hord hoal hosz
      have hol : (l ++ [((oa, oc, od, oe), flatB ol)]).length ≤ i + 1 := by rw [List.length_append, List.length_singleton]; omega
      have hol2 : (l ++ [((oa, oc, od, oe), flatB ol)]).length = l.length + 1 := by simp
      rcases Decidable.em (atF 0 l ((oa, oc, od, oe), flatB ol) = 0) with hat | hat
      · have hx1 : (l ++ [((oa, oc, od, oe), flatB ol)]).getD (((l.length + 1 : Nat) : Int) - 1).toNat default = ((oa, oc, od, oe), flatB ol) := by
          rw [show (((l.length + 1 : Nat) : Int) - 1).toNat = l.length by omega, List.getD_eq_getElem?_getD, List.getElem?_append_right (Nat.le_refl _), Nat.sub_self]
          rfl
        have hmn := mt_new l ((oa, oc, od, oe), flatB ol) gt
        refine Run.seq ?_
        refine Run.seq ?_
        refine Run.region ?_
        refine RunL.ok (OpOk.move rfl) rfl ?_
        refine RunL.ok (OpOk.move rfl) rfl ?_
        refine RunL.ok (OpOk.lenR rfl rfl rd.left.left.left.left.left rfl) rfl ?_
        refine RunL.ok (OpOk.asT (OpOk.lss rfl rfl) (by omega)) rfl ?_
        refine RunL.ok (OpOk.move rfl) rfl ?_
        refine RunL.on rfl rfl ?_
        refine RunL.ok (OpOk.move rfl) rfl ?_
        refine RunL.on rfl rfl ?_
        refine RunL.ok (OpOk.asT (OpOk.lss rfl rfl) (by omega)) rfl ?_
        refine RunL.ok (OpOk.pickT rfl rfl) rfl ?_
        refine RunL.nil ?_
        refine Run.condT rfl ?_
        refine Run.skip ?_
        refine Run.seq ?_
        refine Run.block ?_
        refine Run.seq ?_
        refine Run.know (fun w s => (s.conv rfl).ownRd0) (fun rdy1 => ?_)
        (apply Run.drawD [] (by rfl) (Eq.trans rfl (asg (asg rfl))); case hchk => kernel_rfl)
        refine Sd.quiet 0 _ _ rfl rfl rfl rfl rfl (QOp.ok (fun X => OpOk.move rfl)) ?_
        refine Sd.quiet 1 _ _ rfl rfl rfl rfl rfl (QOp.ok (fun X => OpOk.move rfl)) ?_
        refine Sd.quiet 2 _ _ rfl rfl rfl rfl rfl (QOp.ok (fun X => OpOk.move rfl)) ?_
        refine Sd.quiet 3 _ _ rfl rfl rfl rfl rfl (QOp.ok (fun X => OpOk.idxN rfl ti28 rfl rd.left.left.left.left rfl (by omega))) ?_
        refine Sd.quiet 4 _ _ rfl rfl rfl rfl rfl (QOp.ok (fun X => OpOk.fieldAddrA fld28_2 rfl)) ?_
        refine Sd.quiet 5 _ _ rfl rfl rfl rfl rfl (QOp.ok (fun X => OpOk.loadFlGE hoe _ rfl rfl ti25 rfl rd.left.left.left.left (fun _ => rfl) (by omega) (by omega) rfl rfl)) ?_
        refine Sd.quiet 6 _ _ rfl rfl rfl rfl rfl (QOp.ok (fun X => OpOk.move rfl)) ?_
        refine Sd.quiet 7 _ _ rfl rfl rfl rfl rfl (QOp.ok (fun X => OpOk.move rfl)) ?_
        refine Sd.quiet 8 _ _ rfl rfl rfl rfl rfl (QOp.ok (fun X => OpOk.idxN rfl ti28 rfl rd.left.left.left.left rfl (by omega))) ?_
        refine Sd.quiet 9 _ _ rfl rfl rfl rfl rfl (QOp.ok (fun X => OpOk.fieldAddrA fld28_3 rfl)) ?_
        refine Sd.quiet 10 _ _ rfl rfl rfl rfl rfl (QOp.ok (fun X => OpOk.loadFl1E hoe rfl rfl rfl rd.left.left.left.left (fun _ => rfl) rfl (by omega) rfl)) ?_
        (refine Sd.exec 11 rfl rfl rfl rfl rfl ?hrest (by rfl) (fun Xy2 Ky2 hKy2 => ?_); case hrest => kernel_rfl)
        refine RunL.mem (fl2 (sep_emp _) (flS (flS rfl))) ?_
        refine RunL.call cal14 rfl (s14a hord.left.left.left hoal.left.left.left (by assumption) (by omega) (by omega)) rfl (fun vy3 Ay3 hy3 => ?_)
        obtain ⟨rfl, ⟨y4, ⟨y5, ⟨y6, rfl⟩⟩⟩⟩ := hy3
        refine RunL.know (fun w s => (s.conv rfl).ownRd0) (fun rdy7 => ?_)
        refine Sd.ret hKy2 (Eq.trans rfl (gp2 (sep_emp _).symm (asg (asg (asg rfl))))) ⟨_, (emp_sep _).symm⟩ ?_
        refine Sd.quiet 12 _ _ rfl rfl rfl rfl rfl (QOp.ok (fun X => OpOk.assign rfl)) ?_
        (apply Sd.tail; case hall => kernel_rfl)
        refine RunL.mem (fl2 (flS (flS (flS rfl))) (sep_emp _)) ?_
        refine RunL.nil ?_
        refine Run.seq ?_
        refine Run.seq ?_
        (apply Run.drawD [] (by rfl) (Eq.trans rfl (asg (asg rfl))); case hchk => kernel_rfl)
        refine Sd.quiet 0 _ _ rfl rfl rfl rfl rfl (QOp.ok (fun X => OpOk.move rfl)) ?_
        refine Sd.quiet 1 _ _ rfl rfl rfl rfl rfl (QOp.ok (fun X => OpOk.move rfl)) ?_
        refine Sd.quiet 2 _ _ rfl rfl rfl rfl rfl (QOp.ok (fun X => OpOk.move rfl)) ?_
        refine Sd.quiet 3 _ _ rfl rfl rfl rfl rfl (QOp.ok (fun X => OpOk.move rfl)) ?_
        refine Sd.quiet 4 _ _ rfl rfl rfl rfl rfl (QOp.ok (fun X => OpOk.idxN rfl ti28 rfl rd.left.left.left.left.left rfl (by omega))) ?_
        refine Sd.quiet 5 _ _ rfl rfl rfl rfl rfl (QOp.ok (fun X => OpOk.fieldAddrA fld28_2 rfl)) ?_
        refine Sd.quiet 6 _ _ rfl rfl rfl rfl rfl (QOp.ok (fun X => OpOk.loadFlGE hoe _ rfl rfl ti25 rfl rd.left.left.left.left.left (fun _ => rfl) (by omega) (by omega) rfl rfl)) ?_
        refine Sd.quiet 7 _ _ rfl rfl rfl rfl rfl (QOp.ok (fun X => OpOk.move rfl)) ?_
        refine Sd.quiet 8 _ _ rfl rfl rfl rfl rfl (QOp.ok (fun X => OpOk.move rfl)) ?_
        refine Sd.quiet 9 _ _ rfl rfl rfl rfl rfl (QOp.ok (fun X => OpOk.idxN rfl ti28 rfl rd.left.left.left.left.left rfl (by omega))) ?_
        refine Sd.quiet 10 _ _ rfl rfl rfl rfl rfl (QOp.ok (fun X => OpOk.fieldAddrA fld28_3 rfl)) ?_
        refine Sd.quiet 11 _ _ rfl rfl rfl rfl rfl (QOp.ok (fun X => OpOk.loadFl1E hoe rfl rfl rfl rd.left.left.left.left.left (fun _ => rfl) rfl (by omega) rfl)) ?_
        (refine Sd.exec 12 rfl rfl rfl rfl rfl ?hrest (by rfl) (fun Xy8 Ky8 hKy8 => ?_); case hrest => kernel_rfl)
        refine RunL.mem (fl2 (sep_emp _) (flS (flS rfl))) ?_
        refine RunL.call cal15 rfl (s15c hord.left.left.left.left hoal.left.left.left.left (by omega) (by omega) (by omega) (by omega)) rfl (fun vy11 Ay11 hy11 => ?_)
        obtain ⟨rfl, ⟨y12, rfl⟩⟩ := hy11
        refine Sd.ret hKy8 (Eq.trans rfl (gp2 (asg (asg rfl)) rfl)) ⟨_, (emp_sep _).symm⟩ ?_
        refine Sd.quiet 13 _ _ rfl rfl rfl rfl rfl (QOp.ok (fun X => OpOk.not rfl)) ?_
        refine Sd.quiet 14 _ _ rfl rfl rfl rfl rfl (QOp.ok (fun X => OpOk.move rfl)) ?_
        refine Sd.splitBF (bnF (by first | omega | with_reducible rfl | assumption)) ?_
        refine Sd.quiet 15 _ _ rfl rfl rfl rfl rfl (QOp.ok (fun X => OpOk.move rfl)) ?_
        refine Sd.quiet 16 _ _ rfl rfl rfl rfl rfl (QOp.ok (fun X => OpOk.move rfl)) ?_
        refine Sd.quiet 17 _ _ rfl rfl rfl rfl rfl (QOp.ok (fun X => OpOk.move rfl)) ?_
        refine Sd.quiet 18 _ _ rfl rfl rfl rfl rfl (QOp.ok (fun X => OpOk.move rfl)) ?_
        refine Sd.quiet 19 _ _ rfl rfl rfl rfl rfl (QOp.ok (fun X => OpOk.idxN rfl ti28 rfl rd.left.left.left.left.left rfl (by omega))) ?_
        refine Sd.quiet 20 _ _ rfl rfl rfl rfl rfl (QOp.ok (fun X => OpOk.fieldAddrA fld28_2 rfl)) ?_
        refine Sd.quiet 21 _ _ rfl rfl rfl rfl rfl (QOp.ok (fun X => OpOk.loadFlGE hoe _ rfl rfl ti25 rfl rd.left.left.left.left.left (fun _ => rfl) (by omega) (by omega) rfl rfl)) ?_
        refine Sd.quiet 22 _ _ rfl rfl rfl rfl rfl (QOp.ok (fun X => OpOk.move rfl)) ?_
        refine Sd.quiet 23 _ _ rfl rfl rfl rfl rfl (QOp.ok (fun X => OpOk.move rfl)) ?_
        refine Sd.quiet 24 _ _ rfl rfl rfl rfl rfl (QOp.ok (fun X => OpOk.idxN rfl ti28 rfl rd.left.left.left.left.left rfl (by omega))) ?_
        refine Sd.quiet 25 _ _ rfl rfl rfl rfl rfl (QOp.ok (fun X => OpOk.fieldAddrA fld28_3 rfl)) ?_
        refine Sd.quiet 26 _ _ rfl rfl rfl rfl rfl (QOp.ok (fun X => OpOk.loadFl1E hoe rfl rfl rfl rd.left.left.left.left.left (fun _ => rfl) rfl (by omega) rfl)) ?_
        refine Sd.quiet 27 _ _ rfl rfl rfl rfl rfl (QOp.call cal16 rfl (fun X => s16 hord.left.left.left.left.left hoal.left.left.left.left.left (by omega))) ?_
        (refine Sd.exec 28 rfl rfl rfl rfl rfl ?hrest (by rfl) (fun Xy13 Ky13 hKy13 => ?_); case hrest => kernel_rfl)
        refine RunL.mem (fl2 rfl (flS (flS rfl))) ?_
        refine RunL.bytesOf0 rfl rfl rfl rfl (by first | (simp only [maxLen]; omega) | (simp [maxLen] <;> omega)) rfl (fun vy14 Jy14 rdy14 => ?_)
        refine Sd.ret hKy13 (Eq.trans (frc (frl rfl) (frc (frl rfl) (frc (frl rfl) rfl))) (gp2 (asg (asg rfl)) (asg rfl))) ⟨_, rfl⟩ ?_
        (refine Sd.exec 29 rfl rfl rfl rfl rfl ?hrest (by rfl) (fun Xy15 Ky15 hKy15 => ?_); case hrest => kernel_rfl)
        refine RunL.mem (fl2 (flS rfl) (flS (flS rfl))) ?_
        have aly16 : Alls (GB w0) _ [(vy14, flatB ol)] := (Alls.cons (GB.of rdy14) Alls.nil)
        refine RunL.litV (ls := [(vy14, flatB ol)]) (Alls.right aly16).left.left.left rfl ti37 rfl rfl rfl (by decide) rfl (fun vy16 rdy16 => ?_)
        refine RunL.know (fun w s => (s.conv rfl).ownRd0) (fun rdy17 => ?_)
        refine Sd.ret hKy15 (Eq.trans (frc (frl rfl) (frc (frl rfl) (frc (frl rfl) rfl))) (gp2 (asg (asg rfl)) (asg (asg rfl)))) ⟨_, rfl⟩ ?_
        (refine Sd.exec 30 rfl rfl rfl rfl rfl ?hrest (by rfl) (fun Xy18 Ky18 hKy18 => ?_); case hrest => kernel_rfl)
        refine RunL.mem (fl2 (flS (flS rfl)) (flS (flS rfl))) ?_
        refine RunL.call cal15 rfl (s15b (Rd.right rdy17) (Alls.right aly16).left (by omega) (by omega) (by omega) (by omega)) rfl (fun vy20 Ay20 hy20 => ?_)
        obtain ⟨rfl, ⟨y21, rfl⟩⟩ := hy20
        refine Sd.ret hKy18 (Eq.trans rfl (gp2 (sep_emp _).symm (asg (asg (asg (asg (asg (asg rfl)))))))) ⟨_, (asg (asg (asg rfl)))⟩ ?_
        refine Sd.quiet 31 _ _ rfl rfl rfl rfl rfl (QOp.ok (fun X => OpOk.not rfl)) ?_
        refine Sd.quiet 32 _ _ rfl rfl rfl rfl rfl (QOp.ok (fun X => OpOk.pickF rfl rfl)) ?_
        (apply Sd.tail; case hall => kernel_rfl)
        refine RunL.mem (fl2 (flS (flS (flS (flS (flS (flS rfl)))))) (sep_emp _)) ?_
        refine RunL.nil ?_
        refine Run.condNF rfl (by first | omega | with_reducible rfl | assumption) ?_
        refine Run.skip ?_
        refine Run.seq ?_
        (apply Run.drawD [] (by rfl) (sep_emp _).symm; case hchk => kernel_rfl)
        refine Sd.quiet 0 _ _ rfl rfl rfl rfl rfl (QOp.ok (fun X => OpOk.move rfl)) ?_
        refine Sd.quiet 1 _ _ rfl rfl rfl rfl rfl (QOp.ok (fun X => OpOk.move rfl)) ?_
        refine Sd.quiet 2 _ _ rfl rfl rfl rfl rfl (QOp.ok (fun X => OpOk.idxN rfl ti28 rfl rd.left.left.left.left.left.left.left.left.left.left.left.left rfl (by omega))) ?_
        refine Sd.quiet 3 _ _ rfl rfl rfl rfl rfl (QOp.ok (fun X => OpOk.fieldAddrA fld28_2 rfl)) ?_
        refine Sd.quiet 4 _ _ rfl rfl rfl rfl rfl (QOp.ok (fun X => OpOk.loadFlGE hoe _ rfl rfl ti25 rfl rd.left.left.left.left.left.left.left.left.left.left.left.left (fun _ => rfl) (by omega) (by omega) rfl rfl)) ?_
        refine Sd.quiet 5 _ _ rfl rfl rfl rfl rfl (QOp.ok (fun X => OpOk.fieldAddr fld28_2 rfl)) ?_
        refine Sd.quiet 6 _ _ rfl rfl rfl rfl rfl (QOp.ok (fun X => OpOk.loadSub rfl rfl ti25 rfl Blk.pts.left.left.left.left.left.left.left.left.left.left rfl rfl)) ?_
        refine Sd.quiet 7 _ _ rfl rfl rfl rfl rfl (QOp.ok (fun X => OpOk.eqlK4 (p := (oa, oc, od, oe)) (q := (ga, gc, gd, ge)) four25 rfl rfl)) ?_
        refine Sd.quiet 8 _ _ rfl rfl rfl rfl rfl (QOp.ok (fun X => OpOk.move rfl)) ?_
        refine Sd.splitD (fun y22 => ?_) (fun y22 => ?_)
        · refine Sd.quiet 9 _ _ rfl rfl rfl rfl rfl (QOp.ok (fun X => OpOk.move rfl)) ?_
          refine Sd.quiet 10 _ _ rfl rfl rfl rfl rfl (QOp.ok (fun X => OpOk.move rfl)) ?_
          refine Sd.quiet 11 _ _ rfl rfl rfl rfl rfl (QOp.ok (fun X => OpOk.idxN rfl ti28 rfl rd.left.left.left.left.left.left.left.left.left.left.left.left rfl (by omega))) ?_
          refine Sd.quiet 12 _ _ rfl rfl rfl rfl rfl (QOp.ok (fun X => OpOk.fieldAddrA fld28_3 rfl)) ?_
          refine Sd.quiet 13 _ _ rfl rfl rfl rfl rfl (QOp.ok (fun X => OpOk.loadFl1E hoe rfl rfl rfl rd.left.left.left.left.left.left.left.left.left.left.left.left (fun _ => rfl) rfl (by omega) rfl)) ?_
          refine Sd.quiet 14 _ _ rfl rfl rfl rfl rfl (QOp.call cal16 rfl (fun X => s16 hord.left.left.left.left.left.left.left.left.left.left.left.left hoal.left.left.left.left.left.left.left.left.left.left.left.left (by omega))) ?_
          refine Sd.quiet 15 _ _ rfl rfl rfl rfl rfl (QOp.ok (fun X => OpOk.fieldAddr fld28_3 rfl)) ?_
          refine Sd.quiet 16 _ _ rfl rfl rfl rfl rfl (QOp.ok (fun X => OpOk.load rfl rfl rfl (Blk.out Blk.pts.left.left.left.left.left.left.left.left.left.left _ _ (by first | rfl | assumption)))) ?_
          refine Sd.quiet 17 _ _ rfl rfl rfl rfl rfl (QOp.call cal16 rfl (fun X => s16 hgrd.left.left.left.left.left.left.left.left.left.left.left.left hgal.left.left.left.left.left.left.left.left.left.left.left.left (by omega))) ?_
          refine Sd.quiet 18 _ _ rfl rfl rfl rfl rfl (QOp.ok (fun X => OpOk.eqlSS rfl rfl)) ?_
          refine Sd.quiet 19 _ _ rfl rfl rfl rfl rfl (QOp.ok (fun X => OpOk.pickT rfl rfl)) ?_
          refine Sd.quiet 20 _ _ rfl rfl rfl rfl rfl (QOp.ok (fun X => OpOk.assign rfl)) ?_
          (apply Sd.tail; case hall => kernel_rfl)
          refine RunL.mem (fl2 (sep_emp _) (sep_emp _)) ?_
          refine RunL.nil ?_
          refine Run.seq ?_
          refine Run.region ?_
          refine RunL.ok (OpOk.move rfl) rfl ?_
          refine RunL.nil ?_
          refine Run.condD rfl (fun y23 => ?_) (fun y23 => ?_)
          · refine Run.region ?_
            refine RunL.ok (OpOk.move rfl) rfl ?_
            refine RunL.ok (OpOk.move rfl) rfl ?_
            refine RunL.splitB (t := 91) rfl (fun y24 => ?_) (fun y24 => ?_)
            · refine RunL.off rfl rfl rfl rfl ?_
              refine RunL.off rfl rfl rfl rfl ?_
              refine RunL.off rfl rfl rfl rfl ?_
              refine RunL.off rfl rfl rfl rfl ?_
              refine RunL.ok (OpOk.pickT rfl rfl) rfl ?_
              refine RunL.ok (OpOk.assign rfl) rfl ?_
              refine RunL.nil ?_
              refine Run.inBlock ?_
              refine Run.region ?_
              refine RunL.ok (OpOk.move rfl) rfl ?_
              refine RunL.ok (OpOk.addN _ 1 rfl rfl rfl rfl (by omega)) rfl ?_
              refine RunL.ok (OpOk.assign rfl) rfl ?_
              refine RunL.nil ?_
              have hsame : ((oa, oc, od, oe), flatB ol) = ((ga, gc, gd, ge), flatB gl) := Prod.ext y22 y23
              rw [hsame, ← hmt, y24] at hmn
              refine Run.jump ((ih (i + 1, _, _, _, l ++ [((oa, oc, od, oe), flatB ol)], true) ⟨by dsimp only; omega, by dsimp only; omega, hol, by dsimp only; rw [hsame, hmn]; rfl⟩ (by dsimp only; omega))) ⟨rfl, rfl, rfl, rfl, rfl, trivial⟩ (Grew.of (Eq.trans (frc rfl (frc rfl (frc rfl (frc (frl (frl (frl (frl (frl rfl))))) rfl)))) (congrArg (· * _) (congrArg (· * _) (congrArg (· * _) (congrArg (· * _) (asg (asg (asg (asg (asg as1)))))))))) (Grew.refl _))
            refine RunL.on rfl rfl ?_
            refine RunL.ok (OpOk.move rfl) rfl ?_
            refine RunL.on rfl rfl ?_
            refine RunL.ok (OpOk.fieldAddr fld28_1 rfl) rfl ?_
            refine RunL.on rfl rfl ?_
            refine RunL.ok (OpOk.load rfl rfl rfl (Blk.out Blk.pts.left.left.left.left.left.left.left.left _ _ (by first | rfl | assumption))) rfl ?_
            refine RunL.on rfl rfl ?_
            refine RunL.ok (OpOk.eql rfl rfl) rfl ?_
            refine RunL.ok (OpOk.pickF rfl rfl) rfl ?_
            refine RunL.ok (OpOk.assign rfl) rfl ?_
            refine RunL.nil ?_
            refine Run.inBlock ?_
            refine Run.region ?_
            refine RunL.ok (OpOk.move rfl) rfl ?_
            refine RunL.ok (OpOk.addN _ 1 rfl rfl rfl rfl (by omega)) rfl ?_
            refine RunL.ok (OpOk.assign rfl) rfl ?_
            refine RunL.nil ?_
            have hsame : ((oa, oc, od, oe), flatB ol) = ((ga, gc, gd, ge), flatB gl) := Prod.ext y22 y23
            rw [hsame, ← hmt, y24] at hmn
            refine Run.jump ((ih (i + 1, _, _, _, l ++ [((oa, oc, od, oe), flatB ol)], decide (((l.length + 1 : Nat) : Int) = gt)) ⟨by dsimp only; omega, by dsimp only; omega, hol, by dsimp only; rw [hsame, hmn]; rfl⟩ (by dsimp only; omega))) ⟨rfl, rfl, rfl, rfl, rfl, trivial⟩ (Grew.of (Eq.trans (frc rfl (frc rfl (frc rfl (frc (frl (frl (frl (frl (frl rfl))))) rfl)))) (congrArg (· * _) (congrArg (· * _) (congrArg (· * _) (congrArg (· * _) (asg (asg (asg (asg (asg as1)))))))))) (Grew.refl _))
          refine Run.seq ?_
          refine Run.region ?_
          refine RunL.ok (OpOk.move rfl) rfl ?_
          refine RunL.ok (OpOk.fieldAddr fld28_1 rfl) rfl ?_
          refine RunL.ok (OpOk.load rfl rfl rfl (Blk.out Blk.pts.left.left.left.left.left.left.left.left _ _ (by first | rfl | assumption))) rfl ?_
          refine RunL.ok (OpOk.eql rfl rfl) rfl ?_
          refine RunL.ok (OpOk.move rfl) rfl ?_
          refine RunL.splitD (t := 101) rfl (fun y25 => ?_) (fun y25 => ?_)
          · refine RunL.on rfl rfl ?_
            refine RunL.ok (OpOk.move rfl) rfl ?_
            refine RunL.on rfl rfl ?_
            refine RunL.ok (OpOk.move rfl) rfl ?_
            refine RunL.on rfl rfl ?_
            refine RunL.ok (OpOk.fieldAddr fld28_2 rfl) rfl ?_
            refine RunL.on rfl rfl ?_
            refine RunL.ok (OpOk.loadSub rfl rfl ti25 rfl Blk.pts.left.left.left.left.left.left.left.left rfl rfl) rfl ?_
            refine RunL.on rfl rfl ?_
            refine RunL.ok (OpOk.fieldAddr fld28_3 rfl) rfl ?_
            refine RunL.on rfl rfl ?_
            refine RunL.ok (OpOk.load rfl rfl rfl (Blk.out Blk.pts.left.left.left.left.left.left.left.left _ _ (by first | rfl | assumption))) rfl ?_
            refine RunL.on rfl rfl ?_
            refine RunL.call cal15 rfl (s15c hgrd.left.left.left.left.left.left.left hgal.left.left.left.left.left.left.left (by omega) (by omega) (by omega) (by omega)) rfl (fun vy28 Ay28 hy28 => ?_)
            obtain ⟨rfl, ⟨y29, rfl⟩⟩ := hy28
            refine RunL.ok (OpOk.pickT rfl rfl) rfl ?_
            refine RunL.nil ?_
            refine Run.condD rfl (fun y30 => ?_) (fun y30 => ?_)
            · refine Run.seq ?_
              refine Run.region ?_
              refine RunL.ok (OpOk.assign rfl) rfl ?_
              refine RunL.nil ?_
              refine Run.ret1 Try.func3 rfl rfl ?_
              exact absurd (congrArg (fun q : Me => q.2) (hx1.symm.trans y30)) y23
            refine Run.skip ?_
            refine Run.inBlock ?_
            refine Run.region ?_
            refine RunL.ok (OpOk.move rfl) rfl ?_
            refine RunL.ok (OpOk.addN _ 1 rfl rfl rfl rfl (by omega)) rfl ?_
            refine RunL.ok (OpOk.assign rfl) rfl ?_
            refine RunL.nil ?_
            have hne : ((oa, oc, od, oe), flatB ol) ≠ ((ga, gc, gd, ge), flatB gl) := fun h => y23 (congrArg (fun q : Me => q.2) h)
            have hmd := mt_diff hne (l := l) gt
            refine Run.jump ((ih (i + 1, _, _, _, l ++ [((oa, oc, od, oe), flatB ol)], mt) ⟨by dsimp only; omega, by dsimp only; omega, hol, hmt.trans hmd.symm⟩ (by dsimp only; omega))) ⟨rfl, rfl, rfl, rfl, rfl, trivial⟩ (Grew.of (Eq.trans (frc rfl (frc rfl (frc rfl (frc (frl (frl (frl (frl (frl (frl rfl)))))) rfl)))) (congrArg (· * _) (congrArg (· * _) (congrArg (· * _) (congrArg (· * _) (asg (asg (asg (asg (asg (asg as1))))))))))) (Grew.refl _))
          refine RunL.off rfl rfl rfl rfl ?_
          refine RunL.off rfl rfl rfl rfl ?_
          refine RunL.off rfl rfl rfl rfl ?_
          refine RunL.off rfl rfl rfl rfl ?_
          refine RunL.off rfl rfl rfl rfl ?_
          refine RunL.off rfl rfl rfl rfl ?_
          refine RunL.off rfl rfl rfl rfl ?_
          refine RunL.ok (OpOk.pickF rfl rfl) rfl ?_
          refine RunL.nil ?_
          refine Run.condF rfl ?_
          refine Run.skip ?_
          refine Run.inBlock ?_
          refine Run.region ?_
          refine RunL.ok (OpOk.move rfl) rfl ?_
          refine RunL.ok (OpOk.addN _ 1 rfl rfl rfl rfl (by omega)) rfl ?_
          refine RunL.ok (OpOk.assign rfl) rfl ?_
          refine RunL.nil ?_
          have hne : ((oa, oc, od, oe), flatB ol) ≠ ((ga, gc, gd, ge), flatB gl) := fun h => y23 (congrArg (fun q : Me => q.2) h)
          have hmd := mt_diff hne (l := l) gt
          refine Run.jump ((ih (i + 1, _, _, _, l ++ [((oa, oc, od, oe), flatB ol)], mt) ⟨by dsimp only; omega, by dsimp only; omega, hol, hmt.trans hmd.symm⟩ (by dsimp only; omega))) ⟨rfl, rfl, rfl, rfl, rfl, trivial⟩ (Grew.of (Eq.trans (frc rfl (frc rfl (frc rfl (frc (frl (frl (frl (frl (frl rfl))))) rfl)))) (congrArg (· * _) (congrArg (· * _) (congrArg (· * _) (congrArg (· * _) (asg (asg (asg (asg (asg as1)))))))))) (Grew.refl _))
        refine Sd.skip 9 _ rfl rfl rfl rfl rfl ?_
        refine Sd.skip 10 _ rfl rfl rfl rfl rfl ?_
        refine Sd.skip 11 _ rfl rfl rfl rfl rfl ?_
        refine Sd.skip 12 _ rfl rfl rfl rfl rfl ?_
        refine Sd.skip 13 _ rfl rfl rfl rfl rfl ?_
        refine Sd.skip 14 _ rfl rfl rfl rfl rfl ?_
        refine Sd.skip 15 _ rfl rfl rfl rfl rfl ?_
        refine Sd.skip 16 _ rfl rfl rfl rfl rfl ?_
        refine Sd.skip 17 _ rfl rfl rfl rfl rfl ?_
        refine Sd.skip 18 _ rfl rfl rfl rfl rfl ?_
        refine Sd.quiet 19 _ _ rfl rfl rfl rfl rfl (QOp.ok (fun X => OpOk.pickF rfl rfl)) ?_
        refine Sd.quiet 20 _ _ rfl rfl rfl rfl rfl (QOp.ok (fun X => OpOk.assign rfl)) ?_
        (apply Sd.tail; case hall => kernel_rfl)
        refine RunL.mem (fl2 (sep_emp _) (sep_emp _)) ?_
        refine RunL.nil ?_
        refine Run.seq ?_
        refine Run.region ?_
        refine RunL.ok (OpOk.move rfl) rfl ?_
        refine RunL.nil ?_
        refine Run.condF rfl ?_
        refine Run.seq ?_
        refine Run.region ?_
        refine RunL.ok (OpOk.move rfl) rfl ?_
        refine RunL.ok (OpOk.fieldAddr fld28_1 rfl) rfl ?_
        refine RunL.ok (OpOk.load rfl rfl rfl (Blk.out Blk.pts.left.left.left.left.left.left.left.left _ _ (by first | rfl | assumption))) rfl ?_
        refine RunL.ok (OpOk.eql rfl rfl) rfl ?_
        refine RunL.ok (OpOk.move rfl) rfl ?_
        refine RunL.splitD (t := 101) rfl (fun y31 => ?_) (fun y31 => ?_)
        · refine RunL.on rfl rfl ?_
          refine RunL.ok (OpOk.move rfl) rfl ?_
          refine RunL.on rfl rfl ?_
          refine RunL.ok (OpOk.move rfl) rfl ?_
          refine RunL.on rfl rfl ?_
          refine RunL.ok (OpOk.fieldAddr fld28_2 rfl) rfl ?_
          refine RunL.on rfl rfl ?_
          refine RunL.ok (OpOk.loadSub rfl rfl ti25 rfl Blk.pts.left.left.left.left.left.left.left.left rfl rfl) rfl ?_
          refine RunL.on rfl rfl ?_
          refine RunL.ok (OpOk.fieldAddr fld28_3 rfl) rfl ?_
          refine RunL.on rfl rfl ?_
          refine RunL.ok (OpOk.load rfl rfl rfl (Blk.out Blk.pts.left.left.left.left.left.left.left.left _ _ (by first | rfl | assumption))) rfl ?_
          refine RunL.on rfl rfl ?_
          refine RunL.call cal15 rfl (s15c hgrd.left.left.left.left.left.left.left hgal.left.left.left.left.left.left.left (by omega) (by omega) (by omega) (by omega)) rfl (fun vy34 Ay34 hy34 => ?_)
          obtain ⟨rfl, ⟨y35, rfl⟩⟩ := hy34
          refine RunL.ok (OpOk.pickT rfl rfl) rfl ?_
          refine RunL.nil ?_
          refine Run.condD rfl (fun y36 => ?_) (fun y36 => ?_)
          · refine Run.seq ?_
            refine Run.region ?_
            refine RunL.ok (OpOk.assign rfl) rfl ?_
            refine RunL.nil ?_
            refine Run.ret1 Try.func3 rfl rfl ?_
            exact absurd (congrArg (fun q : Me => q.1) (hx1.symm.trans y36)) y22
          refine Run.skip ?_
          refine Run.inBlock ?_
          refine Run.region ?_
          refine RunL.ok (OpOk.move rfl) rfl ?_
          refine RunL.ok (OpOk.addN _ 1 rfl rfl rfl rfl (by omega)) rfl ?_
          refine RunL.ok (OpOk.assign rfl) rfl ?_
          refine RunL.nil ?_
          have hne : ((oa, oc, od, oe), flatB ol) ≠ ((ga, gc, gd, ge), flatB gl) := fun h => y22 (congrArg (fun q : Me => q.1) h)
          have hmd := mt_diff hne (l := l) gt
          refine Run.jump ((ih (i + 1, _, _, _, l ++ [((oa, oc, od, oe), flatB ol)], mt) ⟨by dsimp only; omega, by dsimp only; omega, hol, hmt.trans hmd.symm⟩ (by dsimp only; omega))) ⟨rfl, rfl, rfl, rfl, rfl, trivial⟩ (Grew.of (Eq.trans (frc rfl (frc rfl (frc rfl (frc (frl (frl (frl (frl (frl (frl rfl)))))) rfl)))) (congrArg (· * _) (congrArg (· * _) (congrArg (· * _) (congrArg (· * _) (asg (asg (asg (asg (asg (asg as1))))))))))) (Grew.refl _))
        refine RunL.off rfl rfl rfl rfl ?_
        refine RunL.off rfl rfl rfl rfl ?_
        refine RunL.off rfl rfl rfl rfl ?_
        refine RunL.off rfl rfl rfl rfl ?_
        refine RunL.off rfl rfl rfl rfl ?_
        refine RunL.off rfl rfl rfl rfl ?_
        refine RunL.off rfl rfl rfl rfl ?_
        refine RunL.ok (OpOk.pickF rfl rfl) rfl ?_
        refine RunL.nil ?_
        refine Run.condF rfl ?_
        refine Run.skip ?_
        refine Run.inBlock ?_
        refine Run.region ?_
        refine RunL.ok (OpOk.move rfl) rfl ?_
        refine RunL.ok (OpOk.addN _ 1 rfl rfl rfl rfl (by omega)) rfl ?_
        refine RunL.ok (OpOk.assign rfl) rfl ?_
        refine RunL.nil ?_
        have hne : ((oa, oc, od, oe), flatB ol) ≠ ((ga, gc, gd, ge), flatB gl) := fun h => y22 (congrArg (fun q : Me => q.1) h)
        have hmd := mt_diff hne (l := l) gt
        refine Run.jump ((ih (i + 1, _, _, _, l ++ [((oa, oc, od, oe), flatB ol)], mt) ⟨by dsimp only; omega, by dsimp only; omega, hol, hmt.trans hmd.symm⟩ (by dsimp only; omega))) ⟨rfl, rfl, rfl, rfl, rfl, trivial⟩ (Grew.of (Eq.trans (frc rfl (frc rfl (frc rfl (frc (frl (frl (frl (frl (frl rfl))))) rfl)))) (congrArg (· * _) (congrArg (· * _) (congrArg (· * _) (congrArg (· * _) (asg (asg (asg (asg (asg as1)))))))))) (Grew.refl _))
      · obtain ⟨ha0, ha1, ha2, ha3⟩ := atF_pos hat
        have hx1 : l.getD (((atF 0 l ((oa, oc, od, oe), flatB ol) : Nat) : Int) - 1).toNat default = ((oa, oc, od, oe), flatB ol) := by
          rw [show (((atF 0 l ((oa, oc, od, oe), flatB ol) : Nat) : Int) - 1).toNat = atF 0 l ((oa, oc, od, oe), flatB ol) - 0 - 1 by omega]
          exact ha3
        have hmn := mt_old ha1 (by omega) hx1 gt
        refine Run.seq ?_
        refine Run.seq ?_
        refine Run.region ?_
        refine RunL.ok (OpOk.move rfl) rfl ?_
        refine RunL.ok (OpOk.move rfl) rfl ?_
        refine RunL.ok (OpOk.lenR rfl rfl rd.left.left.left.left.left rfl) rfl ?_
        refine RunL.ok (OpOk.asT (OpOk.lss rfl rfl) (by omega)) rfl ?_
        refine RunL.ok (OpOk.move rfl) rfl ?_
        refine RunL.on rfl rfl ?_
        refine RunL.ok (OpOk.move rfl) rfl ?_
        refine RunL.on rfl rfl ?_
        refine RunL.ok (OpOk.asT (OpOk.lss rfl rfl) (by omega)) rfl ?_
        refine RunL.ok (OpOk.pickT rfl rfl) rfl ?_
        refine RunL.nil ?_
        refine Run.condT rfl ?_
        refine Run.skip ?_
        refine Run.seq ?_
        refine Run.block ?_
        refine Run.seq ?_
        refine Run.know (fun w s => (s.conv rfl).ownRd0) (fun rdy1 => ?_)
        (apply Run.drawD [] (by rfl) (Eq.trans rfl (asg (asg rfl))); case hchk => kernel_rfl)
        refine Sd.quiet 0 _ _ rfl rfl rfl rfl rfl (QOp.ok (fun X => OpOk.move rfl)) ?_
        refine Sd.quiet 1 _ _ rfl rfl rfl rfl rfl (QOp.ok (fun X => OpOk.move rfl)) ?_
        refine Sd.quiet 2 _ _ rfl rfl rfl rfl rfl (QOp.ok (fun X => OpOk.move rfl)) ?_
        refine Sd.quiet 3 _ _ rfl rfl rfl rfl rfl (QOp.ok (fun X => OpOk.idxN rfl ti28 rfl rd.left.left.left.left rfl (by omega))) ?_
        refine Sd.quiet 4 _ _ rfl rfl rfl rfl rfl (QOp.ok (fun X => OpOk.fieldAddrA fld28_2 rfl)) ?_
        refine Sd.quiet 5 _ _ rfl rfl rfl rfl rfl (QOp.ok (fun X => OpOk.loadFlGE hoe _ rfl rfl ti25 rfl rd.left.left.left.left (fun _ => rfl) (by omega) (by omega) rfl rfl)) ?_
        refine Sd.quiet 6 _ _ rfl rfl rfl rfl rfl (QOp.ok (fun X => OpOk.move rfl)) ?_
        refine Sd.quiet 7 _ _ rfl rfl rfl rfl rfl (QOp.ok (fun X => OpOk.move rfl)) ?_
        refine Sd.quiet 8 _ _ rfl rfl rfl rfl rfl (QOp.ok (fun X => OpOk.idxN rfl ti28 rfl rd.left.left.left.left rfl (by omega))) ?_
        refine Sd.quiet 9 _ _ rfl rfl rfl rfl rfl (QOp.ok (fun X => OpOk.fieldAddrA fld28_3 rfl)) ?_
        refine Sd.quiet 10 _ _ rfl rfl rfl rfl rfl (QOp.ok (fun X => OpOk.loadFl1E hoe rfl rfl rfl rd.left.left.left.left (fun _ => rfl) rfl (by omega) rfl)) ?_
        (refine Sd.exec 11 rfl rfl rfl rfl rfl ?hrest (by rfl) (fun Xy2 Ky2 hKy2 => ?_); case hrest => kernel_rfl)
        refine RunL.mem (fl2 (sep_emp _) (flS (flS rfl))) ?_
        refine RunL.call cal14 rfl (s14b hord.left.left.left hoal.left.left.left (by assumption) (by omega) (by omega)) rfl (fun vy4 Ay4 hy4 => ?_)
        obtain ⟨rfl, ⟨y5, rfl⟩⟩ := hy4
        refine Sd.ret hKy2 (Eq.trans rfl (gp2 (sep_emp _).symm (asg (asg (asg rfl))))) ⟨_, (emp_sep _).symm⟩ ?_
        refine Sd.quiet 12 _ _ rfl rfl rfl rfl rfl (QOp.ok (fun X => OpOk.assign rfl)) ?_
        (apply Sd.tail; case hall => kernel_rfl)
        refine RunL.mem (fl2 (flS (flS (flS rfl))) (sep_emp _)) ?_
        refine RunL.nil ?_
        refine Run.seq ?_
        refine Run.seq ?_
        (apply Run.drawD [] (by rfl) (Eq.trans rfl (asg (asg rfl))); case hchk => kernel_rfl)
        refine Sd.quiet 0 _ _ rfl rfl rfl rfl rfl (QOp.ok (fun X => OpOk.move rfl)) ?_
        refine Sd.quiet 1 _ _ rfl rfl rfl rfl rfl (QOp.ok (fun X => OpOk.move rfl)) ?_
        refine Sd.quiet 2 _ _ rfl rfl rfl rfl rfl (QOp.ok (fun X => OpOk.move rfl)) ?_
        refine Sd.quiet 3 _ _ rfl rfl rfl rfl rfl (QOp.ok (fun X => OpOk.move rfl)) ?_
        refine Sd.quiet 4 _ _ rfl rfl rfl rfl rfl (QOp.ok (fun X => OpOk.idxN rfl ti28 rfl rd.left.left.left.left.left rfl (by omega))) ?_
        refine Sd.quiet 5 _ _ rfl rfl rfl rfl rfl (QOp.ok (fun X => OpOk.fieldAddrA fld28_2 rfl)) ?_
        refine Sd.quiet 6 _ _ rfl rfl rfl rfl rfl (QOp.ok (fun X => OpOk.loadFlGE hoe _ rfl rfl ti25 rfl rd.left.left.left.left.left (fun _ => rfl) (by omega) (by omega) rfl rfl)) ?_
        refine Sd.quiet 7 _ _ rfl rfl rfl rfl rfl (QOp.ok (fun X => OpOk.move rfl)) ?_
        refine Sd.quiet 8 _ _ rfl rfl rfl rfl rfl (QOp.ok (fun X => OpOk.move rfl)) ?_
        refine Sd.quiet 9 _ _ rfl rfl rfl rfl rfl (QOp.ok (fun X => OpOk.idxN rfl ti28 rfl rd.left.left.left.left.left rfl (by omega))) ?_
        refine Sd.quiet 10 _ _ rfl rfl rfl rfl rfl (QOp.ok (fun X => OpOk.fieldAddrA fld28_3 rfl)) ?_
        refine Sd.quiet 11 _ _ rfl rfl rfl rfl rfl (QOp.ok (fun X => OpOk.loadFl1E hoe rfl rfl rfl rd.left.left.left.left.left (fun _ => rfl) rfl (by omega) rfl)) ?_
        (refine Sd.exec 12 rfl rfl rfl rfl rfl ?hrest (by rfl) (fun Xy6 Ky6 hKy6 => ?_); case hrest => kernel_rfl)
        refine RunL.mem (fl2 (sep_emp _) (flS (flS rfl))) ?_
        refine RunL.call cal15 rfl (s15c hord.left.left.left.left hoal.left.left.left.left (by omega) (by omega) (by omega) (by omega)) rfl (fun vy9 Ay9 hy9 => ?_)
        obtain ⟨rfl, ⟨y10, rfl⟩⟩ := hy9
        refine Sd.ret hKy6 (Eq.trans rfl (gp2 (asg (asg rfl)) rfl)) ⟨_, (emp_sep _).symm⟩ ?_
        refine Sd.quiet 13 _ _ rfl rfl rfl rfl rfl (QOp.ok (fun X => OpOk.not rfl)) ?_
        refine Sd.quiet 14 _ _ rfl rfl rfl rfl rfl (QOp.ok (fun X => OpOk.move rfl)) ?_
        refine Sd.splitBF (bnF (by first | omega | with_reducible rfl | assumption)) ?_
        refine Sd.quiet 15 _ _ rfl rfl rfl rfl rfl (QOp.ok (fun X => OpOk.move rfl)) ?_
        refine Sd.quiet 16 _ _ rfl rfl rfl rfl rfl (QOp.ok (fun X => OpOk.move rfl)) ?_
        refine Sd.quiet 17 _ _ rfl rfl rfl rfl rfl (QOp.ok (fun X => OpOk.move rfl)) ?_
        refine Sd.quiet 18 _ _ rfl rfl rfl rfl rfl (QOp.ok (fun X => OpOk.move rfl)) ?_
        refine Sd.quiet 19 _ _ rfl rfl rfl rfl rfl (QOp.ok (fun X => OpOk.idxN rfl ti28 rfl rd.left.left.left.left.left rfl (by omega))) ?_
        refine Sd.quiet 20 _ _ rfl rfl rfl rfl rfl (QOp.ok (fun X => OpOk.fieldAddrA fld28_2 rfl)) ?_
        refine Sd.quiet 21 _ _ rfl rfl rfl rfl rfl (QOp.ok (fun X => OpOk.loadFlGE hoe _ rfl rfl ti25 rfl rd.left.left.left.left.left (fun _ => rfl) (by omega) (by omega) rfl rfl)) ?_
        refine Sd.quiet 22 _ _ rfl rfl rfl rfl rfl (QOp.ok (fun X => OpOk.move rfl)) ?_
        refine Sd.quiet 23 _ _ rfl rfl rfl rfl rfl (QOp.ok (fun X => OpOk.move rfl)) ?_
        refine Sd.quiet 24 _ _ rfl rfl rfl rfl rfl (QOp.ok (fun X => OpOk.idxN rfl ti28 rfl rd.left.left.left.left.left rfl (by omega))) ?_
        refine Sd.quiet 25 _ _ rfl rfl rfl rfl rfl (QOp.ok (fun X => OpOk.fieldAddrA fld28_3 rfl)) ?_
        refine Sd.quiet 26 _ _ rfl rfl rfl rfl rfl (QOp.ok (fun X => OpOk.loadFl1E hoe rfl rfl rfl rd.left.left.left.left.left (fun _ => rfl) rfl (by omega) rfl)) ?_
        refine Sd.quiet 27 _ _ rfl rfl rfl rfl rfl (QOp.call cal16 rfl (fun X => s16 hord.left.left.left.left.left hoal.left.left.left.left.left (by omega))) ?_
        (refine Sd.exec 28 rfl rfl rfl rfl rfl ?hrest (by rfl) (fun Xy11 Ky11 hKy11 => ?_); case hrest => kernel_rfl)
        refine RunL.mem (fl2 rfl (flS (flS rfl))) ?_
        refine RunL.bytesOf0 rfl rfl rfl rfl (by first | (simp only [maxLen]; omega) | (simp [maxLen] <;> omega)) rfl (fun vy12 Jy12 rdy12 => ?_)
        refine Sd.ret hKy11 (Eq.trans (frc (frl rfl) (frc (frl rfl) (frc (frl rfl) rfl))) (gp2 (asg (asg rfl)) (asg rfl))) ⟨_, rfl⟩ ?_
        (refine Sd.exec 29 rfl rfl rfl rfl rfl ?hrest (by rfl) (fun Xy13 Ky13 hKy13 => ?_); case hrest => kernel_rfl)
        refine RunL.mem (fl2 (flS rfl) (flS (flS rfl))) ?_
        have aly14 : Alls (GB w0) _ [(vy12, flatB ol)] := (Alls.cons (GB.of rdy12) Alls.nil)
        refine RunL.litV (ls := [(vy12, flatB ol)]) (Alls.right aly14).left.left.left rfl ti37 rfl rfl rfl (by decide) rfl (fun vy14 rdy14 => ?_)
        refine RunL.know (fun w s => (s.conv rfl).ownRd0) (fun rdy15 => ?_)
        refine Sd.ret hKy13 (Eq.trans (frc (frl rfl) (frc (frl rfl) (frc (frl rfl) rfl))) (gp2 (asg (asg rfl)) (asg (asg rfl)))) ⟨_, rfl⟩ ?_
        (refine Sd.exec 30 rfl rfl rfl rfl rfl ?hrest (by rfl) (fun Xy16 Ky16 hKy16 => ?_); case hrest => kernel_rfl)
        refine RunL.mem (fl2 (flS (flS rfl)) (flS (flS rfl))) ?_
        refine RunL.call cal15 rfl (s15b (Rd.right rdy15) (Alls.right aly14).left (by omega) (by omega) (by omega) (by omega)) rfl (fun vy18 Ay18 hy18 => ?_)
        obtain ⟨rfl, ⟨y19, rfl⟩⟩ := hy18
        refine Sd.ret hKy16 (Eq.trans rfl (gp2 (sep_emp _).symm (asg (asg (asg (asg (asg (asg rfl)))))))) ⟨_, (asg (asg (asg rfl)))⟩ ?_
        refine Sd.quiet 31 _ _ rfl rfl rfl rfl rfl (QOp.ok (fun X => OpOk.not rfl)) ?_
        refine Sd.quiet 32 _ _ rfl rfl rfl rfl rfl (QOp.ok (fun X => OpOk.pickF rfl rfl)) ?_
        (apply Sd.tail; case hall => kernel_rfl)
        refine RunL.mem (fl2 (flS (flS (flS (flS (flS (flS rfl)))))) (sep_emp _)) ?_
        refine RunL.nil ?_
        refine Run.condNF rfl (by first | omega | with_reducible rfl | assumption) ?_
        refine Run.skip ?_
        refine Run.seq ?_
        (apply Run.drawD [] (by rfl) (sep_emp _).symm; case hchk => kernel_rfl)
        refine Sd.quiet 0 _ _ rfl rfl rfl rfl rfl (QOp.ok (fun X => OpOk.move rfl)) ?_
        refine Sd.quiet 1 _ _ rfl rfl rfl rfl rfl (QOp.ok (fun X => OpOk.move rfl)) ?_
        refine Sd.quiet 2 _ _ rfl rfl rfl rfl rfl (QOp.ok (fun X => OpOk.idxN rfl ti28 rfl rd.left.left.left.left.left.left.left.left.left.left.left.left rfl (by omega))) ?_
        refine Sd.quiet 3 _ _ rfl rfl rfl rfl rfl (QOp.ok (fun X => OpOk.fieldAddrA fld28_2 rfl)) ?_
        refine Sd.quiet 4 _ _ rfl rfl rfl rfl rfl (QOp.ok (fun X => OpOk.loadFlGE hoe _ rfl rfl ti25 rfl rd.left.left.left.left.left.left.left.left.left.left.left.left (fun _ => rfl) (by omega) (by omega) rfl rfl)) ?_
        refine Sd.quiet 5 _ _ rfl rfl rfl rfl rfl (QOp.ok (fun X => OpOk.fieldAddr fld28_2 rfl)) ?_
        refine Sd.quiet 6 _ _ rfl rfl rfl rfl rfl (QOp.ok (fun X => OpOk.loadSub rfl rfl ti25 rfl Blk.pts.left.left.left.left.left.left.left.left.left.left rfl rfl)) ?_
        refine Sd.quiet 7 _ _ rfl rfl rfl rfl rfl (QOp.ok (fun X => OpOk.eqlK4 (p := (oa, oc, od, oe)) (q := (ga, gc, gd, ge)) four25 rfl rfl)) ?_
        refine Sd.quiet 8 _ _ rfl rfl rfl rfl rfl (QOp.ok (fun X => OpOk.move rfl)) ?_
        refine Sd.splitD (fun y20 => ?_) (fun y20 => ?_)
        · refine Sd.quiet 9 _ _ rfl rfl rfl rfl rfl (QOp.ok (fun X => OpOk.move rfl)) ?_
          refine Sd.quiet 10 _ _ rfl rfl rfl rfl rfl (QOp.ok (fun X => OpOk.move rfl)) ?_
          refine Sd.quiet 11 _ _ rfl rfl rfl rfl rfl (QOp.ok (fun X => OpOk.idxN rfl ti28 rfl rd.left.left.left.left.left.left.left.left.left.left.left.left rfl (by omega))) ?_
          refine Sd.quiet 12 _ _ rfl rfl rfl rfl rfl (QOp.ok (fun X => OpOk.fieldAddrA fld28_3 rfl)) ?_
          refine Sd.quiet 13 _ _ rfl rfl rfl rfl rfl (QOp.ok (fun X => OpOk.loadFl1E hoe rfl rfl rfl rd.left.left.left.left.left.left.left.left.left.left.left.left (fun _ => rfl) rfl (by omega) rfl)) ?_
          refine Sd.quiet 14 _ _ rfl rfl rfl rfl rfl (QOp.call cal16 rfl (fun X => s16 hord.left.left.left.left.left.left.left.left.left.left.left.left hoal.left.left.left.left.left.left.left.left.left.left.left.left (by omega))) ?_
          refine Sd.quiet 15 _ _ rfl rfl rfl rfl rfl (QOp.ok (fun X => OpOk.fieldAddr fld28_3 rfl)) ?_
          refine Sd.quiet 16 _ _ rfl rfl rfl rfl rfl (QOp.ok (fun X => OpOk.load rfl rfl rfl (Blk.out Blk.pts.left.left.left.left.left.left.left.left.left.left _ _ (by first | rfl | assumption)))) ?_
          refine Sd.quiet 17 _ _ rfl rfl rfl rfl rfl (QOp.call cal16 rfl (fun X => s16 hgrd.left.left.left.left.left.left.left.left.left.left.left.left hgal.left.left.left.left.left.left.left.left.left.left.left.left (by omega))) ?_
          refine Sd.quiet 18 _ _ rfl rfl rfl rfl rfl (QOp.ok (fun X => OpOk.eqlSS rfl rfl)) ?_
          refine Sd.quiet 19 _ _ rfl rfl rfl rfl rfl (QOp.ok (fun X => OpOk.pickT rfl rfl)) ?_
          refine Sd.quiet 20 _ _ rfl rfl rfl rfl rfl (QOp.ok (fun X => OpOk.assign rfl)) ?_
          (apply Sd.tail; case hall => kernel_rfl)
          refine RunL.mem (fl2 (sep_emp _) (sep_emp _)) ?_
          refine RunL.nil ?_
          refine Run.seq ?_
          refine Run.region ?_
          refine RunL.ok (OpOk.move rfl) rfl ?_
          refine RunL.nil ?_
          refine Run.condD rfl (fun y21 => ?_) (fun y21 => ?_)
          · refine Run.region ?_
            refine RunL.ok (OpOk.move rfl) rfl ?_
            refine RunL.ok (OpOk.move rfl) rfl ?_
            refine RunL.splitB (t := 91) rfl (fun y22 => ?_) (fun y22 => ?_)
            · refine RunL.off rfl rfl rfl rfl ?_
              refine RunL.off rfl rfl rfl rfl ?_
              refine RunL.off rfl rfl rfl rfl ?_
              refine RunL.off rfl rfl rfl rfl ?_
              refine RunL.ok (OpOk.pickT rfl rfl) rfl ?_
              refine RunL.ok (OpOk.assign rfl) rfl ?_
              refine RunL.nil ?_
              refine Run.inBlock ?_
              refine Run.region ?_
              refine RunL.ok (OpOk.move rfl) rfl ?_
              refine RunL.ok (OpOk.addN _ 1 rfl rfl rfl rfl (by omega)) rfl ?_
              refine RunL.ok (OpOk.assign rfl) rfl ?_
              refine RunL.nil ?_
              have hsame : ((oa, oc, od, oe), flatB ol) = ((ga, gc, gd, ge), flatB gl) := Prod.ext y20 y21
              have hmn3 : decide (holdsP l gt ((ga, gc, gd, ge), flatB gl)) = (mt || decide (((atF 0 l ((oa, oc, od, oe), flatB ol) : Nat) : Int) = gt)) := by
                rw [hmt]
                rw [hsame] at hmn ⊢
                exact hmn
              rw [y22] at hmn3
              refine Run.jump ((ih (i + 1, _, _, _, l, true) ⟨by dsimp only; omega, by dsimp only; omega, by dsimp only; omega, by dsimp only; rw [hmn3]; rfl⟩ (by dsimp only; omega))) ⟨rfl, rfl, rfl, rfl, rfl, trivial⟩ (Grew.of (Eq.trans (frc rfl (frc rfl (frc rfl (frc (frl (frl (frl (frl (frl rfl))))) rfl)))) (congrArg (· * _) (congrArg (· * _) (congrArg (· * _) (congrArg (· * _) (asg (asg (asg (asg (asg as1)))))))))) (Grew.refl _))
            refine RunL.on rfl rfl ?_
            refine RunL.ok (OpOk.move rfl) rfl ?_
            refine RunL.on rfl rfl ?_
            refine RunL.ok (OpOk.fieldAddr fld28_1 rfl) rfl ?_
            refine RunL.on rfl rfl ?_
            refine RunL.ok (OpOk.load rfl rfl rfl (Blk.out Blk.pts.left.left.left.left.left.left.left.left _ _ (by first | rfl | assumption))) rfl ?_
            refine RunL.on rfl rfl ?_
            refine RunL.ok (OpOk.eql rfl rfl) rfl ?_
            refine RunL.ok (OpOk.pickF rfl rfl) rfl ?_
            refine RunL.ok (OpOk.assign rfl) rfl ?_
            refine RunL.nil ?_
            refine Run.inBlock ?_
            refine Run.region ?_
            refine RunL.ok (OpOk.move rfl) rfl ?_
            refine RunL.ok (OpOk.addN _ 1 rfl rfl rfl rfl (by omega)) rfl ?_
            refine RunL.ok (OpOk.assign rfl) rfl ?_
            refine RunL.nil ?_
            have hsame : ((oa, oc, od, oe), flatB ol) = ((ga, gc, gd, ge), flatB gl) := Prod.ext y20 y21
            have hmn3 : decide (holdsP l gt ((ga, gc, gd, ge), flatB gl)) = (mt || decide (((atF 0 l ((oa, oc, od, oe), flatB ol) : Nat) : Int) = gt)) := by
              rw [hmt]
              rw [hsame] at hmn ⊢
              exact hmn
            rw [y22] at hmn3
            refine Run.jump ((ih (i + 1, _, _, _, l, decide (((atF 0 l ((oa, oc, od, oe), flatB ol) : Nat) : Int) = gt)) ⟨by dsimp only; omega, by dsimp only; omega, by dsimp only; omega, by dsimp only; rw [hmn3]; rfl⟩ (by dsimp only; omega))) ⟨rfl, rfl, rfl, rfl, rfl, trivial⟩ (Grew.of (Eq.trans (frc rfl (frc rfl (frc rfl (frc (frl (frl (frl (frl (frl rfl))))) rfl)))) (congrArg (· * _) (congrArg (· * _) (congrArg (· * _) (congrArg (· * _) (asg (asg (asg (asg (asg as1)))))))))) (Grew.refl _))
          refine Run.seq ?_
          refine Run.region ?_
          refine RunL.ok (OpOk.move rfl) rfl ?_
          refine RunL.ok (OpOk.fieldAddr fld28_1 rfl) rfl ?_
          refine RunL.ok (OpOk.load rfl rfl rfl (Blk.out Blk.pts.left.left.left.left.left.left.left.left _ _ (by first | rfl | assumption))) rfl ?_
          refine RunL.ok (OpOk.eql rfl rfl) rfl ?_
          refine RunL.ok (OpOk.move rfl) rfl ?_
          refine RunL.splitD (t := 101) rfl (fun y23 => ?_) (fun y23 => ?_)
          · refine RunL.on rfl rfl ?_
            refine RunL.ok (OpOk.move rfl) rfl ?_
            refine RunL.on rfl rfl ?_
            refine RunL.ok (OpOk.move rfl) rfl ?_
            refine RunL.on rfl rfl ?_
            refine RunL.ok (OpOk.fieldAddr fld28_2 rfl) rfl ?_
            refine RunL.on rfl rfl ?_
            refine RunL.ok (OpOk.loadSub rfl rfl ti25 rfl Blk.pts.left.left.left.left.left.left.left.left rfl rfl) rfl ?_
            refine RunL.on rfl rfl ?_
            refine RunL.ok (OpOk.fieldAddr fld28_3 rfl) rfl ?_
            refine RunL.on rfl rfl ?_
            refine RunL.ok (OpOk.load rfl rfl rfl (Blk.out Blk.pts.left.left.left.left.left.left.left.left _ _ (by first | rfl | assumption))) rfl ?_
            refine RunL.on rfl rfl ?_
            refine RunL.call cal15 rfl (s15c hgrd.left.left.left.left.left.left.left hgal.left.left.left.left.left.left.left (by omega) (by omega) (by omega) (by omega)) rfl (fun vy26 Ay26 hy26 => ?_)
            obtain ⟨rfl, ⟨y27, rfl⟩⟩ := hy26
            refine RunL.ok (OpOk.pickT rfl rfl) rfl ?_
            refine RunL.nil ?_
            refine Run.condD rfl (fun y28 => ?_) (fun y28 => ?_)
            · refine Run.seq ?_
              refine Run.region ?_
              refine RunL.ok (OpOk.assign rfl) rfl ?_
              refine RunL.nil ?_
              refine Run.ret1 Try.func3 rfl rfl ?_
              exact absurd (congrArg (fun q : Me => q.2) (hx1.symm.trans y28)) y21
            refine Run.skip ?_
            refine Run.inBlock ?_
            refine Run.region ?_
            refine RunL.ok (OpOk.move rfl) rfl ?_
            refine RunL.ok (OpOk.addN _ 1 rfl rfl rfl rfl (by omega)) rfl ?_
            refine RunL.ok (OpOk.assign rfl) rfl ?_
            refine RunL.nil ?_
            refine Run.jump ((ih (i + 1, _, _, _, l, mt) ⟨by dsimp only; omega, by dsimp only; omega, by dsimp only; omega, hmt⟩ (by dsimp only; omega))) ⟨rfl, rfl, rfl, rfl, rfl, trivial⟩ (Grew.of (frc (frl (frl (frl rfl))) (frc (frl (frl (frl rfl))) (frc (frl (frl (frl rfl))) (frc (frl (frl (frl rfl))) (frc (frl (frl (frl rfl))) (frc (frl (frl (frl rfl))) rfl)))))) (Grew.mul (Grew.mul (Grew.mul (Grew.mul (Grew.mul (Grew.mul (Grew.refl _) _) _) _) _) _) _))
          refine RunL.off rfl rfl rfl rfl ?_
          refine RunL.off rfl rfl rfl rfl ?_
          refine RunL.off rfl rfl rfl rfl ?_
          refine RunL.off rfl rfl rfl rfl ?_
          refine RunL.off rfl rfl rfl rfl ?_
          refine RunL.off rfl rfl rfl rfl ?_
          refine RunL.off rfl rfl rfl rfl ?_
          refine RunL.ok (OpOk.pickF rfl rfl) rfl ?_
          refine RunL.nil ?_
          refine Run.condF rfl ?_
          refine Run.skip ?_
          refine Run.inBlock ?_
          refine Run.region ?_
          refine RunL.ok (OpOk.move rfl) rfl ?_
          refine RunL.ok (OpOk.addN _ 1 rfl rfl rfl rfl (by omega)) rfl ?_
          refine RunL.ok (OpOk.assign rfl) rfl ?_
          refine RunL.nil ?_
          refine Run.jump ((ih (i + 1, _, _, _, l, mt) ⟨by dsimp only; omega, by dsimp only; omega, by dsimp only; omega, hmt⟩ (by dsimp only; omega))) ⟨rfl, rfl, rfl, rfl, rfl, trivial⟩ (Grew.of (frc (frl (frl (frl rfl))) (frc (frl (frl (frl rfl))) (frc (frl (frl (frl rfl))) (frc (frl (frl (frl rfl))) (frc (frl (frl (frl rfl))) rfl))))) (Grew.mul (Grew.mul (Grew.mul (Grew.mul (Grew.mul (Grew.refl _) _) _) _) _) _))
        refine Sd.skip 9 _ rfl rfl rfl rfl rfl ?_
        refine Sd.skip 10 _ rfl rfl rfl rfl rfl ?_
        refine Sd.skip 11 _ rfl rfl rfl rfl rfl ?_
        refine Sd.skip 12 _ rfl rfl rfl rfl rfl ?_
        refine Sd.skip 13 _ rfl rfl rfl rfl rfl ?_
        refine Sd.skip 14 _ rfl rfl rfl rfl rfl ?_
        refine Sd.skip 15 _ rfl rfl rfl rfl rfl ?_
        refine Sd.skip 16 _ rfl rfl rfl rfl rfl ?_
        refine Sd.skip 17 _ rfl rfl rfl rfl rfl ?_
        refine Sd.skip 18 _ rfl rfl rfl rfl rfl ?_
        refine Sd.quiet 19 _ _ rfl rfl rfl rfl rfl (QOp.ok (fun X => OpOk.pickF rfl rfl)) ?_
        refine Sd.quiet 20 _ _ rfl rfl rfl rfl rfl (QOp.ok (fun X => OpOk.assign rfl)) ?_
        (apply Sd.tail; case hall => kernel_rfl)
        refine RunL.mem (fl2 (sep_emp _) (sep_emp _)) ?_
        refine RunL.nil ?_
        refine Run.seq ?_
        refine Run.region ?_
        refine RunL.ok (OpOk.move rfl) rfl ?_
        refine RunL.nil ?_
        refine Run.condF rfl ?_
        refine Run.seq ?_
        refine Run.region ?_
        refine RunL.ok (OpOk.move rfl) rfl ?_
        refine RunL.ok (OpOk.fieldAddr fld28_1 rfl) rfl ?_
        refine RunL.ok (OpOk.load rfl rfl rfl (Blk.out Blk.pts.left.left.left.left.left.left.left.left _ _ (by first | rfl | assumption))) rfl ?_
        refine RunL.ok (OpOk.eql rfl rfl) rfl ?_
        refine RunL.ok (OpOk.move rfl) rfl ?_
        refine RunL.splitD (t := 101) rfl (fun y29 => ?_) (fun y29 => ?_)
        · refine RunL.on rfl rfl ?_
          refine RunL.ok (OpOk.move rfl) rfl ?_
          refine RunL.on rfl rfl ?_
          refine RunL.ok (OpOk.move rfl) rfl ?_
          refine RunL.on rfl rfl ?_
          refine RunL.ok (OpOk.fieldAddr fld28_2 rfl) rfl ?_
          refine RunL.on rfl rfl ?_
          refine RunL.ok (OpOk.loadSub rfl rfl ti25 rfl Blk.pts.left.left.left.left.left.left.left.left rfl rfl) rfl ?_
          refine RunL.on rfl rfl ?_
          refine RunL.ok (OpOk.fieldAddr fld28_3 rfl) rfl ?_
          refine RunL.on rfl rfl ?_
          refine RunL.ok (OpOk.load rfl rfl rfl (Blk.out Blk.pts.left.left.left.left.left.left.left.left _ _ (by first | rfl | assumption))) rfl ?_
          refine RunL.on rfl rfl ?_
          refine RunL.call cal15 rfl (s15c hgrd.left.left.left.left.left.left.left hgal.left.left.left.left.left.left.left (by omega) (by omega) (by omega) (by omega)) rfl (fun vy32 Ay32 hy32 => ?_)
          obtain ⟨rfl, ⟨y33, rfl⟩⟩ := hy32
          refine RunL.ok (OpOk.pickT rfl rfl) rfl ?_
          refine RunL.nil ?_
          refine Run.condD rfl (fun y34 => ?_) (fun y34 => ?_)
          · refine Run.seq ?_
            refine Run.region ?_
            refine RunL.ok (OpOk.assign rfl) rfl ?_
            refine RunL.nil ?_
            refine Run.ret1 Try.func3 rfl rfl ?_
            exact absurd (congrArg (fun q : Me => q.1) (hx1.symm.trans y34)) y20
          refine Run.skip ?_
          refine Run.inBlock ?_
          refine Run.region ?_
          refine RunL.ok (OpOk.move rfl) rfl ?_
          refine RunL.ok (OpOk.addN _ 1 rfl rfl rfl rfl (by omega)) rfl ?_
          refine RunL.ok (OpOk.assign rfl) rfl ?_
          refine RunL.nil ?_
          refine Run.jump ((ih (i + 1, _, _, _, l, mt) ⟨by dsimp only; omega, by dsimp only; omega, by dsimp only; omega, hmt⟩ (by dsimp only; omega))) ⟨rfl, rfl, rfl, rfl, rfl, trivial⟩ (Grew.of (frc (frl (frl (frl rfl))) (frc (frl (frl (frl rfl))) (frc (frl (frl (frl rfl))) (frc (frl (frl (frl rfl))) (frc (frl (frl (frl rfl))) (frc (frl (frl (frl rfl))) rfl)))))) (Grew.mul (Grew.mul (Grew.mul (Grew.mul (Grew.mul (Grew.mul (Grew.refl _) _) _) _) _) _) _))
        refine RunL.off rfl rfl rfl rfl ?_
        refine RunL.off rfl rfl rfl rfl ?_
        refine RunL.off rfl rfl rfl rfl ?_
        refine RunL.off rfl rfl rfl rfl ?_
        refine RunL.off rfl rfl rfl rfl ?_
        refine RunL.off rfl rfl rfl rfl ?_
        refine RunL.off rfl rfl rfl rfl ?_
        refine RunL.ok (OpOk.pickF rfl rfl) rfl ?_
        refine RunL.nil ?_
        refine Run.condF rfl ?_
        refine Run.skip ?_
        refine Run.inBlock ?_
        refine Run.region ?_
        refine RunL.ok (OpOk.move rfl) rfl ?_
        refine RunL.ok (OpOk.addN _ 1 rfl rfl rfl rfl (by omega)) rfl ?_
        refine RunL.ok (OpOk.assign rfl) rfl ?_
        refine RunL.nil ?_
        refine Run.jump ((ih (i + 1, _, _, _, l, mt) ⟨by dsimp only; omega, by dsimp only; omega, by dsimp only; omega, hmt⟩ (by dsimp only; omega))) ⟨rfl, rfl, rfl, rfl, rfl, trivial⟩ (Grew.of (frc (frl (frl (frl rfl))) (frc (frl (frl (frl rfl))) (frc (frl (frl (frl rfl))) (frc (frl (frl (frl rfl))) (frc (frl (frl (frl rfl))) rfl))))) (Grew.mul (Grew.mul (Grew.mul (Grew.mul (Grew.mul (Grew.refl _) _) _) _) _) _))
    · clear ih
      rcases Decidable.em (1 ≤ gt ∧ gt ≤ (l.length : Int)) with hr | hr
      · have hr1 := hr.1
        have hr2 := hr.2
        rcases Decidable.em (l.getD (gt - 1).toNat default = ((ga, gc, gd, ge), flatB gl)) with hx1 | hx1
        · rw [decide_eq_true (show holdsP l gt ((ga, gc, gd, ge), flatB gl) from ⟨hr1, hr2, hx1⟩)] at hmt
          subst hmt
          refine Run.seq ?_
          refine Run.seq ?_
          refine Run.region ?_
          refine RunL.ok (OpOk.move rfl) rfl ?_
          refine RunL.ok (OpOk.move rfl) rfl ?_
          refine RunL.ok (OpOk.lenR rfl rfl rd.left.left.left.left.left rfl) rfl ?_
          refine RunL.ok (OpOk.asT (OpOk.lss rfl rfl) (by omega)) rfl ?_
          refine RunL.ok (OpOk.move rfl) rfl ?_
          refine RunL.on rfl rfl ?_
          refine RunL.ok (OpOk.move rfl) rfl ?_
          refine RunL.on rfl rfl ?_
          refine RunL.ok (OpOk.asF (OpOk.lss rfl rfl) (by omega)) rfl ?_
          refine RunL.ok (OpOk.pickT rfl rfl) rfl ?_
          refine RunL.nil ?_
          refine Run.condF rfl ?_
          refine Run.exit rfl ?_
          refine Run.seq ?_
          refine Run.region ?_
          refine RunL.ok (OpOk.move rfl) rfl ?_
          refine RunL.ok (OpOk.fieldAddr fld28_1 rfl) rfl ?_
          refine RunL.ok (OpOk.load rfl rfl rfl (Blk.out Blk.pts.left.left.left _ _ (by first | rfl | assumption))) rfl ?_
          refine RunL.ok (OpOk.fieldAddr fld28_2 rfl) rfl ?_
          refine RunL.ok (OpOk.loadSub rfl rfl ti25 rfl Blk.pts.left.left.left rfl rfl) rfl ?_
          refine RunL.ok (OpOk.fieldAddr fld28_3 rfl) rfl ?_
          refine RunL.ok (OpOk.load rfl rfl rfl (Blk.out Blk.pts.left.left.left _ _ (by first | rfl | assumption))) rfl ?_
          refine RunL.call cal15 rfl (s15c hgrd.left.left hgal.left.left (by assumption) (by assumption) (by omega) (by omega)) rfl (fun vy3 Ay3 hy3 => ?_)
          obtain ⟨rfl, ⟨y4, rfl⟩⟩ := hy3
          refine RunL.ok (OpOk.move rfl) rfl ?_
          refine RunL.splitDT (t := 117) rfl (by first | omega | with_reducible rfl | assumption) ?_
          refine RunL.ok (OpOk.eqlB rfl rfl rfl) rfl ?_
          refine RunL.ok (OpOk.assign rfl) rfl ?_
          refine RunL.nil ?_
          refine Run.ret1 Try.func3 rfl rfl ?_
          exact ⟨rfl, ⟨_, (asg (asg (asg (asg (asg as1)))))⟩⟩
        · rw [decide_eq_false (show ¬ holdsP l gt ((ga, gc, gd, ge), flatB gl) from fun h => hx1 h.2.2)] at hmt
          subst hmt
          refine Run.seq ?_
          refine Run.seq ?_
          refine Run.region ?_
          refine RunL.ok (OpOk.move rfl) rfl ?_
          refine RunL.ok (OpOk.move rfl) rfl ?_
          refine RunL.ok (OpOk.lenR rfl rfl rd.left.left.left.left.left rfl) rfl ?_
          refine RunL.ok (OpOk.asT (OpOk.lss rfl rfl) (by omega)) rfl ?_
          refine RunL.ok (OpOk.move rfl) rfl ?_
          refine RunL.on rfl rfl ?_
          refine RunL.ok (OpOk.move rfl) rfl ?_
          refine RunL.on rfl rfl ?_
          refine RunL.ok (OpOk.asF (OpOk.lss rfl rfl) (by omega)) rfl ?_
          refine RunL.ok (OpOk.pickT rfl rfl) rfl ?_
          refine RunL.nil ?_
          refine Run.condF rfl ?_
          refine Run.exit rfl ?_
          refine Run.seq ?_
          refine Run.region ?_
          refine RunL.ok (OpOk.move rfl) rfl ?_
          refine RunL.ok (OpOk.fieldAddr fld28_1 rfl) rfl ?_
          refine RunL.ok (OpOk.load rfl rfl rfl (Blk.out Blk.pts.left.left.left _ _ (by first | rfl | assumption))) rfl ?_
          refine RunL.ok (OpOk.fieldAddr fld28_2 rfl) rfl ?_
          refine RunL.ok (OpOk.loadSub rfl rfl ti25 rfl Blk.pts.left.left.left rfl rfl) rfl ?_
          refine RunL.ok (OpOk.fieldAddr fld28_3 rfl) rfl ?_
          refine RunL.ok (OpOk.load rfl rfl rfl (Blk.out Blk.pts.left.left.left _ _ (by first | rfl | assumption))) rfl ?_
          refine RunL.call cal15 rfl (s15c hgrd.left.left hgal.left.left (by assumption) (by assumption) (by omega) (by omega)) rfl (fun vy3 Ay3 hy3 => ?_)
          obtain ⟨rfl, ⟨y4, rfl⟩⟩ := hy3
          refine RunL.ok (OpOk.move rfl) rfl ?_
          refine RunL.splitDF (t := 117) rfl (by first | omega | with_reducible rfl | assumption) ?_
          refine RunL.ok (OpOk.eqlB rfl rfl rfl) rfl ?_
          refine RunL.ok (OpOk.assign rfl) rfl ?_
          refine RunL.nil ?_
          refine Run.ret1 Try.func3 rfl rfl ?_
          exact ⟨rfl, ⟨_, (asg (asg (asg (asg (asg as1)))))⟩⟩
      · rw [decide_eq_false (show ¬ holdsP l gt ((ga, gc, gd, ge), flatB gl) from fun h => hr ⟨h.1, h.2.1⟩)] at hmt
        subst hmt
        refine Run.seq ?_
        refine Run.seq ?_
        refine Run.region ?_
        refine RunL.ok (OpOk.move rfl) rfl ?_
        refine RunL.ok (OpOk.move rfl) rfl ?_
        refine RunL.ok (OpOk.lenR rfl rfl rd.left.left.left.left.left rfl) rfl ?_
        refine RunL.ok (OpOk.asT (OpOk.lss rfl rfl) (by omega)) rfl ?_
        refine RunL.ok (OpOk.move rfl) rfl ?_
        refine RunL.on rfl rfl ?_
        refine RunL.ok (OpOk.move rfl) rfl ?_
        refine RunL.on rfl rfl ?_
        refine RunL.ok (OpOk.asF (OpOk.lss rfl rfl) (by omega)) rfl ?_
        refine RunL.ok (OpOk.pickT rfl rfl) rfl ?_
        refine RunL.nil ?_
        refine Run.condF rfl ?_
        refine Run.exit rfl ?_
        refine Run.seq ?_
        refine Run.region ?_
        refine RunL.ok (OpOk.move rfl) rfl ?_
        refine RunL.ok (OpOk.fieldAddr fld28_1 rfl) rfl ?_
        refine RunL.ok (OpOk.load rfl rfl rfl (Blk.out Blk.pts.left.left.left _ _ (by first | rfl | assumption))) rfl ?_
        refine RunL.ok (OpOk.fieldAddr fld28_2 rfl) rfl ?_
        refine RunL.ok (OpOk.loadSub rfl rfl ti25 rfl Blk.pts.left.left.left rfl rfl) rfl ?_
        refine RunL.ok (OpOk.fieldAddr fld28_3 rfl) rfl ?_
        refine RunL.ok (OpOk.load rfl rfl rfl (Blk.out Blk.pts.left.left.left _ _ (by first | rfl | assumption))) rfl ?_
        refine RunL.call cal15 rfl (s15a (by omega)) rfl (fun vy1 Ay1 hy1 => ?_)
        obtain ⟨rfl, ⟨y2, rfl⟩⟩ := hy1
        refine RunL.ok (OpOk.move rfl) rfl ?_
        refine RunL.ok (OpOk.eqlB rfl rfl rfl) rfl ?_
        refine RunL.ok (OpOk.assign rfl) rfl ?_
        refine RunL.nil ?_
        refine Run.ret1 Try.func3 rfl rfl ?_
        exact ⟨rfl, ⟨_, (asg (asg (asg (asg (asg as1)))))⟩⟩
  · clear ih
    rcases Decidable.em (1 ≤ gt ∧ gt ≤ (l.length : Int)) with hr | hr
    · have hr1 := hr.1
      have hr2 := hr.2
      rcases Decidable.em (l.getD (gt - 1).toNat default = ((ga, gc, gd, ge), flatB gl)) with hx1 | hx1
      · rw [decide_eq_true (show holdsP l gt ((ga, gc, gd, ge), flatB gl) from ⟨hr1, hr2, hx1⟩)] at hmt
        subst hmt
        refine Run.seq ?_
        refine Run.seq ?_
        refine Run.region ?_
        refine RunL.ok (OpOk.move rfl) rfl ?_
        refine RunL.ok (OpOk.move rfl) rfl ?_
        refine RunL.ok (OpOk.lenR rfl rfl rd.left.left.left.left.left rfl) rfl ?_
        refine RunL.ok (OpOk.asF (OpOk.lss rfl rfl) (by omega)) rfl ?_
        refine RunL.ok (OpOk.move rfl) rfl ?_
        refine RunL.off rfl rfl rfl rfl ?_
        refine RunL.off rfl rfl rfl rfl ?_
        refine RunL.ok (OpOk.pickF rfl rfl) rfl ?_
        refine RunL.nil ?_
        refine Run.condF rfl ?_
        refine Run.exit rfl ?_
        refine Run.seq ?_
        refine Run.region ?_
        refine RunL.ok (OpOk.move rfl) rfl ?_
        refine RunL.ok (OpOk.fieldAddr fld28_1 rfl) rfl ?_
        refine RunL.ok (OpOk.load rfl rfl rfl (Blk.out Blk.pts.left.left.left _ _ (by first | rfl | assumption))) rfl ?_
        refine RunL.ok (OpOk.fieldAddr fld28_2 rfl) rfl ?_
        refine RunL.ok (OpOk.loadSub rfl rfl ti25 rfl Blk.pts.left.left.left rfl rfl) rfl ?_
        refine RunL.ok (OpOk.fieldAddr fld28_3 rfl) rfl ?_
        refine RunL.ok (OpOk.load rfl rfl rfl (Blk.out Blk.pts.left.left.left _ _ (by first | rfl | assumption))) rfl ?_
        refine RunL.call cal15 rfl (s15c hgrd.left.left hgal.left.left (by assumption) (by assumption) (by omega) (by omega)) rfl (fun vy3 Ay3 hy3 => ?_)
        obtain ⟨rfl, ⟨y4, rfl⟩⟩ := hy3
        refine RunL.ok (OpOk.move rfl) rfl ?_
        refine RunL.splitDT (t := 117) rfl (by first | omega | with_reducible rfl | assumption) ?_
        refine RunL.ok (OpOk.eqlB rfl rfl rfl) rfl ?_
        refine RunL.ok (OpOk.assign rfl) rfl ?_
        refine RunL.nil ?_
        refine Run.ret1 Try.func3 rfl rfl ?_
        exact ⟨rfl, ⟨_, (asg (asg (asg (asg (asg as1)))))⟩⟩
      · rw [decide_eq_false (show ¬ holdsP l gt ((ga, gc, gd, ge), flatB gl) from fun h => hx1 h.2.2)] at hmt
        subst hmt
        refine Run.seq ?_
        refine Run.seq ?_
        refine Run.region ?_
        refine RunL.ok (OpOk.move rfl) rfl ?_
        refine RunL.ok (OpOk.move rfl) rfl ?_
        refine RunL.ok (OpOk.lenR rfl rfl rd.left.left.left.left.left rfl) rfl ?_
        refine RunL.ok (OpOk.asF (OpOk.lss rfl rfl) (by omega)) rfl ?_
        refine RunL.ok (OpOk.move rfl) rfl ?_
        refine RunL.off rfl rfl rfl rfl ?_
        refine RunL.off rfl rfl rfl rfl ?_
        refine RunL.ok (OpOk.pickF rfl rfl) rfl ?_
        refine RunL.nil ?_
        refine Run.condF rfl ?_
        refine Run.exit rfl ?_
        refine Run.seq ?_
        refine Run.region ?_
        refine RunL.ok (OpOk.move rfl) rfl ?_
        refine RunL.ok (OpOk.fieldAddr fld28_1 rfl) rfl ?_
        refine RunL.ok (OpOk.load rfl rfl rfl (Blk.out Blk.pts.left.left.left _ _ (by first | rfl | assumption))) rfl ?_
        refine RunL.ok (OpOk.fieldAddr fld28_2 rfl) rfl ?_
        refine RunL.ok (OpOk.loadSub rfl rfl ti25 rfl Blk.pts.left.left.left rfl rfl) rfl ?_
        refine RunL.ok (OpOk.fieldAddr fld28_3 rfl) rfl ?_
        refine RunL.ok (OpOk.load rfl rfl rfl (Blk.out Blk.pts.left.left.left _ _ (by first | rfl | assumption))) rfl ?_
        refine RunL.call cal15 rfl (s15c hgrd.left.left hgal.left.left (by assumption) (by assumption) (by omega) (by omega)) rfl (fun vy3 Ay3 hy3 => ?_)
        obtain ⟨rfl, ⟨y4, rfl⟩⟩ := hy3
        refine RunL.ok (OpOk.move rfl) rfl ?_
        refine RunL.splitDF (t := 117) rfl (by first | omega | with_reducible rfl | assumption) ?_
        refine RunL.ok (OpOk.eqlB rfl rfl rfl) rfl ?_
        refine RunL.ok (OpOk.assign rfl) rfl ?_
        refine RunL.nil ?_
        refine Run.ret1 Try.func3 rfl rfl ?_
        exact ⟨rfl, ⟨_, (asg (asg (asg (asg (asg as1)))))⟩⟩
    · rw [decide_eq_false (show ¬ holdsP l gt ((ga, gc, gd, ge), flatB gl) from fun h => hr ⟨h.1, h.2.1⟩)] at hmt
      subst hmt
      refine Run.seq ?_
      refine Run.seq ?_
      refine Run.region ?_
      refine RunL.ok (OpOk.move rfl) rfl ?_
      refine RunL.ok (OpOk.move rfl) rfl ?_
      refine RunL.ok (OpOk.lenR rfl rfl rd.left.left.left.left.left rfl) rfl ?_
      refine RunL.ok (OpOk.asF (OpOk.lss rfl rfl) (by omega)) rfl ?_
      refine RunL.ok (OpOk.move rfl) rfl ?_
      refine RunL.off rfl rfl rfl rfl ?_
      refine RunL.off rfl rfl rfl rfl ?_
      refine RunL.ok (OpOk.pickF rfl rfl) rfl ?_
      refine RunL.nil ?_
      refine Run.condF rfl ?_
      refine Run.exit rfl ?_
      refine Run.seq ?_
      refine Run.region ?_
      refine RunL.ok (OpOk.move rfl) rfl ?_
      refine RunL.ok (OpOk.fieldAddr fld28_1 rfl) rfl ?_
      refine RunL.ok (OpOk.load rfl rfl rfl (Blk.out Blk.pts.left.left.left _ _ (by first | rfl | assumption))) rfl ?_
      refine RunL.ok (OpOk.fieldAddr fld28_2 rfl) rfl ?_
      refine RunL.ok (OpOk.loadSub rfl rfl ti25 rfl Blk.pts.left.left.left rfl rfl) rfl ?_
      refine RunL.ok (OpOk.fieldAddr fld28_3 rfl) rfl ?_
      refine RunL.ok (OpOk.load rfl rfl rfl (Blk.out Blk.pts.left.left.left _ _ (by first | rfl | assumption))) rfl ?_
      refine RunL.call cal15 rfl (s15a (by omega)) rfl (fun vy1 Ay1 hy1 => ?_)
      obtain ⟨rfl, ⟨y2, rfl⟩⟩ := hy1
      refine RunL.ok (OpOk.move rfl) rfl ?_
      refine RunL.ok (OpOk.eqlB rfl rfl rfl) rfl ?_
      refine RunL.ok (OpOk.assign rfl) rfl ?_
      refine RunL.nil ?_
      refine Run.ret1 Try.func3 rfl rfl ?_
      exact ⟨rfl, ⟨_, (asg (asg (asg (asg (asg as1)))))⟩⟩
end
end Go.Proofs.Ytlmehpjcmdipmaa
