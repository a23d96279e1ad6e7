/- The law of joins, walked. -/
import Derived.Test.YtlheianbmpgefaaBiA
namespace Go.Proofs.Ytlheianbmpgefaa
open Go Go.Proofs
set_option maxRecDepth 100000
set_option maxHeartbeats 4000000
theorem bitsJoins_spec {w0 : World} {u1 u2 : Value} {a b : List (Int × Int)} (rd : Rd w0 (old w0) u1 2 a.length (Fl encF a)) (rd2 : Rd w0 (old w0) u2 2 b.length (Fl encF b)) :
    Spec Try.prog w0 7 [u1, u2] (old w0) (fun v' A' => v' = .bool true ∧ Grew (old w0) A') := by
  have hmax := rd.max
  have hmax2 := rd2.max
  refine Spec.of_run [(0, u1), (1, u2)] Try.func7 rfl (Nat.le_of_ble_eq_true rfl) (by repeat (first | exact trivial | refine ⟨rfl, ?_⟩)) ?_
  rcases Bool.eq_false_or_eq_true (a.all fitsF) with ha | ha
  · rcases Bool.eq_false_or_eq_true (b.all fitsF) with hb | hb
    · have hfa := fieldBits_le ha
      have hfb := fieldBits_le hb
      have hab : (a ++ b).all fitsF = true := by rw [List.all_append, ha, hb]; rfl
      have hfab := congrArg List.length (fieldBits_append a b)
      rw [List.length_append] at hfab
      have hpk : pack ([] ++ fieldBits a ++ fieldBits b) ((([] ++ fieldBits a ++ fieldBits b).length + 7) / 8) = pack ([] ++ fieldBits (a ++ b)) ((([] ++ fieldBits (a ++ b)).length + 7) / 8) := by
        rw [List.nil_append, List.nil_append, ← fieldBits_append]
      have hln : ([] ++ fieldBits a ++ fieldBits b).length = ([] ++ fieldBits (a ++ b)).length := by rw [List.nil_append, List.nil_append, ← fieldBits_append]
      refine Run.seq ?_
      refine Run.region ?_
      refine RunL.ok (OpOk.assign rfl) rfl ?_
      refine RunL.nil ?_
      refine Run.seq ?_
      refine Run.seq ?_
      refine Run.region ?_
      refine RunL.call cal15 rfl (s15) rfl (fun vx1 Ax1 hx1 => ?_)
      obtain ⟨x2, ⟨rfl, rfl⟩⟩ := hx1
      refine RunL.ok (OpOk.not rfl) rfl ?_
      refine RunL.ok (OpOk.move rfl) rfl ?_
      refine RunL.on rfl rfl ?_
      refine RunL.ok (OpOk.move rfl) rfl ?_
      refine RunL.on rfl rfl ?_
      refine RunL.ok (OpOk.lenR rfl rfl rd.left rfl) rfl ?_
      refine RunL.on rfl rfl ?_
      refine RunL.ok (OpOk.gtr rfl rfl) rfl ?_
      refine RunL.ok (OpOk.pickF rfl rfl) rfl ?_
      refine RunL.ok (OpOk.move rfl) rfl ?_
      refine RunL.splitD (t := 18) rfl (fun x3 => ?_) (fun x3 => ?_)
      · refine RunL.off rfl rfl rfl rfl ?_
        refine RunL.off rfl rfl rfl rfl ?_
        refine RunL.off rfl rfl rfl rfl ?_
        refine RunL.ok (OpOk.pickT rfl rfl) rfl ?_
        refine RunL.nil ?_
        refine Run.condT rfl ?_
        refine Run.seq ?_
        refine Run.region ?_
        refine RunL.call cal15 rfl (s15) rfl (fun vx4 Ax4 hx4 => ?_)
        obtain ⟨x5, ⟨rfl, rfl⟩⟩ := hx4
        refine RunL.ok (OpOk.assign rfl) rfl ?_
        refine RunL.nil ?_
        refine Run.ret1 Try.func7 rfl rfl ?_
        exact ⟨rfl, ⟨_, (asg as1)⟩⟩
      refine RunL.on rfl rfl ?_
      refine RunL.ok (OpOk.move rfl) rfl ?_
      refine RunL.on rfl rfl ?_
      refine RunL.ok (OpOk.lenR rfl rfl rd2.left rfl) rfl ?_
      refine RunL.on rfl rfl ?_
      refine RunL.ok (OpOk.gtr rfl rfl) rfl ?_
      refine RunL.ok (OpOk.pickF rfl rfl) rfl ?_
      refine RunL.nil ?_
      refine Run.condD rfl (fun x6 => ?_) (fun x6 => ?_)
      · refine Run.seq ?_
        refine Run.region ?_
        refine RunL.call cal15 rfl (s15) rfl (fun vx7 Ax7 hx7 => ?_)
        obtain ⟨x8, ⟨rfl, rfl⟩⟩ := hx7
        refine RunL.ok (OpOk.assign rfl) rfl ?_
        refine RunL.nil ?_
        refine Run.ret1 Try.func7 rfl rfl ?_
        exact ⟨rfl, ⟨_, (asg as1)⟩⟩
      refine Run.skip ?_
      refine Run.seq ?_
      refine Run.region ?_
      refine RunL.alloc ti26 rfl (fun bx9 => ?_)
      refine RunL.ent (newT26 _ _) ?_
      refine RunL.alloc ti26 rfl (fun bx10 => ?_)
      refine RunL.ent (newT26 _ _) ?_
      refine RunL.nil ?_
      refine Run.seq ?_
      refine Run.seq ?_
      refine Run.region ?_
      refine RunL.ok (OpOk.move rfl) rfl ?_
      refine RunL.mem (frc rfl (frc (frl (frl rfl)) rfl)) ?_
      refine RunL.call cal17 rfl (s17a rd.left.left.left (by assumption) (by simp; omega)) rfl (fun vx11 Ax11 hx11 => ?_)
      obtain ⟨x12, ⟨rfl, rfl⟩⟩ := hx11
      refine RunL.ok (OpOk.as (c := false) (OpOk.neq rfl rfl) (by rw [decide_eq_true (by omega)]; rfl)) rfl ?_
      refine RunL.ok (OpOk.move rfl) rfl ?_
      refine RunL.on rfl rfl ?_
      refine RunL.ok (OpOk.move rfl) rfl ?_
      refine RunL.on rfl rfl ?_
      refine RunL.call cal17 rfl (s17a rd2.left.left.left (by assumption) (by simp; omega)) rfl (fun vx13 Ax13 hx13 => ?_)
      obtain ⟨x14, ⟨rfl, rfl⟩⟩ := hx13
      refine RunL.on rfl rfl ?_
      refine RunL.ok (OpOk.as (c := false) (OpOk.neq rfl rfl) (by rw [decide_eq_true (by omega)]; rfl)) rfl ?_
      refine RunL.ok (OpOk.pickF rfl rfl) rfl ?_
      refine RunL.nil ?_
      refine Run.condF rfl ?_
      refine Run.skip ?_
      refine Run.seq ?_
      refine Run.seq ?_
      refine Run.know (fun w s => (s.conv (frl (frl (frl rfl)))).ownRd0) (fun rdx15 => ?_)
      refine Run.know (fun w s => (s.conv rfl).ownRd0) (fun rdx16 => ?_)
      (apply Run.drawL [] (by rfl) (Eq.trans (frc (frl (frl (frl rfl))) (frc (frl (frl rfl)) rfl)) (asg (asg (asg rfl)))); case hchk => kernel_rfl)
      refine St.quiet 1 _ _ rfl rfl rfl rfl (QOp.ok (fun X => OpOk.move rfl)) ?_
      refine St.quiet 3 _ _ rfl rfl rfl rfl (QOp.ok (fun X => OpOk.move rfl)) ?_
      (refine St.exec 0 rfl rfl rfl rfl ?hrest (by rfl) (fun Kx17 hKx17 => ?_); case hrest => kernel_rfl)
      refine RunL.mem (fl2 (sep_emp _) (flS (flS (flS rfl)))) ?_
      refine RunL.lit0 rfl ti31 rfl (fun vx18 rdx18 => ?_)
      refine RunL.know (fun w s => (s.conv rfl).ownRd0) (fun rdx19 => ?_)
      refine St.ret hKx17 (Eq.trans (frc (frl rfl) (frc (frl rfl) (frc (frl rfl) (frc (frl rfl) rfl)))) (gp2 (asg (asg (asg (asg rfl)))) (sep_emp _).symm)) ⟨emp, (sep_emp _).symm⟩ ?_
      (refine St.exec 2 rfl rfl rfl rfl ?hrest (by rfl) (fun Kx20 hKx20 => ?_); case hrest => kernel_rfl)
      refine RunL.mem (fl2 (sep_emp _) (flS (flS (flS (flS rfl))))) ?_
      refine RunL.appendF0 rfl ti31 rfl rfl rfl (frl (frl (frl (frl rfl)))) rd.left.left.left.left.left.left rfl (by decide) (by omega) (by simp only [maxLen]; omega) rfl (fun vx21 rdx21 => ?_)
      refine RunL.know (fun w s => (s.conv rfl).ownRd0) (fun rdx22 => ?_)
      refine St.ret hKx20 (Eq.trans (frc (frl rfl) (frc (frl rfl) (frc (frl rfl) (frc (frl rfl) rfl)))) (gp2 (asg (asg (asg (asg rfl)))) (sep_emp _).symm)) ⟨emp, (sep_emp _).symm⟩ ?_
      (refine St.exec 4 rfl rfl rfl rfl ?hrest (by rfl) (fun Kx23 hKx23 => ?_); case hrest => kernel_rfl)
      refine RunL.mem (fl2 (sep_emp _) (flS (flS (flS (flS rfl))))) ?_
      refine RunL.appendF rfl ti31 rfl rfl rfl (frl (frl (frl (frl rfl)))) rd2.left.left.left.left.left.left rfl (by decide) (by omega) (by simp only [maxLen]; omega) rfl (fun vx24 rdx24 => ?_)
      refine RunL.know (fun w s => (s.conv rfl).ownRd0) (fun rdx25 => ?_)
      refine St.ret hKx23 (Eq.trans (frc (frl (frl (frl rfl))) (frc (frl (frl (frl rfl))) (frc (frl rfl) (frc (frl rfl) rfl)))) (gp2 (asg (asg (asg rfl))) rfl)) ⟨_, (emp_sep _).symm⟩ ?_
      (refine St.exec 5 rfl rfl rfl rfl ?hrest (by rfl) (fun Kx26 hKx26 => ?_); case hrest => kernel_rfl)
      refine RunL.mem (fl2 rfl (flS (flS (flS rfl)))) ?_
      refine RunL.mem (frc (frl (frl rfl)) (frc (frl (frl rfl)) rfl)) ?_
      refine RunL.call cal17 rfl (s17a (Rd.right rdx25).left.left (by assumption) (by simp; omega)) rfl (fun vx27 Ax27 hx27 => ?_)
      obtain ⟨x28, ⟨rfl, rfl⟩⟩ := hx27
      refine RunL.know (fun w s => (s.conv rfl).ownRd0) (fun rdx29 => ?_)
      refine St.ret hKx26 (Eq.trans rfl (gp2 (asg (asg (asg rfl))) rfl)) ⟨emp, (sep_emp _).symm⟩ ?_
      refine St.quiet 6 _ _ rfl rfl rfl rfl (QOp.ok (fun X => OpOk.as (c := false) (OpOk.neq rfl rfl) (by rw [decide_eq_true (by omega)]; rfl))) ?_
      refine St.quiet 7 _ _ rfl rfl rfl rfl (QOp.ok (fun X => OpOk.move rfl)) ?_
      (refine St.exec 8 rfl rfl rfl rfl ?hrest (by rfl) (fun Kx30 hKx30 => ?_); case hrest => kernel_rfl)
      refine RunL.mem (fl2 rfl (flS (flS (flS rfl)))) ?_
      refine RunL.mem (frc (frl (frl rfl)) (frc (frl (frl rfl)) rfl)) ?_
      refine RunL.call cal19 rfl (s19 (by simp; omega)) rfl (fun vx31 Ax31 hx31 => ?_)
      obtain rfl := hx31
      refine RunL.know (fun w s => (s.conv rfl).ownRd0) (fun rdx32 => ?_)
      refine St.ret hKx30 (Eq.trans (frc (frl rfl) (frc (frl rfl) (frc (frl rfl) (frc (frl rfl) rfl)))) (gp2 (asg (asg (asg rfl))) (asg rfl))) ⟨_, rfl⟩ ?_
      refine St.quiet 9 _ _ rfl rfl rfl rfl (QOp.ok (fun X => OpOk.strOf rfl rfl rfl rfl (Rd.right (Rd.right rdx32)).left)) ?_
      (refine St.exec 10 rfl rfl rfl rfl ?hrest (by rfl) (fun Kx33 hKx33 => ?_); case hrest => kernel_rfl)
      refine RunL.mem (fl2 (flS rfl) (flS (flS (flS rfl)))) ?_
      refine RunL.mem (frc (frl (frl rfl)) (frc (frl (frl rfl)) rfl)) ?_
      refine RunL.call cal19 rfl (s19 (by simp; omega)) rfl (fun vx34 Ax34 hx34 => ?_)
      obtain rfl := hx34
      refine RunL.know (fun w s => (s.conv rfl).ownRd0) (fun rdx35 => ?_)
      refine St.ret hKx33 (Eq.trans (frc (frl rfl) (frc (frl rfl) (frc (frl rfl) (frc (frl rfl) rfl)))) (gp2 (asg (asg (asg rfl))) (asg (asg rfl)))) ⟨_, rfl⟩ ?_
      refine St.quiet 11 _ _ rfl rfl rfl rfl (QOp.ok (fun X => OpOk.strOf rfl rfl rfl rfl (Rd.right (Rd.right rdx35)).left)) ?_
      refine St.quiet 12 _ _ rfl rfl rfl rfl (QOp.ok (fun X => OpOk.as (c := false) (OpOk.neqSS rfl rfl) (by rw [decide_eq_true (by omega)]; rfl))) ?_
      refine St.quiet 13 _ _ rfl rfl rfl rfl (QOp.ok (fun X => OpOk.pickF rfl rfl)) ?_
      refine St.quiet 14 _ _ rfl rfl rfl rfl (QOp.ok (fun X => OpOk.move rfl)) ?_
      (refine St.exec 15 rfl rfl rfl rfl ?hrest (by rfl) (fun Kx36 hKx36 => ?_); case hrest => kernel_rfl)
      refine RunL.mem (fl2 (flS (flS rfl)) (flS (flS (flS rfl)))) ?_
      refine RunL.mem (frc (frl (frl rfl)) (frc (frl (frl rfl)) rfl)) ?_
      refine RunL.call cal18 rfl (s18) rfl (fun vx37 Ax37 hx37 => ?_)
      obtain ⟨rfl, rfl⟩ := hx37
      refine St.ret hKx36 (Eq.trans (frc (frl (frl rfl)) (frc (frl (frl rfl)) rfl)) (gp2 (asg (asg (asg rfl))) (asg (asg rfl)))) ⟨emp, (sep_emp _).symm⟩ ?_
      (refine St.exec 16 rfl rfl rfl rfl ?hrest (by rfl) (fun Kx38 hKx38 => ?_); case hrest => kernel_rfl)
      refine RunL.mem (fl2 (flS (flS rfl)) (flS (flS (flS rfl)))) ?_
      refine RunL.call cal18 rfl (s18) rfl (fun vx39 Ax39 hx39 => ?_)
      obtain ⟨rfl, rfl⟩ := hx39
      refine St.ret hKx38 (Eq.trans rfl (gp2 (asg (asg (asg rfl))) (asg (asg rfl)))) ⟨emp, (sep_emp _).symm⟩ ?_
      refine St.quiet 17 _ _ rfl rfl rfl rfl (QOp.ok (fun X => OpOk.as (c := false) (OpOk.neq rfl rfl) (by rw [decide_eq_true (by omega)]; rfl))) ?_
      refine St.quiet 18 _ _ rfl rfl rfl rfl (QOp.ok (fun X => OpOk.pickF rfl rfl)) ?_
      (apply St.tail; case hall => kernel_rfl)
      refine RunL.mem (fl2 (flS (flS rfl)) (flS (flS (flS rfl)))) ?_
      refine RunL.nil ?_
      refine Run.condF rfl ?_
      refine Run.skip ?_
      refine Run.seq ?_
      refine Run.region ?_
      refine RunL.mem (frc (frl (frl rfl)) (frc (frl (frl rfl)) rfl)) ?_
      refine RunL.call cal19 rfl (s19 (by simp; omega)) rfl (fun vx40 Ax40 hx40 => ?_)
      obtain rfl := hx40
      refine RunL.know (fun w s => (s.conv rfl).ownRd0) (fun rdx41 => ?_)
      refine RunL.call cal21 rfl (s21 (Rd.right rdx41) (by simp; omega)) rfl (fun vx42 Ax42 hx42 => ?_)
      obtain ⟨x43, ⟨x44, ⟨rfl, rfl⟩⟩⟩ := hx42
      refine RunL.ok (OpOk.assign rfl) rfl ?_
      refine RunL.nil ?_
      refine Run.seq ?_
      refine Run.seq ?_
      refine Run.region ?_
      refine RunL.ok (OpOk.move rfl) rfl ?_
      refine RunL.ok (OpOk.eqlPN rfl rfl) rfl ?_
      refine RunL.nil ?_
      refine Run.condF rfl ?_
      refine Run.skip ?_
      refine Run.seq ?_
      refine Run.seq ?_
      refine Run.region ?_
      refine RunL.ok (OpOk.assign rfl) rfl ?_
      refine RunL.nil ?_
      refine Run.block ?_
      rw [show [] ++ fieldBits a ++ fieldBits b = fieldBits (a ++ b) from (fieldBits_append a b).symm]
      have hpl := pack_length (fieldBits (a ++ b)) (((fieldBits (a ++ b)).length + 7) / 8)
      generalize hxs : pack (fieldBits (a ++ b)) (((fieldBits (a ++ b)).length + 7) / 8) = xs at *
      refine Run.jump ((Run.loopJ (X := Nat × Asn) (fun x => [(8, .int .i64 x.1), (7, .pointer (some ⟨x43, 0, none⟩)), (0, u1), (1, u2)]) (fun x => old w0 * x.2 * pts x43 (.cells #[x44, .int .i64 (((fieldBits ((a ++ b).take x.1)).length : Nat) : Int), .int .i64 (0)] 81 (0, 0)) * own 5 1 x44 (xs).length (B (xs))) (fun x => x.1 ≤ a.length + b.length) (fun x => a.length + b.length - x.1) (0, x2) (Nat.zero_le _) (fun x hx ih => ?_))) ⟨rfl, rfl, rfl, rfl, trivial⟩ (Grew.of (frc (frl (frl rfl)) (frc (frl (frl rfl)) (frc (frl (frl rfl)) (frc (frl (frl rfl)) (frc (frl (frl rfl)) (frc (frl (frl rfl)) (frc (frl (frl rfl)) (frc (frl (frl rfl)) (frc rfl (frc rfl rfl)))))))))) (Grew.mul (Grew.mul (Grew.mul (Grew.mul (Grew.mul (Grew.mul (Grew.mul (Grew.mul (Grew.refl _) _) _) _) _) _) _) _) _))
      obtain ⟨i, J⟩ := x
      simp only at hx ih ⊢
      have hle : (fieldBits ((a ++ b).take i)).length ≤ (fieldBits (a ++ b)).length := by
        have h := congrArg List.length (fieldBits_append ((a ++ b).take i) ((a ++ b).drop i))
        rw [List.take_append_drop, List.length_append] at h
        omega
      rcases Nat.lt_or_ge i (a.length + b.length) with hlt | hge
      · obtain ⟨h1, h2, h3⟩ := take_one (q := []) hab (show i < (a ++ b).length by rw [List.length_append]; exact hlt) (k := ((fieldBits (a ++ b)).length + 7) / 8) (by omega)
        rw [List.append_nil, hxs] at h1 h2 h3
        rcases Nat.lt_or_ge i a.length with hia | hia
        · rw [show (a ++ b).getD i default = a.getD i default by simp [List.getD_eq_getElem?_getD, List.getElem?_append_left hia]] at h1 h2 h3
          have h4 := congrArg List.length h2
          have h5 := congrArg (fun l => l.getD (Int.toNat 0) 0) h2
          simp only [List.length_singleton] at h4 h5
          have h6 : ([(a.getD i default).2] : List Int).getD (Int.toNat 0) 0 = (a.getD i default).2 := rfl
          rw [h6] at h5
          refine Run.seq ?_
          refine Run.seq ?_
          refine Run.region ?_
          refine RunL.ok (OpOk.move rfl) rfl ?_
          refine RunL.ok (OpOk.move rfl) rfl ?_
          refine RunL.ok (OpOk.lenR rfl rfl rd.left.left.left rfl) rfl ?_
          refine RunL.ok (OpOk.move rfl) rfl ?_
          refine RunL.ok (OpOk.lenR rfl rfl rd2.left.left.left rfl) rfl ?_
          refine RunL.ok (OpOk.addN _ _ rfl rfl rfl rfl (by omega)) rfl ?_
          refine RunL.ok (OpOk.asT (OpOk.lss rfl rfl) (by omega)) rfl ?_
          refine RunL.nil ?_
          refine Run.condT rfl ?_
          refine Run.skip ?_
          refine Run.seq ?_
          refine Run.block ?_
          refine Run.seq ?_
          refine Run.region ?_
          refine RunL.ok (OpOk.build rfl (fun w => run_build w 31 _ _ (by rfl))) rfl ?_
          refine RunL.alloc ti31 rfl (fun by1 => ?_)
          refine RunL.storeAll ti31 rfl rfl rfl (ones rfl) rfl rfl ?_
          refine RunL.nil ?_
          refine Run.seq ?_
          refine Run.seq ?_
          refine Run.region ?_
          refine RunL.ok (OpOk.move rfl) rfl ?_
          refine RunL.ok (OpOk.move rfl) rfl ?_
          refine RunL.ok (OpOk.lenR rfl rfl rd.left.left.left.left rfl) rfl ?_
          refine RunL.ok (OpOk.asT (OpOk.lss rfl rfl) (by omega)) rfl ?_
          refine RunL.nil ?_
          refine Run.condT rfl ?_
          refine Run.region ?_
          refine RunL.ok (OpOk.move rfl) rfl ?_
          refine RunL.ok (OpOk.move rfl) rfl ?_
          refine RunL.ok (OpOk.idxN rfl ti31 rfl rd.left.left.left.left rfl (by omega)) rfl ?_
          refine RunL.ok (OpOk.loadFl default rfl rfl ti31 rfl rd.left.left.left.left (fun _ => rfl) rfl (by omega)) rfl ?_
          refine RunL.storeAll ti31 rfl rfl rfl (ones rfl) rfl rfl ?_
          refine RunL.nil ?_
          refine Run.seq ?_
          refine Run.region ?_
          refine RunL.ok (OpOk.move rfl) rfl ?_
          refine RunL.ok (OpOk.fieldAddr fld31_0 rfl) rfl ?_
          refine RunL.ok (OpOk.load rfl rfl rfl (Blk.out Blk.pts _ _ rfl)) rfl ?_
          refine RunL.litI (xs := [(a.getD i default).fst]) rfl ti3 rfl rfl rfl (by decide) rfl (fun vy2 rdy2 => ?_)
          refine RunL.know (fun w s => (s.conv rfl).ownRd0) (fun rdy3 => ?_)
          refine RunL.mem (frc (frl (frl rfl)) (frc (frl (frl rfl)) rfl)) ?_
          refine RunL.call cal23 rfl (s23 (Rd.right rdy3) (by omega) (by omega) (by omega)) rfl (fun vy4 Ay4 hy4 => ?_)
          obtain rfl := hy4
          refine RunL.ok (OpOk.assign rfl) rfl ?_
          refine RunL.nil ?_
          refine Run.seq ?_
          refine Run.know (fun w s => (s.conv (frl rfl)).ownRd0) (fun rdy5 => ?_)
          refine Run.know (fun w s => (s.conv rfl).ownRd0) (fun rdy6 => ?_)
          (apply Run.draw [] (by rfl); case hchk => kernel_rfl)
          refine St.quiet 0 _ _ rfl rfl rfl rfl (QOp.ok (fun X => OpOk.move rfl)) ?_
          refine St.quiet 1 _ _ rfl rfl rfl rfl (QOp.ok (fun X => OpOk.lenR rfl rfl (Rd.right rdy6).left.left rfl)) ?_
          refine St.quiet 2 _ _ rfl rfl rfl rfl (QOp.ok (fun X => OpOk.as (c := false) (OpOk.neq rfl rfl) (by rw [decide_eq_true (by omega)]; rfl))) ?_
          refine St.quiet 3 _ _ rfl rfl rfl rfl (QOp.ok (fun X => OpOk.move rfl)) ?_
          refine St.quiet 4 _ _ rfl rfl rfl rfl (QOp.ok (fun X => OpOk.move rfl)) ?_
          refine St.quiet 5 _ _ rfl rfl rfl rfl (QOp.ok (fun X => OpOk.idx1 rfl ti3 rfl (Rd.right rdy6).left.left rfl (by omega) (by omega))) ?_
          refine St.quiet 6 _ _ rfl rfl rfl rfl (QOp.ok (fun X => OpOk.load rfl rfl rfl (Rd.getIE (by assumption) (Rd.right rdy6).left.left (by omega)))) ?_
          refine St.quiet 7 _ _ rfl rfl rfl rfl (QOp.ok (fun X => OpOk.fieldAddr fld31_1 rfl)) ?_
          refine St.quiet 8 _ _ rfl rfl rfl rfl (QOp.ok (fun X => OpOk.load rfl rfl rfl (Blk.out Blk.pts.left.left.left.left.left.left _ _ rfl))) ?_
          refine St.quiet 9 _ _ rfl rfl rfl rfl (QOp.ok (fun X => OpOk.as (c := false) (OpOk.neq rfl rfl) (by rw [decide_eq_true (by omega)]; rfl))) ?_
          refine St.quiet 10 _ _ rfl rfl rfl rfl (QOp.ok (fun X => OpOk.pickF rfl rfl)) ?_
          (apply St.tail; case hall => kernel_rfl)
          refine RunL.mem (fl2 (sep_emp _) (sep_emp _)) ?_
          refine RunL.nil ?_
          refine Run.condF rfl ?_
          refine Run.skip ?_
          refine Run.inBlock ?_
          refine Run.region ?_
          refine RunL.ok (OpOk.move rfl) rfl ?_
          refine RunL.ok (OpOk.addN _ 1 rfl rfl rfl rfl (by omega)) rfl ?_
          refine RunL.ok (OpOk.assign rfl) rfl ?_
          refine RunL.nil ?_
          rw [h1, h3]
          refine Run.jump ((ih (i + 1, J) (by simp; omega) (by simp; omega))) ⟨rfl, rfl, rfl, rfl, trivial⟩ (Grew.of (frc rfl (frc (frl (frl rfl)) (frc (frl (frl rfl)) rfl))) (Grew.mul (Grew.mul (Grew.mul (Grew.refl _) _) _) _))
        · rw [show (a ++ b).getD i default = b.getD (i - a.length) default by simp [List.getD_eq_getElem?_getD, List.getElem?_append_right hia]] at h1 h2 h3
          have h4 := congrArg List.length h2
          have h5 := congrArg (fun l => l.getD (Int.toNat 0) 0) h2
          simp only [List.length_singleton] at h4 h5
          have h6 : ([(b.getD (i - a.length) default).2] : List Int).getD (Int.toNat 0) 0 = (b.getD (i - a.length) default).2 := rfl
          rw [h6] at h5
          refine Run.seq ?_
          refine Run.seq ?_
          refine Run.region ?_
          refine RunL.ok (OpOk.move rfl) rfl ?_
          refine RunL.ok (OpOk.move rfl) rfl ?_
          refine RunL.ok (OpOk.lenR rfl rfl rd.left.left.left rfl) rfl ?_
          refine RunL.ok (OpOk.move rfl) rfl ?_
          refine RunL.ok (OpOk.lenR rfl rfl rd2.left.left.left rfl) rfl ?_
          refine RunL.ok (OpOk.addN _ _ rfl rfl rfl rfl (by omega)) rfl ?_
          refine RunL.ok (OpOk.asT (OpOk.lss rfl rfl) (by omega)) rfl ?_
          refine RunL.nil ?_
          refine Run.condT rfl ?_
          refine Run.skip ?_
          refine Run.seq ?_
          refine Run.block ?_
          refine Run.seq ?_
          refine Run.region ?_
          refine RunL.ok (OpOk.build rfl (fun w => run_build w 31 _ _ (by rfl))) rfl ?_
          refine RunL.alloc ti31 rfl (fun by1 => ?_)
          refine RunL.storeAll ti31 rfl rfl rfl (ones rfl) rfl rfl ?_
          refine RunL.nil ?_
          refine Run.seq ?_
          refine Run.seq ?_
          refine Run.region ?_
          refine RunL.ok (OpOk.move rfl) rfl ?_
          refine RunL.ok (OpOk.move rfl) rfl ?_
          refine RunL.ok (OpOk.lenR rfl rfl rd.left.left.left.left rfl) rfl ?_
          refine RunL.ok (OpOk.asF (OpOk.lss rfl rfl) (by omega)) rfl ?_
          refine RunL.nil ?_
          refine Run.condF rfl ?_
          refine Run.region ?_
          refine RunL.ok (OpOk.move rfl) rfl ?_
          refine RunL.ok (OpOk.move rfl) rfl ?_
          refine RunL.ok (OpOk.move rfl) rfl ?_
          refine RunL.ok (OpOk.lenR rfl rfl rd.left.left.left.left rfl) rfl ?_
          refine RunL.ok (OpOk.subN _ _ rfl rfl rfl rfl (by omega) (by omega)) rfl ?_
          refine RunL.ok (OpOk.idxN rfl ti31 rfl rd2.left.left.left.left rfl (by omega)) rfl ?_
          refine RunL.ok (OpOk.loadFl default rfl rfl ti31 rfl rd2.left.left.left.left (fun _ => rfl) rfl (by omega)) rfl ?_
          refine RunL.storeAll ti31 rfl rfl rfl (ones rfl) rfl rfl ?_
          refine RunL.nil ?_
          refine Run.seq ?_
          refine Run.region ?_
          refine RunL.ok (OpOk.move rfl) rfl ?_
          refine RunL.ok (OpOk.fieldAddr fld31_0 rfl) rfl ?_
          refine RunL.ok (OpOk.load rfl rfl rfl (Blk.out Blk.pts _ _ rfl)) rfl ?_
          refine RunL.litI (xs := [(b.getD (i - a.length) default).fst]) rfl ti3 rfl rfl rfl (by decide) rfl (fun vy2 rdy2 => ?_)
          refine RunL.know (fun w s => (s.conv rfl).ownRd0) (fun rdy3 => ?_)
          refine RunL.mem (frc (frl (frl rfl)) (frc (frl (frl rfl)) rfl)) ?_
          refine RunL.call cal23 rfl (s23 (Rd.right rdy3) (by omega) (by omega) (by omega)) rfl (fun vy4 Ay4 hy4 => ?_)
          obtain rfl := hy4
          refine RunL.ok (OpOk.assign rfl) rfl ?_
          refine RunL.nil ?_
          refine Run.seq ?_
          refine Run.know (fun w s => (s.conv (frl rfl)).ownRd0) (fun rdy5 => ?_)
          refine Run.know (fun w s => (s.conv rfl).ownRd0) (fun rdy6 => ?_)
          (apply Run.draw [] (by rfl); case hchk => kernel_rfl)
          refine St.quiet 0 _ _ rfl rfl rfl rfl (QOp.ok (fun X => OpOk.move rfl)) ?_
          refine St.quiet 1 _ _ rfl rfl rfl rfl (QOp.ok (fun X => OpOk.lenR rfl rfl (Rd.right rdy6).left.left rfl)) ?_
          refine St.quiet 2 _ _ rfl rfl rfl rfl (QOp.ok (fun X => OpOk.as (c := false) (OpOk.neq rfl rfl) (by rw [decide_eq_true (by omega)]; rfl))) ?_
          refine St.quiet 3 _ _ rfl rfl rfl rfl (QOp.ok (fun X => OpOk.move rfl)) ?_
          refine St.quiet 4 _ _ rfl rfl rfl rfl (QOp.ok (fun X => OpOk.move rfl)) ?_
          refine St.quiet 5 _ _ rfl rfl rfl rfl (QOp.ok (fun X => OpOk.idx1 rfl ti3 rfl (Rd.right rdy6).left.left rfl (by omega) (by omega))) ?_
          refine St.quiet 6 _ _ rfl rfl rfl rfl (QOp.ok (fun X => OpOk.load rfl rfl rfl (Rd.getIE (by assumption) (Rd.right rdy6).left.left (by omega)))) ?_
          refine St.quiet 7 _ _ rfl rfl rfl rfl (QOp.ok (fun X => OpOk.fieldAddr fld31_1 rfl)) ?_
          refine St.quiet 8 _ _ rfl rfl rfl rfl (QOp.ok (fun X => OpOk.load rfl rfl rfl (Blk.out Blk.pts.left.left.left.left.left.left _ _ rfl))) ?_
          refine St.quiet 9 _ _ rfl rfl rfl rfl (QOp.ok (fun X => OpOk.as (c := false) (OpOk.neq rfl rfl) (by rw [decide_eq_true (by omega)]; rfl))) ?_
          refine St.quiet 10 _ _ rfl rfl rfl rfl (QOp.ok (fun X => OpOk.pickF rfl rfl)) ?_
          (apply St.tail; case hall => kernel_rfl)
          refine RunL.mem (fl2 (sep_emp _) (sep_emp _)) ?_
          refine RunL.nil ?_
          refine Run.condF rfl ?_
          refine Run.skip ?_
          refine Run.inBlock ?_
          refine Run.region ?_
          refine RunL.ok (OpOk.move rfl) rfl ?_
          refine RunL.ok (OpOk.addN _ 1 rfl rfl rfl rfl (by omega)) rfl ?_
          refine RunL.ok (OpOk.assign rfl) rfl ?_
          refine RunL.nil ?_
          rw [h1, h3]
          refine Run.jump ((ih (i + 1, J) (by simp; omega) (by simp; omega))) ⟨rfl, rfl, rfl, rfl, trivial⟩ (Grew.of (frc rfl (frc (frl (frl rfl)) (frc (frl (frl rfl)) rfl))) (Grew.mul (Grew.mul (Grew.mul (Grew.refl _) _) _) _))
      · obtain rfl : i = a.length + b.length := by omega
        clear ih
        refine Run.seq ?_
        refine Run.seq ?_
        refine Run.region ?_
        refine RunL.ok (OpOk.move rfl) rfl ?_
        refine RunL.ok (OpOk.move rfl) rfl ?_
        refine RunL.ok (OpOk.lenR rfl rfl rd.left.left.left rfl) rfl ?_
        refine RunL.ok (OpOk.move rfl) rfl ?_
        refine RunL.ok (OpOk.lenR rfl rfl rd2.left.left.left rfl) rfl ?_
        refine RunL.ok (OpOk.addN _ _ rfl rfl rfl rfl (by omega)) rfl ?_
        refine RunL.ok (OpOk.asF (OpOk.lss rfl rfl) (by omega)) rfl ?_
        refine RunL.nil ?_
        refine Run.condF rfl ?_
        refine Run.exit rfl ?_
        refine Run.seq ?_
        refine Run.region ?_
        refine RunL.ok (OpOk.move rfl) rfl ?_
        refine RunL.call cal25 rfl (s25) rfl (fun vz1 Az1 hz1 => ?_)
        obtain ⟨rfl, rfl⟩ := hz1
        refine RunL.ok (OpOk.asT (OpOk.eql rfl rfl) (by omega)) rfl ?_
        refine RunL.ok (OpOk.assign rfl) rfl ?_
        refine RunL.nil ?_
        refine Run.ret1 Try.func7 rfl rfl ?_
        exact ⟨rfl, ⟨_, (asg (asg as1))⟩⟩
    · have hfa := fieldBits_le ha
      refine Run.seq ?_
      refine Run.region ?_
      refine RunL.ok (OpOk.assign rfl) rfl ?_
      refine RunL.nil ?_
      refine Run.seq ?_
      refine Run.seq ?_
      refine Run.region ?_
      refine RunL.call cal15 rfl (s15) rfl (fun vx1 Ax1 hx1 => ?_)
      obtain ⟨x2, ⟨rfl, rfl⟩⟩ := hx1
      refine RunL.ok (OpOk.not rfl) rfl ?_
      refine RunL.ok (OpOk.move rfl) rfl ?_
      refine RunL.on rfl rfl ?_
      refine RunL.ok (OpOk.move rfl) rfl ?_
      refine RunL.on rfl rfl ?_
      refine RunL.ok (OpOk.lenR rfl rfl rd.left rfl) rfl ?_
      refine RunL.on rfl rfl ?_
      refine RunL.ok (OpOk.gtr rfl rfl) rfl ?_
      refine RunL.ok (OpOk.pickF rfl rfl) rfl ?_
      refine RunL.ok (OpOk.move rfl) rfl ?_
      refine RunL.splitD (t := 18) rfl (fun x3 => ?_) (fun x3 => ?_)
      · refine RunL.off rfl rfl rfl rfl ?_
        refine RunL.off rfl rfl rfl rfl ?_
        refine RunL.off rfl rfl rfl rfl ?_
        refine RunL.ok (OpOk.pickT rfl rfl) rfl ?_
        refine RunL.nil ?_
        refine Run.condT rfl ?_
        refine Run.seq ?_
        refine Run.region ?_
        refine RunL.call cal15 rfl (s15) rfl (fun vx4 Ax4 hx4 => ?_)
        obtain ⟨x5, ⟨rfl, rfl⟩⟩ := hx4
        refine RunL.ok (OpOk.assign rfl) rfl ?_
        refine RunL.nil ?_
        refine Run.ret1 Try.func7 rfl rfl ?_
        exact ⟨rfl, ⟨_, (asg as1)⟩⟩
      refine RunL.on rfl rfl ?_
      refine RunL.ok (OpOk.move rfl) rfl ?_
      refine RunL.on rfl rfl ?_
      refine RunL.ok (OpOk.lenR rfl rfl rd2.left rfl) rfl ?_
      refine RunL.on rfl rfl ?_
      refine RunL.ok (OpOk.gtr rfl rfl) rfl ?_
      refine RunL.ok (OpOk.pickF rfl rfl) rfl ?_
      refine RunL.nil ?_
      refine Run.condD rfl (fun x6 => ?_) (fun x6 => ?_)
      · refine Run.seq ?_
        refine Run.region ?_
        refine RunL.call cal15 rfl (s15) rfl (fun vx7 Ax7 hx7 => ?_)
        obtain ⟨x8, ⟨rfl, rfl⟩⟩ := hx7
        refine RunL.ok (OpOk.assign rfl) rfl ?_
        refine RunL.nil ?_
        refine Run.ret1 Try.func7 rfl rfl ?_
        exact ⟨rfl, ⟨_, (asg as1)⟩⟩
      refine Run.skip ?_
      refine Run.seq ?_
      refine Run.region ?_
      refine RunL.alloc ti26 rfl (fun bx9 => ?_)
      refine RunL.ent (newT26 _ _) ?_
      refine RunL.alloc ti26 rfl (fun bx10 => ?_)
      refine RunL.ent (newT26 _ _) ?_
      refine RunL.nil ?_
      refine Run.seq ?_
      refine Run.seq ?_
      refine Run.region ?_
      refine RunL.ok (OpOk.move rfl) rfl ?_
      refine RunL.mem (frc rfl (frc (frl (frl rfl)) rfl)) ?_
      refine RunL.call cal17 rfl (s17a rd.left.left.left (by assumption) (by simp; omega)) rfl (fun vx11 Ax11 hx11 => ?_)
      obtain ⟨x12, ⟨rfl, rfl⟩⟩ := hx11
      refine RunL.ok (OpOk.as (c := false) (OpOk.neq rfl rfl) (by rw [decide_eq_true (by omega)]; rfl)) rfl ?_
      refine RunL.ok (OpOk.move rfl) rfl ?_
      refine RunL.on rfl rfl ?_
      refine RunL.ok (OpOk.move rfl) rfl ?_
      refine RunL.on rfl rfl ?_
      refine RunL.call cal17 rfl (s17b rd2.left.left.left (by assumption) (by simp; omega)) rfl (fun vx14 Ax14 hx14 => ?_)
      obtain ⟨x15, ⟨rfl, rfl⟩⟩ := hx14
      refine RunL.on rfl rfl ?_
      refine RunL.ok (OpOk.as (c := true) (OpOk.neq rfl rfl) (by rw [decide_eq_false (by omega)]; rfl)) rfl ?_
      refine RunL.ok (OpOk.pickF rfl rfl) rfl ?_
      refine RunL.nil ?_
      refine Run.condT rfl ?_
      refine Run.seq ?_
      refine Run.region ?_
      refine RunL.ok (OpOk.assign rfl) rfl ?_
      refine RunL.nil ?_
      refine Run.ret1 Try.func7 rfl rfl ?_
      exact ⟨rfl, ⟨_, (asg (asg (asg (asg as1))))⟩⟩
  · refine Run.seq ?_
    refine Run.region ?_
    refine RunL.ok (OpOk.assign rfl) rfl ?_
    refine RunL.nil ?_
    refine Run.seq ?_
    refine Run.seq ?_
    refine Run.region ?_
    refine RunL.call cal15 rfl (s15) rfl (fun vx1 Ax1 hx1 => ?_)
    obtain ⟨x2, ⟨rfl, rfl⟩⟩ := hx1
    refine RunL.ok (OpOk.not rfl) rfl ?_
    refine RunL.ok (OpOk.move rfl) rfl ?_
    refine RunL.on rfl rfl ?_
    refine RunL.ok (OpOk.move rfl) rfl ?_
    refine RunL.on rfl rfl ?_
    refine RunL.ok (OpOk.lenR rfl rfl rd.left rfl) rfl ?_
    refine RunL.on rfl rfl ?_
    refine RunL.ok (OpOk.gtr rfl rfl) rfl ?_
    refine RunL.ok (OpOk.pickF rfl rfl) rfl ?_
    refine RunL.ok (OpOk.move rfl) rfl ?_
    refine RunL.splitD (t := 18) rfl (fun x3 => ?_) (fun x3 => ?_)
    · refine RunL.off rfl rfl rfl rfl ?_
      refine RunL.off rfl rfl rfl rfl ?_
      refine RunL.off rfl rfl rfl rfl ?_
      refine RunL.ok (OpOk.pickT rfl rfl) rfl ?_
      refine RunL.nil ?_
      refine Run.condT rfl ?_
      refine Run.seq ?_
      refine Run.region ?_
      refine RunL.call cal15 rfl (s15) rfl (fun vx4 Ax4 hx4 => ?_)
      obtain ⟨x5, ⟨rfl, rfl⟩⟩ := hx4
      refine RunL.ok (OpOk.assign rfl) rfl ?_
      refine RunL.nil ?_
      refine Run.ret1 Try.func7 rfl rfl ?_
      exact ⟨rfl, ⟨_, (asg as1)⟩⟩
    refine RunL.on rfl rfl ?_
    refine RunL.ok (OpOk.move rfl) rfl ?_
    refine RunL.on rfl rfl ?_
    refine RunL.ok (OpOk.lenR rfl rfl rd2.left rfl) rfl ?_
    refine RunL.on rfl rfl ?_
    refine RunL.ok (OpOk.gtr rfl rfl) rfl ?_
    refine RunL.ok (OpOk.pickF rfl rfl) rfl ?_
    refine RunL.nil ?_
    refine Run.condD rfl (fun x6 => ?_) (fun x6 => ?_)
    · refine Run.seq ?_
      refine Run.region ?_
      refine RunL.call cal15 rfl (s15) rfl (fun vx7 Ax7 hx7 => ?_)
      obtain ⟨x8, ⟨rfl, rfl⟩⟩ := hx7
      refine RunL.ok (OpOk.assign rfl) rfl ?_
      refine RunL.nil ?_
      refine Run.ret1 Try.func7 rfl rfl ?_
      exact ⟨rfl, ⟨_, (asg as1)⟩⟩
    refine Run.skip ?_
    refine Run.seq ?_
    refine Run.region ?_
    refine RunL.alloc ti26 rfl (fun bx9 => ?_)
    refine RunL.ent (newT26 _ _) ?_
    refine RunL.alloc ti26 rfl (fun bx10 => ?_)
    refine RunL.ent (newT26 _ _) ?_
    refine RunL.nil ?_
    refine Run.seq ?_
    refine Run.seq ?_
    refine Run.region ?_
    refine RunL.ok (OpOk.move rfl) rfl ?_
    refine RunL.mem (frc rfl (frc (frl (frl rfl)) rfl)) ?_
    refine RunL.call cal17 rfl (s17b rd.left.left.left (by assumption) (by simp; omega)) rfl (fun vx12 Ax12 hx12 => ?_)
    obtain ⟨x13, ⟨rfl, rfl⟩⟩ := hx12
    refine RunL.ok (OpOk.as (c := true) (OpOk.neq rfl rfl) (by rw [decide_eq_false (by omega)]; rfl)) rfl ?_
    refine RunL.ok (OpOk.move rfl) rfl ?_
    refine RunL.off rfl rfl rfl rfl ?_
    refine RunL.off rfl rfl rfl rfl ?_
    refine RunL.off rfl rfl rfl rfl ?_
    refine RunL.ok (OpOk.pickT rfl rfl) rfl ?_
    refine RunL.nil ?_
    refine Run.condT rfl ?_
    refine Run.seq ?_
    refine Run.region ?_
    refine RunL.ok (OpOk.assign rfl) rfl ?_
    refine RunL.nil ?_
    refine Run.ret1 Try.func7 rfl rfl ?_
    exact ⟨rfl, ⟨_, (asg (asg (asg (asg as1))))⟩⟩
end Go.Proofs.Ytlheianbmpgefaa
