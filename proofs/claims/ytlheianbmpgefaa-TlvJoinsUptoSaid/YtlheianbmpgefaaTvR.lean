/- The law TlvJoins, walked. -/
import Derived.Test.YtlheianbmpgefaaTvQ
namespace Go.Proofs.Ytlheianbmpgefaa
open Go Go.Proofs
set_option maxRecDepth 100000
set_option maxHeartbeats 4000000
set_option linter.unusedSimpArgs false
theorem tagT_last : ∀ (xs : List Ee), xs ≠ [] → ∀ z : Int, tagT (strL xs) z = (xs.getD (xs.length - 1) default).1
  | [], h, _ => absurd rfl h
  | [(t, bv, bs, ev, f)], _, z => by rw [strL, tagT, strL, tagT]; rfl
  | (t, bv, bs, ev, f) :: x :: r, _, z => by
    rw [strL, tagT, tagT_last (x :: r) (by simp) t]
    simp
section
variable {w0 : World} {A : Asn}
theorem tlvJoins_spec {u u2 : Value} {xs ys : List Ee} (rd : Rd w0 (old w0) u 3 xs.length (Fl encT66 xs)) (al : Alls (GE w0) (old w0) xs) (hk : szT (strL xs)) (hm : xs.length ≤ 1048576) (rd2 : Rd w0 (old w0) u2 3 ys.length (Fl encT66 ys)) (al2 : Alls (GE w0) (old w0) ys) (hk2 : szT (strL ys)) (hm2 : ys.length ≤ 1048576) :
    Spec Try.prog w0 11 [u, u2] (old w0) (fun v' A' => v' = .bool true ∧ Grew (old w0) A') := by
  rcases hp : putT (strL xs) with ⟨out, e⟩
  have hpf : PutF (strL xs) out e := ⟨hp⟩
  have hsm := put_small hp
  rcases hq : putT (strL ys) with ⟨out2, e2⟩
  have hqf : PutF (strL ys) out2 e2 := ⟨hq⟩
  have hsm2 := put_small hq
  rcases hz : putT (appT (strL xs) (strL ys)) with ⟨out3, e3⟩
  have hzf : PutF (appT (strL xs) (strL ys)) out3 e3 := ⟨hz⟩
  have hsm3 := put_small hz
  rcases Decidable.em (e = 0 ∧ e2 = 0) with hok | hbad
  · obtain ⟨rfl, rfl⟩ := hok
    rcases Decidable.em (xs = []) with hx0 | hx0
    · have hz2 := put_app_ok hp hq (by rw [hx0, strL, tagT]; exact (put_ok hq).2.1)
      rw [hz] at hz2
      obtain ⟨rfl, rfl⟩ := Prod.mk.inj hz2
      have hxl : xs.length = 0 := by rw [hx0]; rfl
      refine Spec.of_run [(0, u), (1, u2)] Try.func11 rfl (Nat.le_of_ble_eq_true rfl) (by repeat (first | exact trivial | refine ⟨rfl, ?_⟩)) ?_
      refine Run.seq ?_
      refine Run.region ?_
      refine RunL.ok (OpOk.assign rfl) rfl ?_
      refine RunL.nil ?_
      refine Run.seq ?_
      refine Run.seq ?_
      refine Run.region ?_
      refine RunL.call cal27 rfl (s27) rfl (fun vx1 Ax1 hx1 => ?_)
      obtain ⟨x2, ⟨rfl, rfl⟩⟩ := hx1
      refine RunL.ok (OpOk.not rfl) rfl ?_
      refine RunL.nil ?_
      refine Run.condF rfl ?_
      refine Run.skip ?_
      refine Run.seq ?_
      refine Run.region ?_
      refine RunL.ok (OpOk.move rfl) rfl ?_
      refine RunL.call cal28 rfl (s28a rd.left al.left (by assumption) (by omega)) rfl (fun vx3 Ax3 hx3 => ?_)
      obtain ⟨x4, ⟨x5, ⟨x6, rfl⟩⟩⟩ := hx3
      refine RunL.know (fun w s => (s.conv rfl).ownsE0) (fun alx7 => ?_)
      refine RunL.know (fun w s => (s.conv (frl rfl)).ownRd0) (fun rdx8 => ?_)
      refine RunL.call cal29 rfl (s29a (Rd.right rdx8).left (Alls.right alx7) (by assumption) (by assumption)) rfl (fun vx9 Ax9 hx9 => ?_)
      obtain ⟨x10, ⟨x11, ⟨rfl, rfl⟩⟩⟩ := hx9
      refine RunL.ok (OpOk.move rfl) rfl ?_
      refine RunL.ok (OpOk.ext20 rfl) rfl ?_
      refine RunL.ok (OpOk.ext21 rfl) rfl ?_
      refine RunL.ok (OpOk.assign rfl) rfl ?_
      refine RunL.ok (OpOk.assign rfl) rfl ?_
      refine RunL.nil ?_
      refine Run.seq ?_
      refine Run.region ?_
      refine RunL.ok (OpOk.move rfl) rfl ?_
      refine RunL.call cal28 rfl (s28a rd2.left.left.left.left.left.left al2.left.left.left.left.left.left (by assumption) (by omega)) rfl (fun vx12 Ax12 hx12 => ?_)
      obtain ⟨x13, ⟨x14, ⟨x15, rfl⟩⟩⟩ := hx12
      refine RunL.know (fun w s => (s.conv rfl).ownsE0) (fun alx16 => ?_)
      refine RunL.know (fun w s => (s.conv (frl rfl)).ownRd0) (fun rdx17 => ?_)
      refine RunL.call cal29 rfl (s29a (Rd.right rdx17).left (Alls.right alx16) (by assumption) (by assumption)) rfl (fun vx18 Ax18 hx18 => ?_)
      obtain ⟨x19, ⟨x20, ⟨rfl, rfl⟩⟩⟩ := hx18
      refine RunL.ok (OpOk.move rfl) rfl ?_
      refine RunL.ok (OpOk.ext20 rfl) rfl ?_
      refine RunL.ok (OpOk.ext21 rfl) rfl ?_
      refine RunL.ok (OpOk.assign rfl) rfl ?_
      refine RunL.ok (OpOk.assign rfl) rfl ?_
      refine RunL.nil ?_
      refine Run.seq ?_
      refine Run.region ?_
      refine RunL.ok (OpOk.move rfl) rfl ?_
      refine RunL.call cal28 rfl (s28a rd.left.left.left.left.left.left.left.left.left.left.left al.left.left.left.left.left.left.left.left.left.left.left (by assumption) (by omega)) rfl (fun vx21 Ax21 hx21 => ?_)
      obtain ⟨x22, ⟨x23, ⟨x24, rfl⟩⟩⟩ := hx21
      refine RunL.ok (OpOk.move rfl) rfl ?_
      refine RunL.know (fun w s => (s.conv rfl).ownsE0) (fun alx25 => ?_)
      refine RunL.call cal28 rfl (s28a rd2.left.left.left.left.left.left.left.left.left.left.left.left.left.left al2.left.left.left.left.left.left.left.left.left.left.left.left.left.left (by assumption) (by omega)) rfl (fun vx26 Ax26 hx26 => ?_)
      obtain ⟨x27, ⟨x28, ⟨x29, rfl⟩⟩⟩ := hx26
      refine RunL.know (fun w s => (s.conv (frl rfl)).ownRd0) (fun rdx31 => ?_)
      have hla := congrArg lenT x24
      have hlb := congrArg lenT x29
      rw [lenT_strL, lenT_strL] at hla hlb
      have hst := strL_append x22 x27
      rw [x24, x29] at hst
      refine RunL.know (fun w s => s.ownsE0) (fun al9 => ?_)
      have alz : Alls (GE w0) (ownsE x22 * ownsE x27) (x22 ++ x27) := Alls.append alx25.left al9.right
      refine RunL.appendF rfl ti66 rfl rfl rfl (frl (frl (frl (frl rfl)))) (Rd.right rdx31).left rfl (by decide) (by omega) (by simp only [maxLen]; omega) rfl (fun vy1 rdy1 => ?_)
      refine RunL.know (fun w s => (s.conv rfl).ownRd0) (fun rdy2 => ?_)
      refine RunL.call cal29 rfl (s29a (Rd.right rdy2) (Alls.conv alz.left.left.left.left.left.left.left.left.left.left.left.left.left.left.left.left ((frc rfl (frc (frl rfl) (frc (frl rfl) (frc (frl (frl rfl)) (frc (frl (frl rfl)) (frc (frl (frl rfl)) (frc (frl (frl rfl)) (frc (frl (frl rfl)) (frc (frl (frl rfl)) (frc (frl (frl rfl)) (frc (frl (frl rfl)) (frc (frl (frl rfl)) (frc (frl (frl rfl)) (frc (frl (frl rfl)) (frc (frl (frl rfl)) (frc (frl (sep_comm _ _)) rfl)))))))))))))))) : _ = _).symm) (by assumption) (by assumption)) rfl (fun vy3 Ay3 hy3 => ?_)
      obtain ⟨y4, ⟨y5, ⟨rfl, rfl⟩⟩⟩ := hy3
      refine RunL.ok (OpOk.move rfl) rfl ?_
      refine RunL.ok (OpOk.ext20 rfl) rfl ?_
      refine RunL.ok (OpOk.ext21 rfl) rfl ?_
      refine RunL.ok (OpOk.assign rfl) rfl ?_
      refine RunL.ok (OpOk.assign rfl) rfl ?_
      refine RunL.nil ?_
      refine Run.seq ?_
      refine Run.seq ?_
      refine Run.region ?_
      refine RunL.ok (OpOk.move rfl) rfl ?_
      refine RunL.ok (OpOk.as (c := false) (OpOk.neq rfl rfl) (by rw [decide_eq_true (by omega)]; rfl)) rfl ?_
      refine RunL.ok (OpOk.move rfl) rfl ?_
      refine RunL.on rfl rfl ?_
      refine RunL.ok (OpOk.move rfl) rfl ?_
      refine RunL.on rfl rfl ?_
      refine RunL.ok (OpOk.as (c := false) (OpOk.neq rfl rfl) (by rw [decide_eq_true (by omega)]; rfl)) rfl ?_
      refine RunL.ok (OpOk.pickF rfl rfl) rfl ?_
      refine RunL.nil ?_
      refine Run.condF rfl ?_
      refine Run.skip ?_
      refine Run.seq ?_
      refine Run.seq ?_
      refine Run.know (fun w s => (s.conv (frl (frl (frl (frl (frl (frl (frl (frl (frl (frl (frl (frl (frl rfl)))))))))))))).ownRd0) (fun rdy6 => ?_)
      refine Run.know (fun w s => (s.conv (frl (frl (frl (frl (frl (frl (frl (frl rfl))))))))).ownRd0) (fun rdy7 => ?_)
      refine Run.know (fun w s => (s.conv rfl).ownRd0) (fun rdy8 => ?_)
      (apply Run.drawD [] (by rfl) (sep_emp _).symm; case hchk => kernel_rfl)
      refine Sd.quiet 0 _ _ rfl rfl rfl rfl rfl (QOp.ok (fun X => OpOk.move rfl)) ?_
      refine Sd.quiet 1 _ _ rfl rfl rfl rfl rfl (QOp.ok (fun X => OpOk.lenR rfl rfl rd.left.left.left.left.left.left.left.left.left.left.left.left.left.left.left.left.left.left.left.left.left rfl)) ?_
      refine Sd.quiet 2 _ _ rfl rfl rfl rfl rfl (QOp.ok (fun X => OpOk.asF (OpOk.gtr rfl rfl) (by omega))) ?_
      refine Sd.quiet 3 _ _ rfl rfl rfl rfl rfl (QOp.ok (fun X => OpOk.move rfl)) ?_
      refine Sd.skip 4 _ rfl rfl rfl rfl rfl ?_
      refine Sd.skip 5 _ rfl rfl rfl rfl rfl ?_
      refine Sd.skip 6 _ rfl rfl rfl rfl rfl ?_
      refine Sd.quiet 7 _ _ rfl rfl rfl rfl rfl (QOp.ok (fun X => OpOk.pickF rfl rfl)) ?_
      refine Sd.quiet 8 _ _ rfl rfl rfl rfl rfl (QOp.ok (fun X => OpOk.move rfl)) ?_
      refine Sd.skip 9 _ rfl rfl rfl rfl rfl ?_
      refine Sd.skip 10 _ rfl rfl rfl rfl rfl ?_
      refine Sd.skip 11 _ rfl rfl rfl rfl rfl ?_
      refine Sd.skip 12 _ rfl rfl rfl rfl rfl ?_
      refine Sd.skip 13 _ rfl rfl rfl rfl rfl ?_
      refine Sd.skip 14 _ rfl rfl rfl rfl rfl ?_
      refine Sd.skip 15 _ rfl rfl rfl rfl rfl ?_
      refine Sd.skip 16 _ rfl rfl rfl rfl rfl ?_
      refine Sd.skip 17 _ rfl rfl rfl rfl rfl ?_
      refine Sd.skip 18 _ rfl rfl rfl rfl rfl ?_
      refine Sd.skip 19 _ rfl rfl rfl rfl rfl ?_
      refine Sd.skip 20 _ rfl rfl rfl rfl rfl ?_
      refine Sd.quiet 21 _ _ rfl rfl rfl rfl rfl (QOp.ok (fun X => OpOk.pickF rfl rfl)) ?_
      (apply Sd.tail; case hall => kernel_rfl)
      refine RunL.mem (fl2 (sep_emp _) (sep_emp _)) ?_
      refine RunL.nil ?_
      refine Run.condF rfl ?_
      refine Run.skip ?_
      refine Run.seq ?_
      refine Run.region ?_
      refine RunL.ok (OpOk.move rfl) rfl ?_
      refine RunL.ok (OpOk.asT (OpOk.eql rfl rfl) (by omega)) rfl ?_
      refine RunL.ok (OpOk.move rfl) rfl ?_
      refine RunL.on rfl rfl ?_
      refine RunL.ok (OpOk.move rfl) rfl ?_
      refine RunL.on rfl rfl ?_
      refine RunL.ok (OpOk.strOf rfl rfl rfl rfl (Rd.right rdy8)) rfl ?_
      refine RunL.on rfl rfl ?_
      refine RunL.ok (OpOk.move rfl) rfl ?_
      refine RunL.on rfl rfl ?_
      refine RunL.ok (OpOk.strOf rfl rfl rfl rfl (Rd.right rdy6).left.left.left.left.left.left.left.left.left.left.left.left.left) rfl ?_
      refine RunL.on rfl rfl ?_
      refine RunL.ok (OpOk.move rfl) rfl ?_
      refine RunL.on rfl rfl ?_
      refine RunL.ok (OpOk.strOf rfl rfl rfl rfl (Rd.right rdy7).left.left.left.left.left.left.left.left) rfl ?_
      refine RunL.on rfl rfl ?_
      refine RunL.ok (OpOk.addSS rfl rfl (by omega)) rfl ?_
      refine RunL.on rfl rfl ?_
      refine RunL.ok (OpOk.eqlSS rfl rfl) rfl ?_
      refine RunL.ok (OpOk.pickT rfl rfl) rfl ?_
      refine RunL.ok (OpOk.assign rfl) rfl ?_
      refine RunL.nil ?_
      refine Run.ret1 Try.func11 rfl rfl ?_
      rw [decide_eq_true (by first | omega | with_reducible rfl | assumption)]
      exact ⟨rfl, ⟨_, (asg (asg (asg (asg (asg (asg (asg (asg (asg (asg (asg (asg (asg (asg (asg (asg (asg (asg as1))))))))))))))))))⟩⟩
    · obtain ⟨x0, xr, rfl⟩ : ∃ a r, xs = a :: r := by
        cases xs with
        | nil => exact absurd rfl hx0
        | cons a r => exact ⟨a, r, rfl⟩
      cases ys with
      | nil =>
        have hz2 := put_app_ok hp hq (by rw [strL]; rfl)
        rw [hz] at hz2
        obtain ⟨rfl, rfl⟩ := Prod.mk.inj hz2
        refine Spec.of_run [(0, u), (1, u2)] Try.func11 rfl (Nat.le_of_ble_eq_true rfl) (by repeat (first | exact trivial | refine ⟨rfl, ?_⟩)) ?_
        refine Run.seq ?_
        refine Run.region ?_
        refine RunL.ok (OpOk.assign rfl) rfl ?_
        refine RunL.nil ?_
        refine Run.seq ?_
        refine Run.seq ?_
        refine Run.region ?_
        refine RunL.call cal27 rfl (s27) rfl (fun vx1 Ax1 hx1 => ?_)
        obtain ⟨x2, ⟨rfl, rfl⟩⟩ := hx1
        refine RunL.ok (OpOk.not rfl) rfl ?_
        refine RunL.nil ?_
        refine Run.condF rfl ?_
        refine Run.skip ?_
        refine Run.seq ?_
        refine Run.region ?_
        refine RunL.ok (OpOk.move rfl) rfl ?_
        refine RunL.call cal28 rfl (s28a rd.left al.left (by assumption) (by omega)) rfl (fun vx3 Ax3 hx3 => ?_)
        obtain ⟨x4, ⟨x5, ⟨x6, rfl⟩⟩⟩ := hx3
        refine RunL.know (fun w s => (s.conv rfl).ownsE0) (fun alx7 => ?_)
        refine RunL.know (fun w s => (s.conv (frl rfl)).ownRd0) (fun rdx8 => ?_)
        refine RunL.call cal29 rfl (s29a (Rd.right rdx8).left (Alls.right alx7) (by assumption) (by assumption)) rfl (fun vx9 Ax9 hx9 => ?_)
        obtain ⟨x10, ⟨x11, ⟨rfl, rfl⟩⟩⟩ := hx9
        refine RunL.ok (OpOk.move rfl) rfl ?_
        refine RunL.ok (OpOk.ext20 rfl) rfl ?_
        refine RunL.ok (OpOk.ext21 rfl) rfl ?_
        refine RunL.ok (OpOk.assign rfl) rfl ?_
        refine RunL.ok (OpOk.assign rfl) rfl ?_
        refine RunL.nil ?_
        refine Run.seq ?_
        refine Run.region ?_
        refine RunL.ok (OpOk.move rfl) rfl ?_
        refine RunL.call cal28 rfl (s28a rd2.left.left.left.left.left.left al2.left.left.left.left.left.left (by assumption) (by omega)) rfl (fun vx12 Ax12 hx12 => ?_)
        obtain ⟨x13, ⟨x14, ⟨x15, rfl⟩⟩⟩ := hx12
        refine RunL.know (fun w s => (s.conv rfl).ownsE0) (fun alx16 => ?_)
        refine RunL.know (fun w s => (s.conv (frl rfl)).ownRd0) (fun rdx17 => ?_)
        refine RunL.call cal29 rfl (s29a (Rd.right rdx17).left (Alls.right alx16) (by assumption) (by assumption)) rfl (fun vx18 Ax18 hx18 => ?_)
        obtain ⟨x19, ⟨x20, ⟨rfl, rfl⟩⟩⟩ := hx18
        refine RunL.ok (OpOk.move rfl) rfl ?_
        refine RunL.ok (OpOk.ext20 rfl) rfl ?_
        refine RunL.ok (OpOk.ext21 rfl) rfl ?_
        refine RunL.ok (OpOk.assign rfl) rfl ?_
        refine RunL.ok (OpOk.assign rfl) rfl ?_
        refine RunL.nil ?_
        refine Run.seq ?_
        refine Run.region ?_
        refine RunL.ok (OpOk.move rfl) rfl ?_
        refine RunL.call cal28 rfl (s28a rd.left.left.left.left.left.left.left.left.left.left.left al.left.left.left.left.left.left.left.left.left.left.left (by assumption) (by omega)) rfl (fun vx21 Ax21 hx21 => ?_)
        obtain ⟨x22, ⟨x23, ⟨x24, rfl⟩⟩⟩ := hx21
        refine RunL.ok (OpOk.move rfl) rfl ?_
        refine RunL.know (fun w s => (s.conv rfl).ownsE0) (fun alx25 => ?_)
        refine RunL.call cal28 rfl (s28a rd2.left.left.left.left.left.left.left.left.left.left.left.left.left.left al2.left.left.left.left.left.left.left.left.left.left.left.left.left.left (by assumption) (by omega)) rfl (fun vx26 Ax26 hx26 => ?_)
        obtain ⟨x27, ⟨x28, ⟨x29, rfl⟩⟩⟩ := hx26
        refine RunL.know (fun w s => (s.conv (frl rfl)).ownRd0) (fun rdx31 => ?_)
        have hla := congrArg lenT x24
        have hlb := congrArg lenT x29
        rw [lenT_strL, lenT_strL] at hla hlb
        have hst := strL_append x22 x27
        rw [x24, x29] at hst
        refine RunL.know (fun w s => s.ownsE0) (fun al9 => ?_)
        have alz : Alls (GE w0) (ownsE x22 * ownsE x27) (x22 ++ x27) := Alls.append alx25.left al9.right
        refine RunL.appendF rfl ti66 rfl rfl rfl (frl (frl (frl (frl rfl)))) (Rd.right rdx31).left rfl (by decide) (by omega) (by simp only [maxLen]; omega) rfl (fun vy1 rdy1 => ?_)
        refine RunL.know (fun w s => (s.conv rfl).ownRd0) (fun rdy2 => ?_)
        refine RunL.call cal29 rfl (s29a (Rd.right rdy2) (Alls.conv alz.left.left.left.left.left.left.left.left.left.left.left.left.left.left.left.left ((frc rfl (frc (frl rfl) (frc (frl rfl) (frc (frl (frl rfl)) (frc (frl (frl rfl)) (frc (frl (frl rfl)) (frc (frl (frl rfl)) (frc (frl (frl rfl)) (frc (frl (frl rfl)) (frc (frl (frl rfl)) (frc (frl (frl rfl)) (frc (frl (frl rfl)) (frc (frl (frl rfl)) (frc (frl (frl rfl)) (frc (frl (frl rfl)) (frc (frl (sep_comm _ _)) rfl)))))))))))))))) : _ = _).symm) (by assumption) (by assumption)) rfl (fun vy3 Ay3 hy3 => ?_)
        obtain ⟨y4, ⟨y5, ⟨rfl, rfl⟩⟩⟩ := hy3
        refine RunL.ok (OpOk.move rfl) rfl ?_
        refine RunL.ok (OpOk.ext20 rfl) rfl ?_
        refine RunL.ok (OpOk.ext21 rfl) rfl ?_
        refine RunL.ok (OpOk.assign rfl) rfl ?_
        refine RunL.ok (OpOk.assign rfl) rfl ?_
        refine RunL.nil ?_
        refine Run.seq ?_
        refine Run.seq ?_
        refine Run.region ?_
        refine RunL.ok (OpOk.move rfl) rfl ?_
        refine RunL.ok (OpOk.as (c := false) (OpOk.neq rfl rfl) (by rw [decide_eq_true (by omega)]; rfl)) rfl ?_
        refine RunL.ok (OpOk.move rfl) rfl ?_
        refine RunL.on rfl rfl ?_
        refine RunL.ok (OpOk.move rfl) rfl ?_
        refine RunL.on rfl rfl ?_
        refine RunL.ok (OpOk.as (c := false) (OpOk.neq rfl rfl) (by rw [decide_eq_true (by omega)]; rfl)) rfl ?_
        refine RunL.ok (OpOk.pickF rfl rfl) rfl ?_
        refine RunL.nil ?_
        refine Run.condF rfl ?_
        refine Run.skip ?_
        refine Run.seq ?_
        refine Run.seq ?_
        refine Run.know (fun w s => (s.conv (frl (frl (frl (frl (frl (frl (frl (frl (frl (frl (frl (frl (frl rfl)))))))))))))).ownRd0) (fun rdy6 => ?_)
        refine Run.know (fun w s => (s.conv (frl (frl (frl (frl (frl (frl (frl (frl rfl))))))))).ownRd0) (fun rdy7 => ?_)
        refine Run.know (fun w s => (s.conv rfl).ownRd0) (fun rdy8 => ?_)
        (apply Run.drawD [] (by rfl) (sep_emp _).symm; case hchk => kernel_rfl)
        refine Sd.quiet 0 _ _ rfl rfl rfl rfl rfl (QOp.ok (fun X => OpOk.move rfl)) ?_
        refine Sd.quiet 1 _ _ rfl rfl rfl rfl rfl (QOp.ok (fun X => OpOk.lenR rfl rfl rd.left.left.left.left.left.left.left.left.left.left.left.left.left.left.left.left.left.left.left.left.left rfl)) ?_
        refine Sd.quiet 2 _ _ rfl rfl rfl rfl rfl (QOp.ok (fun X => OpOk.gtr rfl rfl)) ?_
        refine Sd.quiet 3 _ _ rfl rfl rfl rfl rfl (QOp.ok (fun X => OpOk.move rfl)) ?_
        refine Sd.splitD (fun y9 => ?_) (fun y9 => ?_)
        · refine Sd.quiet 4 _ _ rfl rfl rfl rfl rfl (QOp.ok (fun X => OpOk.move rfl)) ?_
          refine Sd.quiet 5 _ _ rfl rfl rfl rfl rfl (QOp.ok (fun X => OpOk.lenR rfl rfl rd2.left.left.left.left.left.left.left.left.left.left.left.left.left.left.left.left.left.left.left.left.left rfl)) ?_
          refine Sd.quiet 6 _ _ rfl rfl rfl rfl rfl (QOp.ok (fun X => OpOk.gtr rfl rfl)) ?_
          refine Sd.quiet 7 _ _ rfl rfl rfl rfl rfl (QOp.ok (fun X => OpOk.pickT rfl rfl)) ?_
          refine Sd.quiet 8 _ _ rfl rfl rfl rfl rfl (QOp.ok (fun X => OpOk.move rfl)) ?_
          refine Sd.skip 9 _ rfl rfl rfl rfl rfl ?_
          refine Sd.skip 10 _ rfl rfl rfl rfl rfl ?_
          refine Sd.skip 11 _ rfl rfl rfl rfl rfl ?_
          refine Sd.skip 12 _ rfl rfl rfl rfl rfl ?_
          refine Sd.skip 13 _ rfl rfl rfl rfl rfl ?_
          refine Sd.skip 14 _ rfl rfl rfl rfl rfl ?_
          refine Sd.skip 15 _ rfl rfl rfl rfl rfl ?_
          refine Sd.skip 16 _ rfl rfl rfl rfl rfl ?_
          refine Sd.skip 17 _ rfl rfl rfl rfl rfl ?_
          refine Sd.skip 18 _ rfl rfl rfl rfl rfl ?_
          refine Sd.skip 19 _ rfl rfl rfl rfl rfl ?_
          refine Sd.skip 20 _ rfl rfl rfl rfl rfl ?_
          refine Sd.quiet 21 _ _ rfl rfl rfl rfl rfl (QOp.ok (fun X => OpOk.pickF rfl rfl)) ?_
          (apply Sd.tail; case hall => kernel_rfl)
          refine RunL.mem (fl2 (sep_emp _) (sep_emp _)) ?_
          refine RunL.nil ?_
          refine Run.condF rfl ?_
          refine Run.skip ?_
          refine Run.seq ?_
          refine Run.region ?_
          refine RunL.ok (OpOk.move rfl) rfl ?_
          refine RunL.ok (OpOk.asT (OpOk.eql rfl rfl) (by omega)) rfl ?_
          refine RunL.ok (OpOk.move rfl) rfl ?_
          refine RunL.on rfl rfl ?_
          refine RunL.ok (OpOk.move rfl) rfl ?_
          refine RunL.on rfl rfl ?_
          refine RunL.ok (OpOk.strOf rfl rfl rfl rfl (Rd.right rdy8)) rfl ?_
          refine RunL.on rfl rfl ?_
          refine RunL.ok (OpOk.move rfl) rfl ?_
          refine RunL.on rfl rfl ?_
          refine RunL.ok (OpOk.strOf rfl rfl rfl rfl (Rd.right rdy6).left.left.left.left.left.left.left.left.left.left.left.left.left) rfl ?_
          refine RunL.on rfl rfl ?_
          refine RunL.ok (OpOk.move rfl) rfl ?_
          refine RunL.on rfl rfl ?_
          refine RunL.ok (OpOk.strOf rfl rfl rfl rfl (Rd.right rdy7).left.left.left.left.left.left.left.left) rfl ?_
          refine RunL.on rfl rfl ?_
          refine RunL.ok (OpOk.addSS rfl rfl (by omega)) rfl ?_
          refine RunL.on rfl rfl ?_
          refine RunL.ok (OpOk.eqlSS rfl rfl) rfl ?_
          refine RunL.ok (OpOk.pickT rfl rfl) rfl ?_
          refine RunL.ok (OpOk.assign rfl) rfl ?_
          refine RunL.nil ?_
          refine Run.ret1 Try.func11 rfl rfl ?_
          rw [decide_eq_true (by first | omega | with_reducible rfl | assumption)]
          exact ⟨rfl, ⟨_, (asg (asg (asg (asg (asg (asg (asg (asg (asg (asg (asg (asg (asg (asg (asg (asg (asg (asg as1))))))))))))))))))⟩⟩
        refine Sd.skip 4 _ rfl rfl rfl rfl rfl ?_
        refine Sd.skip 5 _ rfl rfl rfl rfl rfl ?_
        refine Sd.skip 6 _ rfl rfl rfl rfl rfl ?_
        refine Sd.quiet 7 _ _ rfl rfl rfl rfl rfl (QOp.ok (fun X => OpOk.pickF rfl rfl)) ?_
        refine Sd.quiet 8 _ _ rfl rfl rfl rfl rfl (QOp.ok (fun X => OpOk.move rfl)) ?_
        refine Sd.skip 9 _ rfl rfl rfl rfl rfl ?_
        refine Sd.skip 10 _ rfl rfl rfl rfl rfl ?_
        refine Sd.skip 11 _ rfl rfl rfl rfl rfl ?_
        refine Sd.skip 12 _ rfl rfl rfl rfl rfl ?_
        refine Sd.skip 13 _ rfl rfl rfl rfl rfl ?_
        refine Sd.skip 14 _ rfl rfl rfl rfl rfl ?_
        refine Sd.skip 15 _ rfl rfl rfl rfl rfl ?_
        refine Sd.skip 16 _ rfl rfl rfl rfl rfl ?_
        refine Sd.skip 17 _ rfl rfl rfl rfl rfl ?_
        refine Sd.skip 18 _ rfl rfl rfl rfl rfl ?_
        refine Sd.skip 19 _ rfl rfl rfl rfl rfl ?_
        refine Sd.skip 20 _ rfl rfl rfl rfl rfl ?_
        refine Sd.quiet 21 _ _ rfl rfl rfl rfl rfl (QOp.ok (fun X => OpOk.pickF rfl rfl)) ?_
        (apply Sd.tail; case hall => kernel_rfl)
        refine RunL.mem (fl2 (sep_emp _) (sep_emp _)) ?_
        refine RunL.nil ?_
        refine Run.condF rfl ?_
        refine Run.skip ?_
        refine Run.seq ?_
        refine Run.region ?_
        refine RunL.ok (OpOk.move rfl) rfl ?_
        refine RunL.ok (OpOk.asT (OpOk.eql rfl rfl) (by omega)) rfl ?_
        refine RunL.ok (OpOk.move rfl) rfl ?_
        refine RunL.on rfl rfl ?_
        refine RunL.ok (OpOk.move rfl) rfl ?_
        refine RunL.on rfl rfl ?_
        refine RunL.ok (OpOk.strOf rfl rfl rfl rfl (Rd.right rdy8)) rfl ?_
        refine RunL.on rfl rfl ?_
        refine RunL.ok (OpOk.move rfl) rfl ?_
        refine RunL.on rfl rfl ?_
        refine RunL.ok (OpOk.strOf rfl rfl rfl rfl (Rd.right rdy6).left.left.left.left.left.left.left.left.left.left.left.left.left) rfl ?_
        refine RunL.on rfl rfl ?_
        refine RunL.ok (OpOk.move rfl) rfl ?_
        refine RunL.on rfl rfl ?_
        refine RunL.ok (OpOk.strOf rfl rfl rfl rfl (Rd.right rdy7).left.left.left.left.left.left.left.left) rfl ?_
        refine RunL.on rfl rfl ?_
        refine RunL.ok (OpOk.addSS rfl rfl (by omega)) rfl ?_
        refine RunL.on rfl rfl ?_
        refine RunL.ok (OpOk.eqlSS rfl rfl) rfl ?_
        refine RunL.ok (OpOk.pickT rfl rfl) rfl ?_
        refine RunL.ok (OpOk.assign rfl) rfl ?_
        refine RunL.nil ?_
        refine Run.ret1 Try.func11 rfl rfl ?_
        rw [decide_eq_true (by first | omega | with_reducible rfl | assumption)]
        exact ⟨rfl, ⟨_, (asg (asg (asg (asg (asg (asg (asg (asg (asg (asg (asg (asg (asg (asg (asg (asg (asg (asg as1))))))))))))))))))⟩⟩
      | cons y0 yr =>
        obtain ⟨t, bv, bs, ev, f⟩ := y0
        obtain ⟨o, hoe⟩ : ∃ o, (x0 :: xr).getD ((x0 :: xr).length - 1) default = o := ⟨_, rfl⟩
        obtain ⟨t1, bv1, bs1, ev1, f1⟩ := o
        have htg := tagT_last (x0 :: xr) (by simp) 0
        rw [hoe] at htg
        dsimp only at htg
        have hoy : ((t, bv, bs, ev, f) :: yr).getD 0 default = (t, bv, bs, ev, f) := rfl
        have hxl : (x0 :: xr).length = xr.length + 1 := rfl
        have hyl : ((t, bv, bs, ev, f) :: yr).length = yr.length + 1 := rfl
        obtain ⟨⟨r1, r2, r3, r4⟩, r5, r6⟩ := right_cons (put_ok hq).2.1
        rcases Decidable.em (t ≤ t1) with htt | htt
        · have hz2 := put_app_tag hp hq (by
            rw [htg, strL, rightT, decide_eq_false (fun h => by omega)]; rfl)
          rw [hz] at hz2
          obtain ⟨rfl, rfl⟩ := Prod.mk.inj hz2
          have hgt := get_app_tag hp (show putT (.cons t bs (strip f) (strL yr)) = (out2, 0) from hq) (by rw [htg]; exact htt)
          have hsx : (out ++ out2).length ≤ 140737488351232 := by rw [List.length_append]; omega
          refine Spec.of_run [(0, u), (1, u2)] Try.func11 rfl (Nat.le_of_ble_eq_true rfl) (by repeat (first | exact trivial | refine ⟨rfl, ?_⟩)) ?_
          refine Run.seq ?_
          refine Run.region ?_
          refine RunL.ok (OpOk.assign rfl) rfl ?_
          refine RunL.nil ?_
          refine Run.seq ?_
          refine Run.seq ?_
          refine Run.region ?_
          refine RunL.call cal27 rfl (s27) rfl (fun vx1 Ax1 hx1 => ?_)
          obtain ⟨x2, ⟨rfl, rfl⟩⟩ := hx1
          refine RunL.ok (OpOk.not rfl) rfl ?_
          refine RunL.nil ?_
          refine Run.condF rfl ?_
          refine Run.skip ?_
          refine Run.seq ?_
          refine Run.region ?_
          refine RunL.ok (OpOk.move rfl) rfl ?_
          refine RunL.call cal28 rfl (s28a rd.left al.left (by assumption) (by omega)) rfl (fun vx3 Ax3 hx3 => ?_)
          obtain ⟨x4, ⟨x5, ⟨x6, rfl⟩⟩⟩ := hx3
          refine RunL.know (fun w s => (s.conv rfl).ownsE0) (fun alx7 => ?_)
          refine RunL.know (fun w s => (s.conv (frl rfl)).ownRd0) (fun rdx8 => ?_)
          refine RunL.call cal29 rfl (s29a (Rd.right rdx8).left (Alls.right alx7) (by assumption) (by assumption)) rfl (fun vx9 Ax9 hx9 => ?_)
          obtain ⟨x10, ⟨x11, ⟨rfl, rfl⟩⟩⟩ := hx9
          refine RunL.ok (OpOk.move rfl) rfl ?_
          refine RunL.ok (OpOk.ext20 rfl) rfl ?_
          refine RunL.ok (OpOk.ext21 rfl) rfl ?_
          refine RunL.ok (OpOk.assign rfl) rfl ?_
          refine RunL.ok (OpOk.assign rfl) rfl ?_
          refine RunL.nil ?_
          refine Run.seq ?_
          refine Run.region ?_
          refine RunL.ok (OpOk.move rfl) rfl ?_
          refine RunL.call cal28 rfl (s28a rd2.left.left.left.left.left.left al2.left.left.left.left.left.left (by assumption) (by omega)) rfl (fun vx12 Ax12 hx12 => ?_)
          obtain ⟨x13, ⟨x14, ⟨x15, rfl⟩⟩⟩ := hx12
          refine RunL.know (fun w s => (s.conv rfl).ownsE0) (fun alx16 => ?_)
          refine RunL.know (fun w s => (s.conv (frl rfl)).ownRd0) (fun rdx17 => ?_)
          refine RunL.call cal29 rfl (s29a (Rd.right rdx17).left (Alls.right alx16) (by assumption) (by assumption)) rfl (fun vx18 Ax18 hx18 => ?_)
          obtain ⟨x19, ⟨x20, ⟨rfl, rfl⟩⟩⟩ := hx18
          refine RunL.ok (OpOk.move rfl) rfl ?_
          refine RunL.ok (OpOk.ext20 rfl) rfl ?_
          refine RunL.ok (OpOk.ext21 rfl) rfl ?_
          refine RunL.ok (OpOk.assign rfl) rfl ?_
          refine RunL.ok (OpOk.assign rfl) rfl ?_
          refine RunL.nil ?_
          refine Run.seq ?_
          refine Run.region ?_
          refine RunL.ok (OpOk.move rfl) rfl ?_
          refine RunL.call cal28 rfl (s28a rd.left.left.left.left.left.left.left.left.left.left.left al.left.left.left.left.left.left.left.left.left.left.left (by assumption) (by omega)) rfl (fun vx21 Ax21 hx21 => ?_)
          obtain ⟨x22, ⟨x23, ⟨x24, rfl⟩⟩⟩ := hx21
          refine RunL.ok (OpOk.move rfl) rfl ?_
          refine RunL.know (fun w s => (s.conv rfl).ownsE0) (fun alx25 => ?_)
          refine RunL.call cal28 rfl (s28a rd2.left.left.left.left.left.left.left.left.left.left.left.left.left.left al2.left.left.left.left.left.left.left.left.left.left.left.left.left.left (by assumption) (by omega)) rfl (fun vx26 Ax26 hx26 => ?_)
          obtain ⟨x27, ⟨x28, ⟨x29, rfl⟩⟩⟩ := hx26
          refine RunL.know (fun w s => (s.conv (frl rfl)).ownRd0) (fun rdx31 => ?_)
          have hla := congrArg lenT x24
          have hlb := congrArg lenT x29
          rw [lenT_strL, lenT_strL] at hla hlb
          have hst := strL_append x22 x27
          rw [x24, x29] at hst
          refine RunL.know (fun w s => s.ownsE0) (fun al9 => ?_)
          have alz : Alls (GE w0) (ownsE x22 * ownsE x27) (x22 ++ x27) := Alls.append alx25.left al9.right
          refine RunL.appendF rfl ti66 rfl rfl rfl (frl (frl (frl (frl rfl)))) (Rd.right rdx31).left rfl (by decide) (by omega) (by simp only [maxLen]; omega) rfl (fun vy1 rdy1 => ?_)
          refine RunL.know (fun w s => (s.conv rfl).ownRd0) (fun rdy2 => ?_)
          refine RunL.call cal29 rfl (s29a (Rd.right rdy2) (Alls.conv alz.left.left.left.left.left.left.left.left.left.left.left.left.left.left.left.left ((frc rfl (frc (frl rfl) (frc (frl rfl) (frc (frl (frl rfl)) (frc (frl (frl rfl)) (frc (frl (frl rfl)) (frc (frl (frl rfl)) (frc (frl (frl rfl)) (frc (frl (frl rfl)) (frc (frl (frl rfl)) (frc (frl (frl rfl)) (frc (frl (frl rfl)) (frc (frl (frl rfl)) (frc (frl (frl rfl)) (frc (frl (frl rfl)) (frc (frl (sep_comm _ _)) rfl)))))))))))))))) : _ = _).symm) (by assumption) (by assumption)) rfl (fun vy3 Ay3 hy3 => ?_)
          obtain ⟨y4, ⟨y5, ⟨rfl, rfl⟩⟩⟩ := hy3
          refine RunL.ok (OpOk.move rfl) rfl ?_
          refine RunL.ok (OpOk.ext20 rfl) rfl ?_
          refine RunL.ok (OpOk.ext21 rfl) rfl ?_
          refine RunL.ok (OpOk.assign rfl) rfl ?_
          refine RunL.ok (OpOk.assign rfl) rfl ?_
          refine RunL.nil ?_
          refine Run.seq ?_
          refine Run.seq ?_
          refine Run.region ?_
          refine RunL.ok (OpOk.move rfl) rfl ?_
          refine RunL.ok (OpOk.as (c := false) (OpOk.neq rfl rfl) (by rw [decide_eq_true (by omega)]; rfl)) rfl ?_
          refine RunL.ok (OpOk.move rfl) rfl ?_
          refine RunL.on rfl rfl ?_
          refine RunL.ok (OpOk.move rfl) rfl ?_
          refine RunL.on rfl rfl ?_
          refine RunL.ok (OpOk.as (c := false) (OpOk.neq rfl rfl) (by rw [decide_eq_true (by omega)]; rfl)) rfl ?_
          refine RunL.ok (OpOk.pickF rfl rfl) rfl ?_
          refine RunL.nil ?_
          refine Run.condF rfl ?_
          refine Run.skip ?_
          refine Run.seq ?_
          refine Run.seq ?_
          refine Run.know (fun w s => (s.conv (frl (frl (frl (frl (frl (frl (frl (frl (frl (frl (frl (frl (frl rfl)))))))))))))).ownRd0) (fun rdy6 => ?_)
          refine Run.know (fun w s => (s.conv (frl (frl (frl (frl (frl (frl (frl (frl rfl))))))))).ownRd0) (fun rdy7 => ?_)
          refine Run.know (fun w s => (s.conv rfl).ownRd0) (fun rdy8 => ?_)
          (apply Run.drawD [] (by rfl) (sep_emp _).symm; case hchk => kernel_rfl)
          refine Sd.quiet 0 _ _ rfl rfl rfl rfl rfl (QOp.ok (fun X => OpOk.move rfl)) ?_
          refine Sd.quiet 1 _ _ rfl rfl rfl rfl rfl (QOp.ok (fun X => OpOk.lenR rfl rfl rd.left.left.left.left.left.left.left.left.left.left.left.left.left.left.left.left.left.left.left.left.left rfl)) ?_
          refine Sd.quiet 2 _ _ rfl rfl rfl rfl rfl (QOp.ok (fun X => OpOk.asT (OpOk.gtr rfl rfl) (by omega))) ?_
          refine Sd.quiet 3 _ _ rfl rfl rfl rfl rfl (QOp.ok (fun X => OpOk.move rfl)) ?_
          refine Sd.quiet 4 _ _ rfl rfl rfl rfl rfl (QOp.ok (fun X => OpOk.move rfl)) ?_
          refine Sd.quiet 5 _ _ rfl rfl rfl rfl rfl (QOp.ok (fun X => OpOk.lenR rfl rfl rd2.left.left.left.left.left.left.left.left.left.left.left.left.left.left.left.left.left.left.left.left.left rfl)) ?_
          refine Sd.quiet 6 _ _ rfl rfl rfl rfl rfl (QOp.ok (fun X => OpOk.asT (OpOk.gtr rfl rfl) (by omega))) ?_
          refine Sd.quiet 7 _ _ rfl rfl rfl rfl rfl (QOp.ok (fun X => OpOk.pickT rfl rfl)) ?_
          refine Sd.quiet 8 _ _ rfl rfl rfl rfl rfl (QOp.ok (fun X => OpOk.move rfl)) ?_
          refine Sd.quiet 9 _ _ rfl rfl rfl rfl rfl (QOp.ok (fun X => OpOk.move rfl)) ?_
          refine Sd.quiet 10 _ _ rfl rfl rfl rfl rfl (QOp.ok (fun X => OpOk.move rfl)) ?_
          refine Sd.quiet 11 _ _ rfl rfl rfl rfl rfl (QOp.ok (fun X => OpOk.lenR rfl rfl rd.left.left.left.left.left.left.left.left.left.left.left.left.left.left.left.left.left.left.left.left.left rfl)) ?_
          refine Sd.quiet 12 _ _ rfl rfl rfl rfl rfl (QOp.ok (fun X => OpOk.subN _ 1 rfl rfl rfl rfl (by omega) (by omega))) ?_
          refine Sd.quiet 13 _ _ rfl rfl rfl rfl rfl (QOp.ok (fun X => OpOk.idxN rfl ti66 rfl rd.left.left.left.left.left.left.left.left.left.left.left.left.left.left.left.left.left.left.left.left.left rfl (by omega))) ?_
          refine Sd.quiet 14 _ _ rfl rfl rfl rfl rfl (QOp.ok (fun X => OpOk.fieldAddrA fld66_0 rfl)) ?_
          refine Sd.quiet 15 _ _ rfl rfl rfl rfl rfl (QOp.ok (fun X => OpOk.loadFl1E hoe rfl rfl rfl rd.left.left.left.left.left.left.left.left.left.left.left.left.left.left.left.left.left.left.left.left.left (fun _ => rfl) rfl (by omega) rfl)) ?_
          refine Sd.quiet 16 _ _ rfl rfl rfl rfl rfl (QOp.ok (fun X => OpOk.move rfl)) ?_
          refine Sd.quiet 17 _ _ rfl rfl rfl rfl rfl (QOp.ok (fun X => OpOk.idx rfl ti66 rfl rd2.left.left.left.left.left.left.left.left.left.left.left.left.left.left.left.left.left.left.left.left.left rfl (by omega) (by omega))) ?_
          refine Sd.quiet 18 _ _ rfl rfl rfl rfl rfl (QOp.ok (fun X => OpOk.fieldAddrA fld66_0 rfl)) ?_
          refine Sd.quiet 19 _ _ rfl rfl rfl rfl rfl (QOp.ok (fun X => OpOk.loadFl1E hoy rfl rfl rfl rd2.left.left.left.left.left.left.left.left.left.left.left.left.left.left.left.left.left.left.left.left.left (fun _ => rfl) rfl (by omega) rfl)) ?_
          refine Sd.quiet 20 _ _ rfl rfl rfl rfl rfl (QOp.ok (fun X => OpOk.asT (OpOk.geq rfl rfl) (by omega))) ?_
          refine Sd.quiet 21 _ _ rfl rfl rfl rfl rfl (QOp.ok (fun X => OpOk.pickT rfl rfl)) ?_
          (apply Sd.tail; case hall => kernel_rfl)
          refine RunL.mem (fl2 (sep_emp _) (sep_emp _)) ?_
          refine RunL.nil ?_
          refine Run.condT rfl ?_
          refine Run.seq ?_
          refine Run.region ?_
          refine RunL.lit0B rfl ti5 rfl (fun vy9 rdy9 => ?_)
          refine RunL.ok (OpOk.move rfl) rfl ?_
          refine RunL.appendB0 rfl ti5 rfl rfl rfl rfl (Rd.right rdy6).left.left.left.left.left.left.left.left.left.left.left.left.left.left (by omega) rfl (fun vy10 rdy10 => ?_)
          refine RunL.ok (OpOk.move rfl) rfl ?_
          refine RunL.appendB rfl ti5 rfl rfl rfl rfl (Rd.right rdy7).left.left.left.left.left.left.left.left.left (by omega) rfl (fun vy11 rdy11 => ?_)
          refine RunL.know (fun w s => (s.conv rfl).ownRd0) (fun rdy12 => ?_)
          refine RunL.call cal32 rfl (s32 (Rd.right rdy12) (by assumption) (by assumption)) rfl (fun vy13 Ay13 hy13 => ?_)
          obtain ⟨y14, ⟨y15, ⟨y16, ⟨rfl, ⟨y17, rfl⟩⟩⟩⟩⟩ := hy13
          refine RunL.ok (OpOk.move rfl) rfl ?_
          refine RunL.ok (OpOk.ext20 rfl) rfl ?_
          refine RunL.ok (OpOk.ext21 rfl) rfl ?_
          refine RunL.ok (OpOk.assign rfl) rfl ?_
          refine RunL.ok (OpOk.assign rfl) rfl ?_
          refine RunL.nil ?_
          refine Run.seq ?_
          refine Run.region ?_
          refine RunL.ok (OpOk.move rfl) rfl ?_
          refine RunL.ok (OpOk.asT (OpOk.eql rfl rfl) (by omega)) rfl ?_
          refine RunL.ok (OpOk.move rfl) rfl ?_
          refine RunL.on rfl rfl ?_
          refine RunL.ok (OpOk.move rfl) rfl ?_
          refine RunL.on rfl rfl ?_
          refine RunL.ok (OpOk.asT (OpOk.eql rfl rfl) (by omega)) rfl ?_
          refine RunL.ok (OpOk.pickT rfl rfl) rfl ?_
          refine RunL.ok (OpOk.assign rfl) rfl ?_
          refine RunL.nil ?_
          refine Run.ret1 Try.func11 rfl rfl ?_
          exact ⟨rfl, ⟨_, (asg (asg (asg (asg (asg (asg (asg (asg (asg (asg (asg (asg (asg (asg (asg (asg (asg (asg (asg (asg (asg (asg as1))))))))))))))))))))))⟩⟩
        · have hz2 := put_app_ok hp hq (by
            rw [htg, strL, rightT, r5, r6, decide_eq_true ⟨by omega, r2, r3, r4⟩]; rfl)
          rw [hz] at hz2
          obtain ⟨rfl, rfl⟩ := Prod.mk.inj hz2
          refine Spec.of_run [(0, u), (1, u2)] Try.func11 rfl (Nat.le_of_ble_eq_true rfl) (by repeat (first | exact trivial | refine ⟨rfl, ?_⟩)) ?_
          refine Run.seq ?_
          refine Run.region ?_
          refine RunL.ok (OpOk.assign rfl) rfl ?_
          refine RunL.nil ?_
          refine Run.seq ?_
          refine Run.seq ?_
          refine Run.region ?_
          refine RunL.call cal27 rfl (s27) rfl (fun vx1 Ax1 hx1 => ?_)
          obtain ⟨x2, ⟨rfl, rfl⟩⟩ := hx1
          refine RunL.ok (OpOk.not rfl) rfl ?_
          refine RunL.nil ?_
          refine Run.condF rfl ?_
          refine Run.skip ?_
          refine Run.seq ?_
          refine Run.region ?_
          refine RunL.ok (OpOk.move rfl) rfl ?_
          refine RunL.call cal28 rfl (s28a rd.left al.left (by assumption) (by omega)) rfl (fun vx3 Ax3 hx3 => ?_)
          obtain ⟨x4, ⟨x5, ⟨x6, rfl⟩⟩⟩ := hx3
          refine RunL.know (fun w s => (s.conv rfl).ownsE0) (fun alx7 => ?_)
          refine RunL.know (fun w s => (s.conv (frl rfl)).ownRd0) (fun rdx8 => ?_)
          refine RunL.call cal29 rfl (s29a (Rd.right rdx8).left (Alls.right alx7) (by assumption) (by assumption)) rfl (fun vx9 Ax9 hx9 => ?_)
          obtain ⟨x10, ⟨x11, ⟨rfl, rfl⟩⟩⟩ := hx9
          refine RunL.ok (OpOk.move rfl) rfl ?_
          refine RunL.ok (OpOk.ext20 rfl) rfl ?_
          refine RunL.ok (OpOk.ext21 rfl) rfl ?_
          refine RunL.ok (OpOk.assign rfl) rfl ?_
          refine RunL.ok (OpOk.assign rfl) rfl ?_
          refine RunL.nil ?_
          refine Run.seq ?_
          refine Run.region ?_
          refine RunL.ok (OpOk.move rfl) rfl ?_
          refine RunL.call cal28 rfl (s28a rd2.left.left.left.left.left.left al2.left.left.left.left.left.left (by assumption) (by omega)) rfl (fun vx12 Ax12 hx12 => ?_)
          obtain ⟨x13, ⟨x14, ⟨x15, rfl⟩⟩⟩ := hx12
          refine RunL.know (fun w s => (s.conv rfl).ownsE0) (fun alx16 => ?_)
          refine RunL.know (fun w s => (s.conv (frl rfl)).ownRd0) (fun rdx17 => ?_)
          refine RunL.call cal29 rfl (s29a (Rd.right rdx17).left (Alls.right alx16) (by assumption) (by assumption)) rfl (fun vx18 Ax18 hx18 => ?_)
          obtain ⟨x19, ⟨x20, ⟨rfl, rfl⟩⟩⟩ := hx18
          refine RunL.ok (OpOk.move rfl) rfl ?_
          refine RunL.ok (OpOk.ext20 rfl) rfl ?_
          refine RunL.ok (OpOk.ext21 rfl) rfl ?_
          refine RunL.ok (OpOk.assign rfl) rfl ?_
          refine RunL.ok (OpOk.assign rfl) rfl ?_
          refine RunL.nil ?_
          refine Run.seq ?_
          refine Run.region ?_
          refine RunL.ok (OpOk.move rfl) rfl ?_
          refine RunL.call cal28 rfl (s28a rd.left.left.left.left.left.left.left.left.left.left.left al.left.left.left.left.left.left.left.left.left.left.left (by assumption) (by omega)) rfl (fun vx21 Ax21 hx21 => ?_)
          obtain ⟨x22, ⟨x23, ⟨x24, rfl⟩⟩⟩ := hx21
          refine RunL.ok (OpOk.move rfl) rfl ?_
          refine RunL.know (fun w s => (s.conv rfl).ownsE0) (fun alx25 => ?_)
          refine RunL.call cal28 rfl (s28a rd2.left.left.left.left.left.left.left.left.left.left.left.left.left.left al2.left.left.left.left.left.left.left.left.left.left.left.left.left.left (by assumption) (by omega)) rfl (fun vx26 Ax26 hx26 => ?_)
          obtain ⟨x27, ⟨x28, ⟨x29, rfl⟩⟩⟩ := hx26
          refine RunL.know (fun w s => (s.conv (frl rfl)).ownRd0) (fun rdx31 => ?_)
          have hla := congrArg lenT x24
          have hlb := congrArg lenT x29
          rw [lenT_strL, lenT_strL] at hla hlb
          have hst := strL_append x22 x27
          rw [x24, x29] at hst
          refine RunL.know (fun w s => s.ownsE0) (fun al9 => ?_)
          have alz : Alls (GE w0) (ownsE x22 * ownsE x27) (x22 ++ x27) := Alls.append alx25.left al9.right
          refine RunL.appendF rfl ti66 rfl rfl rfl (frl (frl (frl (frl rfl)))) (Rd.right rdx31).left rfl (by decide) (by omega) (by simp only [maxLen]; omega) rfl (fun vy1 rdy1 => ?_)
          refine RunL.know (fun w s => (s.conv rfl).ownRd0) (fun rdy2 => ?_)
          refine RunL.call cal29 rfl (s29a (Rd.right rdy2) (Alls.conv alz.left.left.left.left.left.left.left.left.left.left.left.left.left.left.left.left ((frc rfl (frc (frl rfl) (frc (frl rfl) (frc (frl (frl rfl)) (frc (frl (frl rfl)) (frc (frl (frl rfl)) (frc (frl (frl rfl)) (frc (frl (frl rfl)) (frc (frl (frl rfl)) (frc (frl (frl rfl)) (frc (frl (frl rfl)) (frc (frl (frl rfl)) (frc (frl (frl rfl)) (frc (frl (frl rfl)) (frc (frl (frl rfl)) (frc (frl (sep_comm _ _)) rfl)))))))))))))))) : _ = _).symm) (by assumption) (by assumption)) rfl (fun vy3 Ay3 hy3 => ?_)
          obtain ⟨y4, ⟨y5, ⟨rfl, rfl⟩⟩⟩ := hy3
          refine RunL.ok (OpOk.move rfl) rfl ?_
          refine RunL.ok (OpOk.ext20 rfl) rfl ?_
          refine RunL.ok (OpOk.ext21 rfl) rfl ?_
          refine RunL.ok (OpOk.assign rfl) rfl ?_
          refine RunL.ok (OpOk.assign rfl) rfl ?_
          refine RunL.nil ?_
          refine Run.seq ?_
          refine Run.seq ?_
          refine Run.region ?_
          refine RunL.ok (OpOk.move rfl) rfl ?_
          refine RunL.ok (OpOk.as (c := false) (OpOk.neq rfl rfl) (by rw [decide_eq_true (by omega)]; rfl)) rfl ?_
          refine RunL.ok (OpOk.move rfl) rfl ?_
          refine RunL.on rfl rfl ?_
          refine RunL.ok (OpOk.move rfl) rfl ?_
          refine RunL.on rfl rfl ?_
          refine RunL.ok (OpOk.as (c := false) (OpOk.neq rfl rfl) (by rw [decide_eq_true (by omega)]; rfl)) rfl ?_
          refine RunL.ok (OpOk.pickF rfl rfl) rfl ?_
          refine RunL.nil ?_
          refine Run.condF rfl ?_
          refine Run.skip ?_
          refine Run.seq ?_
          refine Run.seq ?_
          refine Run.know (fun w s => (s.conv (frl (frl (frl (frl (frl (frl (frl (frl (frl (frl (frl (frl (frl rfl)))))))))))))).ownRd0) (fun rdy6 => ?_)
          refine Run.know (fun w s => (s.conv (frl (frl (frl (frl (frl (frl (frl (frl rfl))))))))).ownRd0) (fun rdy7 => ?_)
          refine Run.know (fun w s => (s.conv rfl).ownRd0) (fun rdy8 => ?_)
          (apply Run.drawD [] (by rfl) (sep_emp _).symm; case hchk => kernel_rfl)
          refine Sd.quiet 0 _ _ rfl rfl rfl rfl rfl (QOp.ok (fun X => OpOk.move rfl)) ?_
          refine Sd.quiet 1 _ _ rfl rfl rfl rfl rfl (QOp.ok (fun X => OpOk.lenR rfl rfl rd.left.left.left.left.left.left.left.left.left.left.left.left.left.left.left.left.left.left.left.left.left rfl)) ?_
          refine Sd.quiet 2 _ _ rfl rfl rfl rfl rfl (QOp.ok (fun X => OpOk.asT (OpOk.gtr rfl rfl) (by omega))) ?_
          refine Sd.quiet 3 _ _ rfl rfl rfl rfl rfl (QOp.ok (fun X => OpOk.move rfl)) ?_
          refine Sd.quiet 4 _ _ rfl rfl rfl rfl rfl (QOp.ok (fun X => OpOk.move rfl)) ?_
          refine Sd.quiet 5 _ _ rfl rfl rfl rfl rfl (QOp.ok (fun X => OpOk.lenR rfl rfl rd2.left.left.left.left.left.left.left.left.left.left.left.left.left.left.left.left.left.left.left.left.left rfl)) ?_
          refine Sd.quiet 6 _ _ rfl rfl rfl rfl rfl (QOp.ok (fun X => OpOk.asT (OpOk.gtr rfl rfl) (by omega))) ?_
          refine Sd.quiet 7 _ _ rfl rfl rfl rfl rfl (QOp.ok (fun X => OpOk.pickT rfl rfl)) ?_
          refine Sd.quiet 8 _ _ rfl rfl rfl rfl rfl (QOp.ok (fun X => OpOk.move rfl)) ?_
          refine Sd.quiet 9 _ _ rfl rfl rfl rfl rfl (QOp.ok (fun X => OpOk.move rfl)) ?_
          refine Sd.quiet 10 _ _ rfl rfl rfl rfl rfl (QOp.ok (fun X => OpOk.move rfl)) ?_
          refine Sd.quiet 11 _ _ rfl rfl rfl rfl rfl (QOp.ok (fun X => OpOk.lenR rfl rfl rd.left.left.left.left.left.left.left.left.left.left.left.left.left.left.left.left.left.left.left.left.left rfl)) ?_
          refine Sd.quiet 12 _ _ rfl rfl rfl rfl rfl (QOp.ok (fun X => OpOk.subN _ 1 rfl rfl rfl rfl (by omega) (by omega))) ?_
          refine Sd.quiet 13 _ _ rfl rfl rfl rfl rfl (QOp.ok (fun X => OpOk.idxN rfl ti66 rfl rd.left.left.left.left.left.left.left.left.left.left.left.left.left.left.left.left.left.left.left.left.left rfl (by omega))) ?_
          refine Sd.quiet 14 _ _ rfl rfl rfl rfl rfl (QOp.ok (fun X => OpOk.fieldAddrA fld66_0 rfl)) ?_
          refine Sd.quiet 15 _ _ rfl rfl rfl rfl rfl (QOp.ok (fun X => OpOk.loadFl1E hoe rfl rfl rfl rd.left.left.left.left.left.left.left.left.left.left.left.left.left.left.left.left.left.left.left.left.left (fun _ => rfl) rfl (by omega) rfl)) ?_
          refine Sd.quiet 16 _ _ rfl rfl rfl rfl rfl (QOp.ok (fun X => OpOk.move rfl)) ?_
          refine Sd.quiet 17 _ _ rfl rfl rfl rfl rfl (QOp.ok (fun X => OpOk.idx rfl ti66 rfl rd2.left.left.left.left.left.left.left.left.left.left.left.left.left.left.left.left.left.left.left.left.left rfl (by omega) (by omega))) ?_
          refine Sd.quiet 18 _ _ rfl rfl rfl rfl rfl (QOp.ok (fun X => OpOk.fieldAddrA fld66_0 rfl)) ?_
          refine Sd.quiet 19 _ _ rfl rfl rfl rfl rfl (QOp.ok (fun X => OpOk.loadFl1E hoy rfl rfl rfl rd2.left.left.left.left.left.left.left.left.left.left.left.left.left.left.left.left.left.left.left.left.left (fun _ => rfl) rfl (by omega) rfl)) ?_
          refine Sd.quiet 20 _ _ rfl rfl rfl rfl rfl (QOp.ok (fun X => OpOk.asF (OpOk.geq rfl rfl) (by omega))) ?_
          refine Sd.quiet 21 _ _ rfl rfl rfl rfl rfl (QOp.ok (fun X => OpOk.pickT rfl rfl)) ?_
          (apply Sd.tail; case hall => kernel_rfl)
          refine RunL.mem (fl2 (sep_emp _) (sep_emp _)) ?_
          refine RunL.nil ?_
          refine Run.condF rfl ?_
          refine Run.skip ?_
          refine Run.seq ?_
          refine Run.region ?_
          refine RunL.ok (OpOk.move rfl) rfl ?_
          refine RunL.ok (OpOk.asT (OpOk.eql rfl rfl) (by omega)) rfl ?_
          refine RunL.ok (OpOk.move rfl) rfl ?_
          refine RunL.on rfl rfl ?_
          refine RunL.ok (OpOk.move rfl) rfl ?_
          refine RunL.on rfl rfl ?_
          refine RunL.ok (OpOk.strOf rfl rfl rfl rfl (Rd.right rdy8)) rfl ?_
          refine RunL.on rfl rfl ?_
          refine RunL.ok (OpOk.move rfl) rfl ?_
          refine RunL.on rfl rfl ?_
          refine RunL.ok (OpOk.strOf rfl rfl rfl rfl (Rd.right rdy6).left.left.left.left.left.left.left.left.left.left.left.left.left) rfl ?_
          refine RunL.on rfl rfl ?_
          refine RunL.ok (OpOk.move rfl) rfl ?_
          refine RunL.on rfl rfl ?_
          refine RunL.ok (OpOk.strOf rfl rfl rfl rfl (Rd.right rdy7).left.left.left.left.left.left.left.left) rfl ?_
          refine RunL.on rfl rfl ?_
          refine RunL.ok (OpOk.addSS rfl rfl (by omega)) rfl ?_
          refine RunL.on rfl rfl ?_
          refine RunL.ok (OpOk.eqlSS rfl rfl) rfl ?_
          refine RunL.ok (OpOk.pickT rfl rfl) rfl ?_
          refine RunL.ok (OpOk.assign rfl) rfl ?_
          refine RunL.nil ?_
          refine Run.ret1 Try.func11 rfl rfl ?_
          rw [decide_eq_true (by first | omega | with_reducible rfl | assumption)]
          exact ⟨rfl, ⟨_, (asg (asg (asg (asg (asg (asg (asg (asg (asg (asg (asg (asg (asg (asg (asg (asg (asg (asg as1))))))))))))))))))⟩⟩
  · obtain ⟨g, hg, hz2⟩ := put_app_bad hp hq (by omega)
    rw [hz] at hz2
    obtain ⟨rfl, rfl⟩ := Prod.mk.inj hz2
    refine Spec.of_run [(0, u), (1, u2)] Try.func11 rfl (Nat.le_of_ble_eq_true rfl) (by repeat (first | exact trivial | refine ⟨rfl, ?_⟩)) ?_
    refine Run.seq ?_
    refine Run.region ?_
    refine RunL.ok (OpOk.assign rfl) rfl ?_
    refine RunL.nil ?_
    refine Run.seq ?_
    refine Run.seq ?_
    refine Run.region ?_
    refine RunL.call cal27 rfl (s27) rfl (fun vx1 Ax1 hx1 => ?_)
    obtain ⟨x2, ⟨rfl, rfl⟩⟩ := hx1
    refine RunL.ok (OpOk.not rfl) rfl ?_
    refine RunL.nil ?_
    refine Run.condF rfl ?_
    refine Run.skip ?_
    refine Run.seq ?_
    refine Run.region ?_
    refine RunL.ok (OpOk.move rfl) rfl ?_
    refine RunL.call cal28 rfl (s28a rd.left al.left (by assumption) (by omega)) rfl (fun vx3 Ax3 hx3 => ?_)
    obtain ⟨x4, ⟨x5, ⟨x6, rfl⟩⟩⟩ := hx3
    refine RunL.know (fun w s => (s.conv rfl).ownsE0) (fun alx7 => ?_)
    refine RunL.know (fun w s => (s.conv (frl rfl)).ownRd0) (fun rdx8 => ?_)
    refine RunL.call cal29 rfl (s29a (Rd.right rdx8).left (Alls.right alx7) (by assumption) (by assumption)) rfl (fun vx9 Ax9 hx9 => ?_)
    obtain ⟨x10, ⟨x11, ⟨rfl, rfl⟩⟩⟩ := hx9
    refine RunL.ok (OpOk.move rfl) rfl ?_
    refine RunL.ok (OpOk.ext20 rfl) rfl ?_
    refine RunL.ok (OpOk.ext21 rfl) rfl ?_
    refine RunL.ok (OpOk.assign rfl) rfl ?_
    refine RunL.ok (OpOk.assign rfl) rfl ?_
    refine RunL.nil ?_
    refine Run.seq ?_
    refine Run.region ?_
    refine RunL.ok (OpOk.move rfl) rfl ?_
    refine RunL.call cal28 rfl (s28a rd2.left.left.left.left.left.left al2.left.left.left.left.left.left (by assumption) (by omega)) rfl (fun vx12 Ax12 hx12 => ?_)
    obtain ⟨x13, ⟨x14, ⟨x15, rfl⟩⟩⟩ := hx12
    refine RunL.know (fun w s => (s.conv rfl).ownsE0) (fun alx16 => ?_)
    refine RunL.know (fun w s => (s.conv (frl rfl)).ownRd0) (fun rdx17 => ?_)
    refine RunL.call cal29 rfl (s29a (Rd.right rdx17).left (Alls.right alx16) (by assumption) (by assumption)) rfl (fun vx18 Ax18 hx18 => ?_)
    obtain ⟨x19, ⟨x20, ⟨rfl, rfl⟩⟩⟩ := hx18
    refine RunL.ok (OpOk.move rfl) rfl ?_
    refine RunL.ok (OpOk.ext20 rfl) rfl ?_
    refine RunL.ok (OpOk.ext21 rfl) rfl ?_
    refine RunL.ok (OpOk.assign rfl) rfl ?_
    refine RunL.ok (OpOk.assign rfl) rfl ?_
    refine RunL.nil ?_
    refine Run.seq ?_
    refine Run.region ?_
    refine RunL.ok (OpOk.move rfl) rfl ?_
    refine RunL.call cal28 rfl (s28a rd.left.left.left.left.left.left.left.left.left.left.left al.left.left.left.left.left.left.left.left.left.left.left (by assumption) (by omega)) rfl (fun vx21 Ax21 hx21 => ?_)
    obtain ⟨x22, ⟨x23, ⟨x24, rfl⟩⟩⟩ := hx21
    refine RunL.ok (OpOk.move rfl) rfl ?_
    refine RunL.know (fun w s => (s.conv rfl).ownsE0) (fun alx25 => ?_)
    refine RunL.call cal28 rfl (s28a rd2.left.left.left.left.left.left.left.left.left.left.left.left.left.left al2.left.left.left.left.left.left.left.left.left.left.left.left.left.left (by assumption) (by omega)) rfl (fun vx26 Ax26 hx26 => ?_)
    obtain ⟨x27, ⟨x28, ⟨x29, rfl⟩⟩⟩ := hx26
    refine RunL.know (fun w s => (s.conv (frl rfl)).ownRd0) (fun rdx31 => ?_)
    have hla := congrArg lenT x24
    have hlb := congrArg lenT x29
    rw [lenT_strL, lenT_strL] at hla hlb
    have hst := strL_append x22 x27
    rw [x24, x29] at hst
    refine RunL.know (fun w s => s.ownsE0) (fun al9 => ?_)
    have alz : Alls (GE w0) (ownsE x22 * ownsE x27) (x22 ++ x27) := Alls.append alx25.left al9.right
    refine RunL.appendF rfl ti66 rfl rfl rfl (frl (frl (frl (frl rfl)))) (Rd.right rdx31).left rfl (by decide) (by omega) (by simp only [maxLen]; omega) rfl (fun vy1 rdy1 => ?_)
    refine RunL.know (fun w s => (s.conv rfl).ownRd0) (fun rdy2 => ?_)
    refine RunL.call cal29 rfl (s29a (Rd.right rdy2) (Alls.conv alz.left.left.left.left.left.left.left.left.left.left.left.left.left.left.left.left ((frc rfl (frc (frl rfl) (frc (frl rfl) (frc (frl (frl rfl)) (frc (frl (frl rfl)) (frc (frl (frl rfl)) (frc (frl (frl rfl)) (frc (frl (frl rfl)) (frc (frl (frl rfl)) (frc (frl (frl rfl)) (frc (frl (frl rfl)) (frc (frl (frl rfl)) (frc (frl (frl rfl)) (frc (frl (frl rfl)) (frc (frl (frl rfl)) (frc (frl (sep_comm _ _)) rfl)))))))))))))))) : _ = _).symm) (by assumption) (by assumption)) rfl (fun vy3 Ay3 hy3 => ?_)
    obtain ⟨y4, ⟨y5, ⟨rfl, rfl⟩⟩⟩ := hy3
    refine RunL.ok (OpOk.move rfl) rfl ?_
    refine RunL.ok (OpOk.ext20 rfl) rfl ?_
    refine RunL.ok (OpOk.ext21 rfl) rfl ?_
    refine RunL.ok (OpOk.assign rfl) rfl ?_
    refine RunL.ok (OpOk.assign rfl) rfl ?_
    refine RunL.nil ?_
    refine Run.seq ?_
    refine Run.seq ?_
    refine Run.region ?_
    refine RunL.ok (OpOk.move rfl) rfl ?_
    refine RunL.ok (OpOk.neq rfl rfl) rfl ?_
    refine RunL.ok (OpOk.move rfl) rfl ?_
    refine RunL.splitN (t := 38) rfl (fun y6 => ?_) (fun y6 => ?_)
    · refine RunL.off rfl rfl rfl rfl ?_
      refine RunL.off rfl rfl rfl rfl ?_
      refine RunL.ok (OpOk.pickT rfl rfl) rfl ?_
      refine RunL.nil ?_
      refine Run.condT rfl ?_
      refine Run.seq ?_
      refine Run.region ?_
      refine RunL.ok (OpOk.move rfl) rfl ?_
      refine RunL.ok (OpOk.as (c := true) (OpOk.neq rfl rfl) (by rw [decide_eq_false (by omega)]; rfl)) rfl ?_
      refine RunL.ok (OpOk.move rfl) rfl ?_
      refine RunL.on rfl rfl ?_
      refine RunL.ok (OpOk.move rfl) rfl ?_
      refine RunL.on rfl rfl ?_
      refine RunL.know (fun w s => (s.conv rfl).ownRd0) (fun rdy7 => ?_)
      refine RunL.ok (OpOk.lenR rfl rfl (Rd.right rdy7) rfl) rfl ?_
      refine RunL.on rfl rfl ?_
      refine RunL.ok (OpOk.eql rfl rfl) rfl ?_
      refine RunL.ok (OpOk.pickT rfl rfl) rfl ?_
      refine RunL.ok (OpOk.assign rfl) rfl ?_
      refine RunL.nil ?_
      refine Run.ret1 Try.func11 rfl rfl ?_
      exact ⟨rfl, ⟨_, (asg (asg (asg (asg (asg (asg (asg (asg (asg (asg (asg (asg (asg (asg (asg (asg (asg (asg as1))))))))))))))))))⟩⟩
    refine RunL.on rfl rfl ?_
    refine RunL.ok (OpOk.move rfl) rfl ?_
    refine RunL.on rfl rfl ?_
    refine RunL.ok (OpOk.as (c := true) (OpOk.neq rfl rfl) (by rw [decide_eq_false (by omega)]; rfl)) rfl ?_
    refine RunL.ok (OpOk.pickF rfl rfl) rfl ?_
    refine RunL.nil ?_
    refine Run.condT rfl ?_
    refine Run.seq ?_
    refine Run.region ?_
    refine RunL.ok (OpOk.move rfl) rfl ?_
    refine RunL.ok (OpOk.as (c := true) (OpOk.neq rfl rfl) (by rw [decide_eq_false (by omega)]; rfl)) rfl ?_
    refine RunL.ok (OpOk.move rfl) rfl ?_
    refine RunL.on rfl rfl ?_
    refine RunL.ok (OpOk.move rfl) rfl ?_
    refine RunL.on rfl rfl ?_
    refine RunL.know (fun w s => (s.conv rfl).ownRd0) (fun rdy8 => ?_)
    refine RunL.ok (OpOk.lenR rfl rfl (Rd.right rdy8) rfl) rfl ?_
    refine RunL.on rfl rfl ?_
    refine RunL.ok (OpOk.eql rfl rfl) rfl ?_
    refine RunL.ok (OpOk.pickT rfl rfl) rfl ?_
    refine RunL.ok (OpOk.assign rfl) rfl ?_
    refine RunL.nil ?_
    refine Run.ret1 Try.func11 rfl rfl ?_
    exact ⟨rfl, ⟨_, (asg (asg (asg (asg (asg (asg (asg (asg (asg (asg (asg (asg (asg (asg (asg (asg (asg (asg as1))))))))))))))))))⟩⟩
end
end Go.Proofs.Ytlheianbmpgefaa
