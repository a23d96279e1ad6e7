/- The elements' example. -/
import Derived.Test.YtlheianbmpgefaaTvG
import Derived.Test.YtlheianbmpgefaaTvI
namespace Go.Proofs.Ytlheianbmpgefaa
open Go Go.Proofs
set_option maxRecDepth 100000
set_option maxHeartbeats 4000000
set_option linter.unusedSimpArgs false
section
variable {w0 : World} {A : Asn}
theorem s33a {u : Value} {m : Nat} {b : List UInt8} {f : Te} {e : Int} (rd : Rd w0 A u 1 m (B b)) (hg : get b 0 0 = (f, e)) (hb : b.length ≤ 140737488351232) :
    Spec Try.prog w0 33 [u, .int .i64 0] A (fun v' A' => ∃ v ys J, v' = .tuple #[v, .int .i64 e] ∧ strL ys = f ∧ A' = A * J * own 66 3 v ys.length (Fl encT66 ys) * ownsE ys) :=
  s33 (d := 0) rd hg (refGetAll _) (Nat.le_refl _) (by decide) hb
theorem s27 : Spec Try.prog w0 27 [] A (fun v' A' => ∃ J, v' = .bool true ∧ A' = A * J) := by
  have hg : get [1, 1, 5, 225, 2, 2, 0] 0 0 = (.cons 1 [5] .nil (.cons 225 [] (.cons 2 [] .nil .nil) .nil), 0) := by decide
  refine Spec.of_run [] Try.func27 rfl (Nat.le_of_ble_eq_true rfl) (by repeat (first | exact trivial | refine ⟨rfl, ?_⟩)) ?_
  refine Run.seq ?_
  refine Run.region ?_
  refine RunL.ok (OpOk.assign rfl) rfl ?_
  refine RunL.nil ?_
  refine Run.seq ?_
  refine Run.region ?_
  refine RunL.litB (xs := [5]) rfl ti5 rfl rfl rfl (by decide) rfl (fun vx1 rdx1 => ?_)
  refine RunL.know (fun w s => (s.conv rfl).ownRd0) (fun rdx2 => ?_)
  obtain ⟨adx3, capx3, rfl, hcapx3, hadx3⟩ := (rdx2).form
  refine RunL.ok (OpOk.build (cells := #[.int (IntKind.i64) (1), .slice (adx3) (1) (capx3), .slice (none) (0) (0)]) rfl (fun w => run_build w 66 _ _ (by rfl))) rfl ?_
  refine RunL.ok (OpOk.build (cells := #[.int (IntKind.i64) (2), .slice (none) (0) (0), .slice (none) (0) (0)]) rfl (fun w => run_build w 66 _ _ (by rfl))) rfl ?_
  refine RunL.litFl (enc := encT66) [((2, nilV, [], nilV, Fo.nil) : Ee)] rfl ti66 rfl (fun _ => rfl) rfl rfl (by decide) (by decide) rfl (fun v9 rd9 => ?_)
  refine RunL.know (fun w s => (s.conv rfl).ownRd0) (fun rdy1 => ?_)
  obtain ⟨ady2, capy2, rfl, hcapy2, hady2⟩ := (rdy1).form
  refine RunL.ok (OpOk.build (cells := #[.int (IntKind.i64) (225), .slice (none) (0) (0), .slice (ady2) (1) (capy2)]) rfl (fun w => run_build w 66 _ _ (by rfl))) rfl ?_
  have al : Alls (GE w0) (own 5 1 (.slice adx3 1 capx3) 1 (B [5]) * own 66 3 (.slice ady2 1 capy2) 1 (Fl encT66 [((2, nilV, [], nilV, Fo.nil) : Ee)])) [((1, ⟨.slice adx3 1 capx3, rfl⟩, [5], nilV, Fo.nil) : Ee), (225, nilV, [], ⟨.slice ady2 1 capy2, rfl⟩, Fo.cons 2 nilV [] nilV .nil .nil)] := Alls.cons ⟨Rd.left rdx2, Rd.nil 3, trivial⟩ (Alls.cons ⟨Rd.nil 1, Rd.right rdy1, ⟨⟨Rd.nil 1, Rd.nil 3, trivial⟩, trivial⟩⟩ Alls.nil)
  have hp : putT (strL [((1, ⟨.slice adx3 1 capx3, rfl⟩, [5], nilV, Fo.nil) : Ee), (225, nilV, [], ⟨.slice ady2 1 capy2, rfl⟩, Fo.cons 2 nilV [] nilV .nil .nil)]) = ([1, 1, 5, 225, 2, 2, 0], 0) := by
    show putT (.cons 1 [5] .nil (.cons 225 [] (.cons 2 [] .nil .nil) .nil)) = _
    decide
  refine RunL.litFl (enc := encT66) [((1, ⟨.slice adx3 1 capx3, rfl⟩, [5], nilV, Fo.nil) : Ee), (225, nilV, [], ⟨.slice ady2 1 capy2, rfl⟩, Fo.cons 2 nilV [] nilV .nil .nil)] rfl ti66 rfl (fun _ => rfl) rfl rfl (by decide) (by decide) rfl (fun v8 rd8 => ?_)
  refine RunL.know (fun w s => (s.conv rfl).ownRd0) (fun rdz1 => ?_)
  refine RunL.call cal29 rfl (s29 (Rd.right rdz1) (Alls.conv al.left.left ((frc rfl (frc (frl (sep_comm _ _)) rfl)) : _ = _).symm) (by assumption)) rfl (fun vz2 Az2 hz2 => ?_)
  obtain ⟨z3, ⟨z4, ⟨rfl, rfl⟩⟩⟩ := hz2
  refine RunL.ok (OpOk.move rfl) rfl ?_
  refine RunL.ok (OpOk.ext20 rfl) rfl ?_
  refine RunL.ok (OpOk.ext21 rfl) rfl ?_
  refine RunL.ok (OpOk.assign rfl) rfl ?_
  refine RunL.ok (OpOk.assign rfl) rfl ?_
  refine RunL.nil ?_
  refine Run.seq ?_
  refine Run.region ?_
  refine RunL.ok (OpOk.move rfl) rfl ?_
  refine RunL.know (fun w s => (s.conv rfl).ownRd0) (fun rdz5 => ?_)
  refine RunL.call cal32 rfl (s32 (Rd.right rdz5) (by assumption) (by decide)) rfl (fun vz6 Az6 hz6 => ?_)
  obtain ⟨z7, ⟨z8, ⟨z9, ⟨rfl, ⟨z10, rfl⟩⟩⟩⟩⟩ := hz6
  refine RunL.ok (OpOk.move rfl) rfl ?_
  refine RunL.ok (OpOk.ext20 rfl) rfl ?_
  refine RunL.ok (OpOk.ext21 rfl) rfl ?_
  refine RunL.ok (OpOk.assign rfl) rfl ?_
  refine RunL.ok (OpOk.assign rfl) rfl ?_
  refine RunL.nil ?_
  refine Run.seq ?_
  refine Run.region ?_
  refine RunL.ok (OpOk.move rfl) rfl ?_
  refine RunL.ok (OpOk.asT (OpOk.eql rfl rfl) (by omega)) rfl ?_
  refine RunL.ok (OpOk.move rfl) rfl ?_
  refine RunL.on rfl rfl ?_
  refine RunL.ok (OpOk.move rfl) rfl ?_
  refine RunL.on rfl rfl ?_
  refine RunL.ok (OpOk.asT (OpOk.eql rfl rfl) (by omega)) rfl ?_
  refine RunL.ok (OpOk.pickT rfl rfl) rfl ?_
  refine RunL.ok (OpOk.move rfl) rfl ?_
  refine RunL.on rfl rfl ?_
  refine RunL.ok (OpOk.move rfl) rfl ?_
  refine RunL.on rfl rfl ?_
  refine RunL.ok (OpOk.strOf rfl rfl rfl rfl (Rd.right rdz5).left.left.left) rfl ?_
  refine RunL.on rfl rfl ?_
  refine RunL.ok (OpOk.eqlSS rfl rfl) rfl ?_
  refine RunL.ok (OpOk.pickT rfl rfl) rfl ?_
  refine RunL.ok (OpOk.move rfl) rfl ?_
  refine RunL.on rfl rfl ?_
  refine RunL.ok (OpOk.move rfl) rfl ?_
  refine RunL.on rfl rfl ?_
  refine RunL.know (fun w s => (s.conv (frl rfl)).ownRd0) (fun rdz11 => ?_)
  refine RunL.ok (OpOk.lenR rfl rfl (Rd.right rdz11).left rfl) rfl ?_
  refine RunL.on rfl rfl ?_
  refine RunL.ok (OpOk.eql rfl rfl) rfl ?_
  refine RunL.ok (OpOk.pickT rfl rfl) rfl ?_
  refine RunL.ok (OpOk.move rfl) rfl ?_
  refine RunL.splitD (t := 36) rfl (fun z12 => ?_) (fun z12 => ?_)
  · refine RunL.on rfl rfl ?_
    refine RunL.ok (OpOk.move rfl) rfl ?_
    refine RunL.on rfl rfl ?_
    refine RunL.ok (OpOk.idx rfl ti66 rfl (Rd.right rdz11).left rfl (by omega) (by omega)) rfl ?_
    refine RunL.on rfl rfl ?_
    refine RunL.ok (OpOk.fieldAddr fld66_2 rfl) rfl ?_
    refine RunL.on rfl rfl ?_
    have h2 : z8.length = 2 := by omega
    obtain ⟨⟨t1, bv1, bs1, ev1, f1⟩, ⟨t2, bv2, bs2, ev2, f2⟩, rfl⟩ : ∃ a b, z8 = [a, b] := by
      match z8, h2 with
      | [a, b], _ => exact ⟨a, b, rfl⟩
    rw [strL, strL, strL, Te.cons.injEq, Te.cons.injEq] at z10
    have h3 : (top f2).length = 1 := by rw [← lenT_strip, z10.2.2.2.2.2.1]; rfl
    refine RunL.ok (OpOk.loadFl1 (i := 1) (j := 2) (size := 3) (u := ev2.1) default rfl rfl rfl (Rd.left (Rd.right rdz11)) (fun _ => rfl) rfl (by simp) rfl) rfl ?_
    refine RunL.know (fun w s => s.ownsE0) (fun alz => ?_)
    have rde := (alz.at_ (t2, bv2, bs2, ev2, f2) (by simp)).2.1
    dsimp only at rde
    refine RunL.on rfl rfl ?_
    refine RunL.ok (OpOk.lenR rfl rfl (Rd.right rde) rfl) rfl ?_
    refine RunL.on rfl rfl ?_
    refine RunL.ok (OpOk.asT (OpOk.eql rfl rfl) (by omega)) rfl ?_
    refine RunL.ok (OpOk.pickT rfl rfl) rfl ?_
    refine RunL.ok (OpOk.assign rfl) rfl ?_
    refine RunL.nil ?_
    refine Run.ret1 Try.func27 rfl rfl ?_
    exact ⟨_, rfl, (asg (asg (asg (asg (asg (asg (asg as1)))))))⟩
  refine RunL.off rfl rfl rfl rfl ?_
  refine RunL.off rfl rfl rfl rfl ?_
  refine RunL.off rfl rfl rfl rfl ?_
  refine RunL.off rfl rfl rfl rfl ?_
  refine RunL.off rfl rfl rfl rfl ?_
  refine RunL.off rfl rfl rfl rfl ?_
  refine RunL.ok (OpOk.pickF rfl rfl) rfl ?_
  refine RunL.ok (OpOk.assign rfl) rfl ?_
  refine RunL.nil ?_
  refine Run.ret1 Try.func27 rfl rfl ?_
  have h3 := congrArg lenT z10
  rw [lenT_strL] at h3
  simp only [lenT] at h3
  omega
end
end Go.Proofs.Ytlheianbmpgefaa
