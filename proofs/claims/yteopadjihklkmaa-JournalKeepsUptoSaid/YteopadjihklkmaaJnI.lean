/- The law's examples; writes without a limit of power. -/
import Derived.Test.YteopadjihklkmaaJnH
namespace Go.Proofs.Yteopadjihklkmaa
open Go Go.Proofs
set_option maxRecDepth 100000
set_option maxHeartbeats 4000000
set_option linter.unusedSimpArgs false
theorem Wr.good {s w : Int} {bs bs2 : List UInt8} {k : UInt8} {C : Cn} {l : List (List UInt8)} (hall : l.all fine = true) (hf : ((rowsB k l).length : Int) ≤ s - bs.length) (hw : w < 0) (hb : bs ++ rowsB k l = bs2) : Wr s w bs false k C l 0 bs2 w false (takesC k C l) := ⟨by
  subst hb
  rw [writeF, if_neg (by decide), if_neg (by rw [hall]; decide), if_neg (by omega), if_neg (by omega), if_neg (by omega)]⟩
theorem Wr.full {s w : Int} {bs : List UInt8} {k : UInt8} {C : Cn} {l : List (List UInt8)} (hall : l.all fine = true) (hf : s - bs.length < (rowsB k l).length) : Wr s w bs false k C l 20 bs w false C := ⟨by
  rw [writeF, if_neg (by decide), if_neg (by rw [hall]; decide), if_pos hf]⟩
theorem Wr.long {s w : Int} {bs : List UInt8} {k : UInt8} {C : Cn} {l : List (List UInt8)} (hall : l.all fine = false) : Wr s w bs false k C l 11 bs w false C := ⟨by
  rw [writeF, if_neg (by decide), if_pos hall]⟩
section
variable {w0 : World} {A : Asn}
theorem s23 : Spec Try.prog w0 23 [] A (fun v' A' => ∃ J, v' = .bool true ∧ A' = A * J) := by
  refine Spec.of_run [] Try.func23 rfl (Nat.le_of_ble_eq_true rfl) (by repeat (first | exact trivial | refine ⟨rfl, ?_⟩)) ?_
  refine Run.seq ?_
  refine Run.region ?_
  refine RunL.ok (OpOk.assign rfl) rfl ?_
  refine RunL.nil ?_
  refine Run.seq ?_
  refine Run.region ?_
  refine RunL.call cal24 rfl (s24b (by omega)) rfl (fun vx2 Ax2 hx2 => ?_)
  obtain ⟨x3, ⟨x4, ⟨rfl, rfl⟩⟩⟩ := hx2
  refine RunL.ok (OpOk.move rfl) rfl ?_
  refine RunL.ok (OpOk.ext20 rfl) rfl ?_
  refine RunL.ok (OpOk.ext21 rfl) rfl ?_
  refine RunL.ok (OpOk.assign rfl) rfl ?_
  refine RunL.ok (OpOk.assign rfl) rfl ?_
  refine RunL.nil ?_
  refine Run.seq ?_
  refine Run.region ?_
  refine RunL.ok (OpOk.move rfl) rfl ?_
  refine RunL.call cal25 rfl (s25b (by decide)) rfl (fun vx5 Ax5 hx5 => ?_)
  obtain ⟨x6, ⟨x7, ⟨x8, ⟨x9, ⟨x10, ⟨x11, ⟨rfl, ⟨x12, rfl⟩⟩⟩⟩⟩⟩⟩⟩ := hx5
  refine RunL.ok (OpOk.move rfl) rfl ?_
  refine RunL.ok (OpOk.ext20 rfl) rfl ?_
  refine RunL.ok (OpOk.ext21 rfl) rfl ?_
  refine RunL.ok (OpOk.assign rfl) rfl ?_
  refine RunL.ok (OpOk.assign rfl) rfl ?_
  refine RunL.nil ?_
  refine Run.seq ?_
  refine Run.seq ?_
  refine Run.region ?_
  refine RunL.ok (OpOk.move rfl) rfl ?_
  refine RunL.ok (OpOk.eqlPN rfl rfl) rfl ?_
  refine RunL.ok (OpOk.move rfl) rfl ?_
  refine RunL.on rfl rfl ?_
  refine RunL.ok (OpOk.move rfl) rfl ?_
  refine RunL.on rfl rfl ?_
  refine RunL.ok (OpOk.eqlPN rfl rfl) rfl ?_
  refine RunL.ok (OpOk.pickF rfl rfl) rfl ?_
  refine RunL.ok (OpOk.move rfl) rfl ?_
  refine RunL.on rfl rfl ?_
  refine RunL.ok (OpOk.move rfl) rfl ?_
  refine RunL.on rfl rfl ?_
  refine RunL.ok (OpOk.as (c := false) (OpOk.neq rfl rfl) (by rw [decide_eq_true (by omega)]; rfl)) rfl ?_
  refine RunL.ok (OpOk.pickF rfl rfl) rfl ?_
  refine RunL.ok (OpOk.move rfl) rfl ?_
  refine RunL.on rfl rfl ?_
  refine RunL.ok (OpOk.move rfl) rfl ?_
  refine RunL.on rfl rfl ?_
  refine RunL.litB (xs := [97, 98]) rfl ti5 rfl rfl rfl (by decide) rfl (fun vx13 rdx13 => ?_)
  refine RunL.on rfl rfl ?_
  refine RunL.mark0 rfl rfl rfl rfl (by first | decide | omega) rfl (fun Jx14 rdx14 => ?_)
  refine RunL.on rfl rfl ?_
  have alx15 : Alls (GB w0) _ [(vx13, [97, 98])] := (Alls.cons (GB.of rdx14) Alls.nil)
  refine RunL.litV (ls := [(vx13, [97, 98])]) (Alls.right alx15) rfl ti63 rfl rfl rfl (by decide) rfl (fun vx15 rdx15 => ?_)
  refine RunL.on rfl rfl ?_
  refine RunL.know (fun w s => (s.conv (frl (frl rfl))).ownsB0) (fun alx16 => ?_)
  refine RunL.know (fun w s => (s.conv rfl).ownRd0) (fun rdx17 => ?_)
  refine RunL.mem (frc (frl (frl rfl)) (frc (frl (frl rfl)) (frc (frl (frl rfl)) (frc (frl (frl rfl)) (frc (frl (frl rfl)) (frc (frl (frl rfl)) rfl)))))) ?_
  have hx : x10 = [] := List.map_eq_nil_iff.1 (show x10.map Prod.snd = [] from x12)
  subst hx
  rw [show contC [] = (([], false, []) : Cn) from rfl, show (says []).2 = 0 from rfl, List.take_nil]
  dsimp only
  obtain ⟨fb, hfb⟩ : ∃ fb : List UInt8, fb = [1, 0, 2, 97, 98, 161, 194] := ⟨_, rfl⟩
  have hfl : fb.length = 7 := by rw [hfb]; rfl
  have hft : fb.take 5 = [1, 0, 2, 97, 98] := by rw [hfb]; rfl
  have hw : Wr 100 (-1) [] false 1 (([], false, List.map Prod.snd ([] : List (Value × List UInt8))) : Cn) ([(vx13, ([97, 98] : List UInt8))].map Prod.snd) 0 fb (-1) false ([], false, [[97, 98]]) := Wr.good (l := [[97, 98]]) (C := ([], false, [])) (by decide) (by decide +kernel) (by decide) (by rw [hfb]; decide +kernel)
  refine RunL.call cal28 rfl (s28 (Rd.right rdx17) (Alls.right alx15).left (by assumption) (by omega) (by omega) (by omega) (by decide) (by decide) (by omega)) rfl (fun vy1 Ay1 hy1 => ?_)
  obtain ⟨y2, ⟨y3, ⟨y4, ⟨y5, ⟨y6, ⟨rfl, ⟨y7, rfl⟩⟩⟩⟩⟩⟩⟩ := hy1
  refine RunL.on rfl rfl ?_
  refine RunL.ok (OpOk.as (c := false) (OpOk.neq rfl rfl) (by rw [decide_eq_true (by omega)]; rfl)) rfl ?_
  refine RunL.ok (OpOk.pickF rfl rfl) rfl ?_
  refine RunL.ok (OpOk.move rfl) rfl ?_
  refine RunL.on rfl rfl ?_
  refine RunL.ok (OpOk.move rfl) rfl ?_
  refine RunL.on rfl rfl ?_
  refine RunL.know (fun w s => (s.conv rfl).ownsB0) (fun aly8 => ?_)
  refine RunL.call cal29 rfl (s29) rfl (fun vy9 Ay9 hy9 => ?_)
  obtain ⟨rfl, rfl⟩ := hy9
  refine RunL.on rfl rfl ?_
  refine RunL.ok (OpOk.neq rfl rfl) rfl ?_
  refine RunL.ok (OpOk.pickF rfl rfl) rfl ?_
  refine RunL.nil ?_
  refine Run.condN rfl (fun y10 => ?_) (fun y10 => ?_)
  · refine Run.seq ?_
    refine Run.region ?_
    refine RunL.ok (OpOk.assign rfl) rfl ?_
    refine RunL.nil ?_
    refine Run.ret1 Try.func23 rfl rfl ?_
    have := congrArg List.length y7
    simp at this
    omega
  refine Run.skip ?_
  refine Run.seq ?_
  refine Run.region ?_
  refine RunL.ok (OpOk.move rfl) rfl ?_
  refine RunL.mem (frc (frl (frl (frl (frl rfl)))) (frc (frl (frl (frl (frl rfl)))) rfl)) ?_
  refine RunL.call cal32 rfl (s32 (by omega)) rfl (fun vy11 Ay11 hy11 => ?_)
  obtain rfl := hy11
  refine RunL.ok (OpOk.assign rfl) rfl ?_
  refine RunL.nil ?_
  refine Run.seq ?_
  refine Run.region ?_
  refine RunL.ok (OpOk.move rfl) rfl ?_
  refine RunL.know (fun w s => (s.conv rfl).ownRd0) (fun rdy12 => ?_)
  refine RunL.ok (OpOk.lenR rfl rfl (Rd.right rdy12) rfl) rfl ?_
  refine RunL.ok (OpOk.asT (OpOk.eql rfl rfl) (by omega)) rfl ?_
  refine RunL.ok (OpOk.move rfl) rfl ?_
  refine RunL.on rfl rfl ?_
  refine RunL.ok (OpOk.move rfl) rfl ?_
  refine RunL.on rfl rfl ?_
  refine RunL.ok (OpOk.cut (j := 5) rfl ti5 rfl (Rd.right rdy12) rfl ⟨_, rfl⟩ (by omega) (by omega)) rfl ?_
  refine RunL.on rfl rfl ?_
  refine RunL.ok (OpOk.strOf rfl rfl rfl rfl (Rd.cutB0 (Rd.right rdy12) (by omega))) rfl ?_
  refine RunL.on rfl rfl ?_
  refine RunL.ok (OpOk.asT (OpOk.eqlSS rfl rfl) (by omega)) rfl ?_
  refine RunL.ok (OpOk.pickT rfl rfl) rfl ?_
  refine RunL.ok (OpOk.move rfl) rfl ?_
  refine RunL.on rfl rfl ?_
  refine RunL.ok (OpOk.move rfl) rfl ?_
  refine RunL.on rfl rfl ?_
  refine RunL.litB (xs := [115]) rfl ti5 rfl rfl rfl (by decide) rfl (fun vy13 rdy13 => ?_)
  refine RunL.on rfl rfl ?_
  refine RunL.mark0 rfl rfl rfl rfl (by first | decide | omega) rfl (fun Jy14 rdy14 => ?_)
  refine RunL.on rfl rfl ?_
  refine RunL.mem (frc (frl (frl (frl (frl rfl)))) (frc (frl (frl (frl (frl rfl)))) (frc (frl (frl (frl (frl rfl)))) (frc (frl (frl (frl (frl rfl)))) (frc (frl (frl rfl)) (frc (frl (frl rfl)) rfl)))))) ?_
  dsimp only
  obtain ⟨fb2, hfb2⟩ : ∃ fb2 : List UInt8, fb2 = fb ++ rowsB 2 [[115]] := ⟨_, rfl⟩
  have hf2 : ((rowsB 2 [[115]]).length : Int) ≤ 100 - (fb.length : Int) := by rw [hfl]; decide +kernel
  have hw2 : Wr 100 (-1) fb false 2 (([], false, List.map Prod.snd y5) : Cn) [[115]] 0 fb2 (-1) false ([115], true, []) := Wr.good (l := [[115]]) (C := ([], false, List.map Prod.snd y5)) (by decide) hf2 (by decide) hfb2.symm
  have hy5 : y5.length ≤ 8388608 := by omega
  refine RunL.call cal27 rfl (s27 (Rd.right rdy14) (by assumption) (by omega) (by omega) (by omega) (by assumption) (by omega)) rfl (fun vz1 Az1 hz1 => ?_)
  obtain ⟨z2, ⟨z3, ⟨z4, ⟨z5, ⟨z6, ⟨rfl, ⟨z7, rfl⟩⟩⟩⟩⟩⟩⟩ := hz1
  refine RunL.on rfl rfl ?_
  refine RunL.ok (OpOk.asT (OpOk.eql rfl rfl) (by omega)) rfl ?_
  refine RunL.ok (OpOk.pickT rfl rfl) rfl ?_
  refine RunL.ok (OpOk.move rfl) rfl ?_
  refine RunL.on rfl rfl ?_
  refine RunL.ok (OpOk.move rfl) rfl ?_
  refine RunL.on rfl rfl ?_
  refine RunL.know (fun w s => (s.conv rfl).ownsB0) (fun alz8 => ?_)
  refine RunL.call cal29 rfl (s29) rfl (fun vz9 Az9 hz9 => ?_)
  obtain ⟨rfl, rfl⟩ := hz9
  refine RunL.on rfl rfl ?_
  refine RunL.ok (OpOk.eql rfl rfl) rfl ?_
  refine RunL.ok (OpOk.pickT rfl rfl) rfl ?_
  refine RunL.ok (OpOk.assign rfl) rfl ?_
  refine RunL.nil ?_
  refine Run.ret1 Try.func23 rfl rfl ?_
  have hz5 : (z5.length : Int) = 0 := by
    have := congrArg List.length z7
    simp at this
    simp [this]
  rw [decide_eq_true hz5]
  have key : ∀ X Y : Asn, X = Y → (∃ J, Y = A * J) → ∃ J, Value.bool true = Value.bool true ∧ X = A * J := fun X Y e ⟨J, h⟩ => ⟨J, rfl, e.trans h⟩
  exact key _ _ (by simp only [sep_assoc]; rfl) ⟨_, rfl⟩
end
end Go.Proofs.Yteopadjihklkmaa
