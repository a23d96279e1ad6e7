/- The document's file; the document's examples of files. -/
import Derived.Test.YtlmehpjcmdipmaaFiA
namespace Go.Proofs.Ytlmehpjcmdipmaa
open Go Go.Proofs
set_option maxRecDepth 100000
set_option maxHeartbeats 4000000
theorem apB_length (s w : Int) (bs all : List UInt8) : (apB s w bs all).length ≤ bs.length + all.length := by
  unfold apB
  split
  · omega
  · rw [List.length_append, List.length_take]; omega
theorem s34 {w0 : World} {A : Asn} {p m : Nat} {u : Value} {s w : Int} {bs : List UInt8} {ls : List (Value × List UInt8)} (rd : Rd w0 A u 1 m (Fl encV ls)) (hin : Alls (GB w0) A ls) (hs : 0 ≤ s) (hs2 : s ≤ 9223372036854775807) (hw2 : w ≤ 9223372036854775807) (hlim : bs.length + (flatB ls).length ≤ 140737488355328) :
    Spec Try.prog w0 34 [.pointer (some ⟨p, 0, none⟩), u] (A * pts p (.cells #[.int .i64 (s), .int .i64 (w), S (bs)] 75 (0, 0))) (fun v' A' => v' = .int .i64 (apE s w bs (flatB ls)) ∧ A' = A * pts p (.cells #[.int .i64 (s), .int .i64 (apW s w bs (flatB ls)), S (apB s w bs (flatB ls))] 75 (0, 0))) := by
  have hl := rd.lenFl (fun _ => rfl) (by decide)
  subst hl
  have hmax := rd.max
  refine Spec.of_run [(0, .pointer (some ⟨p, 0, none⟩)), (1, u)] Try.func34 rfl (Nat.le_of_ble_eq_true rfl) (by repeat (first | exact trivial | refine ⟨rfl, ?_⟩)) ?_
  refine Run.seq ?_
  refine Run.region ?_
  refine RunL.ok (OpOk.assign rfl) rfl ?_
  refine RunL.nil ?_
  refine Run.seq ?_
  refine Run.region ?_
  refine RunL.ok (OpOk.assign rfl) rfl ?_
  refine RunL.nil ?_
  refine Run.seq ?_
  refine Run.seq ?_
  refine Run.region ?_
  refine RunL.ok (OpOk.assign rfl) rfl ?_
  refine RunL.nil ?_
  refine Run.block ?_
  refine Run.jump ((Run.loopJ (X := Nat) (fun i => [(0, .pointer (some ⟨p, 0, none⟩)), (1, u), (5, S (flatB (ls.take i))), (6, .int .i64 i)]) (fun _ => A * pts p (.cells #[.int .i64 (s), .int .i64 (w), S (bs)] 75 (0, 0))) (fun i => i ≤ ls.length) (fun i => ls.length - i) 0 (Nat.zero_le _) (fun i hi ih => ?_))) ⟨rfl, rfl, rfl, rfl, trivial⟩ ((Grew.refl _))
  have hf := flatB_le ls i
  rcases Nat.lt_or_ge i ls.length with hlt | hge
  · have hf2 := flatB_le ls (i + 1)
    have hft := congrArg List.length (flatB_take hlt)
    rw [List.length_append] at hft
    have rdi : Rd w0 A (ls.getD i default).1 1 (ls.getD i default).2.length (B (ls.getD i default).2) := hin.get hlt
    have hv := Fl_V ls i hlt
    refine Run.seq ?_
    refine Run.seq ?_
    refine Run.region ?_
    refine RunL.ok (OpOk.move rfl) rfl ?_
    refine RunL.ok (OpOk.move rfl) rfl ?_
    refine RunL.ok (OpOk.lenR rfl rfl rd.left rfl) rfl ?_
    refine RunL.ok (OpOk.asT (OpOk.lss rfl rfl) (by omega)) rfl ?_
    refine RunL.nil ?_
    refine Run.condT rfl ?_
    refine Run.skip ?_
    refine Run.seq ?_
    refine Run.block ?_
    refine Run.region ?_
    refine RunL.ok (OpOk.move rfl) rfl ?_
    refine RunL.ok (OpOk.move rfl) rfl ?_
    refine RunL.ok (OpOk.move rfl) rfl ?_
    refine RunL.ok (OpOk.idx1N rfl ti37 rfl rd.left rfl (by omega)) rfl ?_
    refine RunL.ok (OpOk.load rfl rfl rfl (Rd.cell rd.left (by first | assumption | rfl))) rfl ?_
    refine RunL.ok (OpOk.strOf rfl rfl rfl rfl rdi.left) rfl ?_
    refine RunL.ok (OpOk.addSS rfl rfl (by omega)) rfl ?_
    refine RunL.ok (OpOk.assign rfl) rfl ?_
    refine RunL.nil ?_
    refine Run.inBlock ?_
    refine Run.region ?_
    refine RunL.ok (OpOk.move rfl) rfl ?_
    refine RunL.ok (OpOk.addN _ 1 rfl rfl rfl rfl (by omega)) rfl ?_
    refine RunL.ok (OpOk.assign rfl) rfl ?_
    refine RunL.nil ?_
    rw [← flatB_take hlt]
    refine Run.jump ((ih (i + 1) (by omega) (by omega))) ⟨rfl, rfl, rfl, rfl, trivial⟩ ((Grew.refl _))
  · obtain rfl : i = ls.length := by omega
    rw [List.take_length] at *
    clear ih
    generalize hall : flatB ls = all at *
    rcases Int.lt_or_le (s - bs.length) all.length with hf | hf
    · have e1 : apE s w bs all = 20 := if_pos hf
      have e2 : apB s w bs all = bs := if_pos hf
      have e3 : apW s w bs all = w := if_pos hf
      rw [e1, e2, e3]
      refine Run.seq ?_
      refine Run.seq ?_
      refine Run.region ?_
      refine RunL.ok (OpOk.move rfl) rfl ?_
      refine RunL.ok (OpOk.move rfl) rfl ?_
      refine RunL.ok (OpOk.lenR rfl rfl rd.left rfl) rfl ?_
      refine RunL.ok (OpOk.asF (OpOk.lss rfl rfl) (by omega)) rfl ?_
      refine RunL.nil ?_
      refine Run.condF rfl ?_
      refine Run.exit rfl ?_
      refine Run.seq ?_
      refine Run.seq ?_
      (apply Run.drawD [] (by rfl) (sep_emp _).symm; case hchk => kernel_rfl)
      refine Sd.quiet 0 _ _ rfl rfl rfl rfl rfl (QOp.ok (fun X => OpOk.move rfl)) ?_
      refine Sd.quiet 1 _ _ rfl rfl rfl rfl rfl (QOp.ok (fun X => OpOk.lenSS rfl rfl rfl)) ?_
      refine Sd.quiet 2 _ _ rfl rfl rfl rfl rfl (QOp.ok (fun X => OpOk.move rfl)) ?_
      refine Sd.quiet 3 _ _ rfl rfl rfl rfl rfl (QOp.ok (fun X => OpOk.nilOk rfl)) ?_
      refine Sd.quiet 4 _ _ rfl rfl rfl rfl rfl (QOp.ok (fun X => OpOk.fieldAddr fld75_0 rfl)) ?_
      refine Sd.quiet 5 _ _ rfl rfl rfl rfl rfl (QOp.ok (fun X => OpOk.load rfl rfl rfl (Blk.out Blk.pts.left.left _ _ rfl))) ?_
      refine Sd.quiet 6 _ _ rfl rfl rfl rfl rfl (QOp.ok (fun X => OpOk.move rfl)) ?_
      refine Sd.quiet 7 _ _ rfl rfl rfl rfl rfl (QOp.ok (fun X => OpOk.nilOk rfl)) ?_
      refine Sd.quiet 8 _ _ rfl rfl rfl rfl rfl (QOp.ok (fun X => OpOk.fieldAddr fld75_2 rfl)) ?_
      refine Sd.quiet 9 _ _ rfl rfl rfl rfl rfl (QOp.ok (fun X => OpOk.load rfl rfl rfl (Blk.out Blk.pts.left.left _ _ rfl))) ?_
      refine Sd.quiet 10 _ _ rfl rfl rfl rfl rfl (QOp.ok (fun X => OpOk.lenSS rfl rfl rfl)) ?_
      refine Sd.quiet 11 _ _ rfl rfl rfl rfl rfl (QOp.ok (fun X => OpOk.sub rfl rfl (wrapI (by omega) (by omega)))) ?_
      refine Sd.quiet 12 _ _ rfl rfl rfl rfl rfl (QOp.ok (fun X => OpOk.asT (OpOk.gtr rfl rfl) (by omega))) ?_
      (apply Sd.tail; case hall => kernel_rfl)
      refine RunL.mem (fl2 (sep_emp _) (sep_emp _)) ?_
      refine RunL.nil ?_
      refine Run.condT rfl ?_
      refine Run.seq ?_
      refine Run.region ?_
      refine RunL.ok (OpOk.assign rfl) rfl ?_
      refine RunL.nil ?_
      refine Run.ret1 Try.func34 rfl rfl ?_
      exact ⟨rfl, rfl⟩
    · rcases Int.lt_or_le w 0 with hw | hw
      · have hN : apN w all = all.length := if_neg (by omega)
        have e1 : apE s w bs all = 0 := by unfold apE; rw [if_neg (by omega), hN, if_neg (by omega)]
        have e2 : apB s w bs all = bs ++ all := by unfold apB; rw [if_neg (by omega), hN, List.take_length]
        have e3 : apW s w bs all = w := by unfold apW; rw [if_neg (by omega), if_neg (by omega)]
        rw [e1, e2, e3]
        refine Run.seq ?_
        refine Run.seq ?_
        refine Run.region ?_
        refine RunL.ok (OpOk.move rfl) rfl ?_
        refine RunL.ok (OpOk.move rfl) rfl ?_
        refine RunL.ok (OpOk.lenR rfl rfl rd.left rfl) rfl ?_
        refine RunL.ok (OpOk.asF (OpOk.lss rfl rfl) (by omega)) rfl ?_
        refine RunL.nil ?_
        refine Run.condF rfl ?_
        refine Run.exit rfl ?_
        refine Run.seq ?_
        refine Run.seq ?_
        (apply Run.drawD [] (by rfl) (sep_emp _).symm; case hchk => kernel_rfl)
        refine Sd.quiet 0 _ _ rfl rfl rfl rfl rfl (QOp.ok (fun X => OpOk.move rfl)) ?_
        refine Sd.quiet 1 _ _ rfl rfl rfl rfl rfl (QOp.ok (fun X => OpOk.lenSS rfl rfl rfl)) ?_
        refine Sd.quiet 2 _ _ rfl rfl rfl rfl rfl (QOp.ok (fun X => OpOk.move rfl)) ?_
        refine Sd.quiet 3 _ _ rfl rfl rfl rfl rfl (QOp.ok (fun X => OpOk.nilOk rfl)) ?_
        refine Sd.quiet 4 _ _ rfl rfl rfl rfl rfl (QOp.ok (fun X => OpOk.fieldAddr fld75_0 rfl)) ?_
        refine Sd.quiet 5 _ _ rfl rfl rfl rfl rfl (QOp.ok (fun X => OpOk.load rfl rfl rfl (Blk.out Blk.pts.left.left _ _ rfl))) ?_
        refine Sd.quiet 6 _ _ rfl rfl rfl rfl rfl (QOp.ok (fun X => OpOk.move rfl)) ?_
        refine Sd.quiet 7 _ _ rfl rfl rfl rfl rfl (QOp.ok (fun X => OpOk.nilOk rfl)) ?_
        refine Sd.quiet 8 _ _ rfl rfl rfl rfl rfl (QOp.ok (fun X => OpOk.fieldAddr fld75_2 rfl)) ?_
        refine Sd.quiet 9 _ _ rfl rfl rfl rfl rfl (QOp.ok (fun X => OpOk.load rfl rfl rfl (Blk.out Blk.pts.left.left _ _ rfl))) ?_
        refine Sd.quiet 10 _ _ rfl rfl rfl rfl rfl (QOp.ok (fun X => OpOk.lenSS rfl rfl rfl)) ?_
        refine Sd.quiet 11 _ _ rfl rfl rfl rfl rfl (QOp.ok (fun X => OpOk.sub rfl rfl (wrapI (by omega) (by omega)))) ?_
        refine Sd.quiet 12 _ _ rfl rfl rfl rfl rfl (QOp.ok (fun X => OpOk.asF (OpOk.gtr rfl rfl) (by omega))) ?_
        (apply Sd.tail; case hall => kernel_rfl)
        refine RunL.mem (fl2 (sep_emp _) (sep_emp _)) ?_
        refine RunL.nil ?_
        refine Run.condF rfl ?_
        refine Run.skip ?_
        refine Run.seq ?_
        refine Run.seq ?_
        refine Run.region ?_
        refine RunL.ok (OpOk.move rfl) rfl ?_
        refine RunL.ok (OpOk.nilOk rfl) rfl ?_
        refine RunL.ok (OpOk.fieldAddr fld75_1 rfl) rfl ?_
        refine RunL.ok (OpOk.load rfl rfl rfl (Blk.out Blk.pts _ _ rfl)) rfl ?_
        refine RunL.ok (OpOk.asF (OpOk.geq rfl rfl) (by omega)) rfl ?_
        refine RunL.ok (OpOk.move rfl) rfl ?_
        refine RunL.off rfl rfl rfl rfl ?_
        refine RunL.off rfl rfl rfl rfl ?_
        refine RunL.off rfl rfl rfl rfl ?_
        refine RunL.off rfl rfl rfl rfl ?_
        refine RunL.off rfl rfl rfl rfl ?_
        refine RunL.off rfl rfl rfl rfl ?_
        refine RunL.off rfl rfl rfl rfl ?_
        refine RunL.ok (OpOk.pickF rfl rfl) rfl ?_
        refine RunL.nil ?_
        refine Run.condF rfl ?_
        refine Run.skip ?_
        refine Run.seq ?_
        refine Run.region ?_
        refine RunL.ok (OpOk.move rfl) rfl ?_
        refine RunL.ok (OpOk.move rfl) rfl ?_
        refine RunL.ok (OpOk.nilOk rfl) rfl ?_
        refine RunL.ok (OpOk.fieldAddr fld75_2 rfl) rfl ?_
        refine RunL.ok (OpOk.load rfl rfl rfl (Blk.out Blk.pts _ _ rfl)) rfl ?_
        refine RunL.ok (OpOk.move rfl) rfl ?_
        refine RunL.ok (OpOk.addSS rfl rfl (by omega)) rfl ?_
        refine RunL.ok (OpOk.nilOk rfl) rfl ?_
        refine RunL.ok (OpOk.fieldAddr fld75_2 rfl) rfl ?_
        refine RunL.store ti9 rfl rfl rfl rfl (by exact Nat.le_of_ble_eq_true rfl) (.inl rfl) ?_
        refine RunL.nil ?_
        refine Run.seq ?_
        refine Run.seq ?_
        refine Run.region ?_
        refine RunL.ok (OpOk.move rfl) rfl ?_
        refine RunL.ok (OpOk.nilOk rfl) rfl ?_
        refine RunL.ok (OpOk.fieldAddr fld75_1 rfl) rfl ?_
        refine RunL.ok (OpOk.load rfl rfl rfl (Blk.out Blk.pts _ _ rfl)) rfl ?_
        refine RunL.ok (OpOk.asF (OpOk.geq rfl rfl) (by omega)) rfl ?_
        refine RunL.nil ?_
        refine Run.condF rfl ?_
        refine Run.skip ?_
        refine Run.seq ?_
        refine Run.region ?_
        refine RunL.ok (OpOk.assign rfl) rfl ?_
        refine RunL.nil ?_
        refine Run.keep (A * pts p (Obj.cells #[Value.int IntKind.i64 s, Value.int IntKind.i64 w, S (bs ++ all)] 75)) (Grew.of (frc rfl rfl) (Grew.refl _)) ?_
        refine Run.ret1 Try.func34 rfl rfl ?_
        exact ⟨rfl, rfl⟩
      · obtain ⟨w, rfl⟩ := Int.eq_ofNat_of_zero_le hw
        have hN : apN w all = min all.length w := if_pos (by omega)
        rcases Nat.lt_or_ge w all.length with hn | hn
        · have e1 : apE s w bs all = 30 := by unfold apE; rw [if_neg (by omega), hN, if_pos (by omega)]
          have e2 : apB s w bs all = bs ++ (all.drop 0).take (w - 0) := by unfold apB; rw [if_neg (by omega), hN, Nat.min_eq_right (by omega)]; rfl
          have e3 : apW s w bs all = 0 := by unfold apW; rw [if_neg (by omega), if_pos (by omega), hN]; omega
          have e4 : ((all.drop 0).take (w - 0)).length = w := by rw [List.length_take, List.length_drop]; omega
          rw [e1, e2, e3]
          refine Run.seq ?_
          refine Run.seq ?_
          refine Run.region ?_
          refine RunL.ok (OpOk.move rfl) rfl ?_
          refine RunL.ok (OpOk.move rfl) rfl ?_
          refine RunL.ok (OpOk.lenR rfl rfl rd.left rfl) rfl ?_
          refine RunL.ok (OpOk.asF (OpOk.lss rfl rfl) (by omega)) rfl ?_
          refine RunL.nil ?_
          refine Run.condF rfl ?_
          refine Run.exit rfl ?_
          refine Run.seq ?_
          refine Run.seq ?_
          (apply Run.drawD [] (by rfl) (sep_emp _).symm; case hchk => kernel_rfl)
          refine Sd.quiet 0 _ _ rfl rfl rfl rfl rfl (QOp.ok (fun X => OpOk.move rfl)) ?_
          refine Sd.quiet 1 _ _ rfl rfl rfl rfl rfl (QOp.ok (fun X => OpOk.lenSS rfl rfl rfl)) ?_
          refine Sd.quiet 2 _ _ rfl rfl rfl rfl rfl (QOp.ok (fun X => OpOk.move rfl)) ?_
          refine Sd.quiet 3 _ _ rfl rfl rfl rfl rfl (QOp.ok (fun X => OpOk.nilOk rfl)) ?_
          refine Sd.quiet 4 _ _ rfl rfl rfl rfl rfl (QOp.ok (fun X => OpOk.fieldAddr fld75_0 rfl)) ?_
          refine Sd.quiet 5 _ _ rfl rfl rfl rfl rfl (QOp.ok (fun X => OpOk.load rfl rfl rfl (Blk.out Blk.pts.left.left _ _ rfl))) ?_
          refine Sd.quiet 6 _ _ rfl rfl rfl rfl rfl (QOp.ok (fun X => OpOk.move rfl)) ?_
          refine Sd.quiet 7 _ _ rfl rfl rfl rfl rfl (QOp.ok (fun X => OpOk.nilOk rfl)) ?_
          refine Sd.quiet 8 _ _ rfl rfl rfl rfl rfl (QOp.ok (fun X => OpOk.fieldAddr fld75_2 rfl)) ?_
          refine Sd.quiet 9 _ _ rfl rfl rfl rfl rfl (QOp.ok (fun X => OpOk.load rfl rfl rfl (Blk.out Blk.pts.left.left _ _ rfl))) ?_
          refine Sd.quiet 10 _ _ rfl rfl rfl rfl rfl (QOp.ok (fun X => OpOk.lenSS rfl rfl rfl)) ?_
          refine Sd.quiet 11 _ _ rfl rfl rfl rfl rfl (QOp.ok (fun X => OpOk.sub rfl rfl (wrapI (by omega) (by omega)))) ?_
          refine Sd.quiet 12 _ _ rfl rfl rfl rfl rfl (QOp.ok (fun X => OpOk.asF (OpOk.gtr rfl rfl) (by omega))) ?_
          (apply Sd.tail; case hall => kernel_rfl)
          refine RunL.mem (fl2 (sep_emp _) (sep_emp _)) ?_
          refine RunL.nil ?_
          refine Run.condF rfl ?_
          refine Run.skip ?_
          refine Run.seq ?_
          refine Run.seq ?_
          refine Run.region ?_
          refine RunL.ok (OpOk.move rfl) rfl ?_
          refine RunL.ok (OpOk.nilOk rfl) rfl ?_
          refine RunL.ok (OpOk.fieldAddr fld75_1 rfl) rfl ?_
          refine RunL.ok (OpOk.load rfl rfl rfl (Blk.out Blk.pts _ _ rfl)) rfl ?_
          refine RunL.ok (OpOk.asT (OpOk.geq rfl rfl) (by omega)) rfl ?_
          refine RunL.ok (OpOk.move rfl) rfl ?_
          refine RunL.on rfl rfl ?_
          refine RunL.ok (OpOk.move rfl) rfl ?_
          refine RunL.on rfl rfl ?_
          refine RunL.ok (OpOk.nilOk rfl) rfl ?_
          refine RunL.on rfl rfl ?_
          refine RunL.ok (OpOk.fieldAddr fld75_1 rfl) rfl ?_
          refine RunL.on rfl rfl ?_
          refine RunL.ok (OpOk.load rfl rfl rfl (Blk.out Blk.pts _ _ rfl)) rfl ?_
          refine RunL.on rfl rfl ?_
          refine RunL.ok (OpOk.move rfl) rfl ?_
          refine RunL.on rfl rfl ?_
          refine RunL.ok (OpOk.lenSS rfl rfl rfl) rfl ?_
          refine RunL.on rfl rfl ?_
          refine RunL.ok (OpOk.asT (OpOk.lss rfl rfl) (by omega)) rfl ?_
          refine RunL.ok (OpOk.pickT rfl rfl) rfl ?_
          refine RunL.nil ?_
          refine Run.condT rfl ?_
          refine Run.seq ?_
          (apply Run.drawD [14] (by rfl) (sep_emp _).symm; case hchk => kernel_rfl)
          refine Sd.quiet 0 _ _ rfl rfl rfl rfl rfl (QOp.ok (fun X => OpOk.move rfl)) ?_
          refine Sd.quiet 1 _ _ rfl rfl rfl rfl rfl (QOp.ok (fun X => OpOk.move rfl)) ?_
          refine Sd.quiet 2 _ _ rfl rfl rfl rfl rfl (QOp.ok (fun X => OpOk.nilOk rfl)) ?_
          refine Sd.quiet 3 _ _ rfl rfl rfl rfl rfl (QOp.ok (fun X => OpOk.fieldAddr fld75_2 rfl)) ?_
          refine Sd.quiet 4 _ _ rfl rfl rfl rfl rfl (QOp.ok (fun X => OpOk.load rfl rfl rfl (Blk.out Blk.pts.left.left _ _ rfl))) ?_
          refine Sd.quiet 5 _ _ rfl rfl rfl rfl rfl (QOp.ok (fun X => OpOk.move rfl)) ?_
          refine Sd.quiet 6 _ _ rfl rfl rfl rfl rfl (QOp.ok (fun X => OpOk.move rfl)) ?_
          refine Sd.quiet 7 _ _ rfl rfl rfl rfl rfl (QOp.ok (fun X => OpOk.nilOk rfl)) ?_
          refine Sd.quiet 8 _ _ rfl rfl rfl rfl rfl (QOp.ok (fun X => OpOk.fieldAddr fld75_1 rfl)) ?_
          refine Sd.quiet 9 _ _ rfl rfl rfl rfl rfl (QOp.ok (fun X => OpOk.load rfl rfl rfl (Blk.out Blk.pts.left.left _ _ rfl))) ?_
          refine Sd.quiet 10 _ _ rfl rfl rfl rfl rfl (QOp.ok (fun X => OpOk.cutSS rfl rfl rfl ⟨_, rfl⟩ (by omega) (by omega))) ?_
          refine Sd.quiet 11 _ _ rfl rfl rfl rfl rfl (QOp.ok (fun X => OpOk.addSS rfl rfl (by omega))) ?_
          refine Sd.quiet 12 _ _ rfl rfl rfl rfl rfl (QOp.ok (fun X => OpOk.nilOk rfl)) ?_
          refine Sd.quiet 13 _ _ rfl rfl rfl rfl rfl (QOp.ok (fun X => OpOk.fieldAddr fld75_2 rfl)) ?_
          (apply Sd.tail; case hall => kernel_rfl)
          refine RunL.mem (fl2 (sep_emp _) (sep_emp _)) ?_
          refine RunL.store ti9 rfl rfl rfl rfl (by exact Nat.le_of_ble_eq_true rfl) (.inl rfl) ?_
          refine RunL.nil ?_
          refine Run.seq ?_
          refine Run.region ?_
          refine RunL.ok (OpOk.move rfl) rfl ?_
          refine RunL.ok (OpOk.nilOk rfl) rfl ?_
          refine RunL.ok (OpOk.fieldAddr fld75_1 rfl) rfl ?_
          refine RunL.store ti3 rfl rfl rfl rfl (by exact Nat.le_of_ble_eq_true rfl) (.inl rfl) ?_
          refine RunL.nil ?_
          refine Run.seq ?_
          refine Run.region ?_
          refine RunL.ok (OpOk.assign rfl) rfl ?_
          refine RunL.nil ?_
          refine Run.keep (A *   pts p     (Obj.cells #[Value.int IntKind.i64 s, Value.int IntKind.i64 0, S (bs ++ List.take (w - 0) (List.drop 0 all))] 75)) (Grew.of (frc rfl rfl) (Grew.refl _)) ?_
          refine Run.ret1 Try.func34 rfl rfl ?_
          exact ⟨rfl, rfl⟩
        · have e1 : apE s w bs all = 0 := by unfold apE; rw [if_neg (by omega), hN, if_neg (by omega)]
          have e2 : apB s w bs all = bs ++ all := by unfold apB; rw [if_neg (by omega), hN, Nat.min_eq_left (by omega), List.take_length]
          have e3 : apW s w bs all = ((w - all.length : Nat) : Int) := by unfold apW; rw [if_neg (by omega), if_pos (by omega), hN]; omega
          rw [e1, e2, e3]
          refine Run.seq ?_
          refine Run.seq ?_
          refine Run.region ?_
          refine RunL.ok (OpOk.move rfl) rfl ?_
          refine RunL.ok (OpOk.move rfl) rfl ?_
          refine RunL.ok (OpOk.lenR rfl rfl rd.left rfl) rfl ?_
          refine RunL.ok (OpOk.asF (OpOk.lss rfl rfl) (by omega)) rfl ?_
          refine RunL.nil ?_
          refine Run.condF rfl ?_
          refine Run.exit rfl ?_
          refine Run.seq ?_
          refine Run.seq ?_
          (apply Run.drawD [] (by rfl) (sep_emp _).symm; case hchk => kernel_rfl)
          refine Sd.quiet 0 _ _ rfl rfl rfl rfl rfl (QOp.ok (fun X => OpOk.move rfl)) ?_
          refine Sd.quiet 1 _ _ rfl rfl rfl rfl rfl (QOp.ok (fun X => OpOk.lenSS rfl rfl rfl)) ?_
          refine Sd.quiet 2 _ _ rfl rfl rfl rfl rfl (QOp.ok (fun X => OpOk.move rfl)) ?_
          refine Sd.quiet 3 _ _ rfl rfl rfl rfl rfl (QOp.ok (fun X => OpOk.nilOk rfl)) ?_
          refine Sd.quiet 4 _ _ rfl rfl rfl rfl rfl (QOp.ok (fun X => OpOk.fieldAddr fld75_0 rfl)) ?_
          refine Sd.quiet 5 _ _ rfl rfl rfl rfl rfl (QOp.ok (fun X => OpOk.load rfl rfl rfl (Blk.out Blk.pts.left.left _ _ rfl))) ?_
          refine Sd.quiet 6 _ _ rfl rfl rfl rfl rfl (QOp.ok (fun X => OpOk.move rfl)) ?_
          refine Sd.quiet 7 _ _ rfl rfl rfl rfl rfl (QOp.ok (fun X => OpOk.nilOk rfl)) ?_
          refine Sd.quiet 8 _ _ rfl rfl rfl rfl rfl (QOp.ok (fun X => OpOk.fieldAddr fld75_2 rfl)) ?_
          refine Sd.quiet 9 _ _ rfl rfl rfl rfl rfl (QOp.ok (fun X => OpOk.load rfl rfl rfl (Blk.out Blk.pts.left.left _ _ rfl))) ?_
          refine Sd.quiet 10 _ _ rfl rfl rfl rfl rfl (QOp.ok (fun X => OpOk.lenSS rfl rfl rfl)) ?_
          refine Sd.quiet 11 _ _ rfl rfl rfl rfl rfl (QOp.ok (fun X => OpOk.sub rfl rfl (wrapI (by omega) (by omega)))) ?_
          refine Sd.quiet 12 _ _ rfl rfl rfl rfl rfl (QOp.ok (fun X => OpOk.asF (OpOk.gtr rfl rfl) (by omega))) ?_
          (apply Sd.tail; case hall => kernel_rfl)
          refine RunL.mem (fl2 (sep_emp _) (sep_emp _)) ?_
          refine RunL.nil ?_
          refine Run.condF rfl ?_
          refine Run.skip ?_
          refine Run.seq ?_
          refine Run.seq ?_
          refine Run.region ?_
          refine RunL.ok (OpOk.move rfl) rfl ?_
          refine RunL.ok (OpOk.nilOk rfl) rfl ?_
          refine RunL.ok (OpOk.fieldAddr fld75_1 rfl) rfl ?_
          refine RunL.ok (OpOk.load rfl rfl rfl (Blk.out Blk.pts _ _ rfl)) rfl ?_
          refine RunL.ok (OpOk.asT (OpOk.geq rfl rfl) (by omega)) rfl ?_
          refine RunL.ok (OpOk.move rfl) rfl ?_
          refine RunL.on rfl rfl ?_
          refine RunL.ok (OpOk.move rfl) rfl ?_
          refine RunL.on rfl rfl ?_
          refine RunL.ok (OpOk.nilOk rfl) rfl ?_
          refine RunL.on rfl rfl ?_
          refine RunL.ok (OpOk.fieldAddr fld75_1 rfl) rfl ?_
          refine RunL.on rfl rfl ?_
          refine RunL.ok (OpOk.load rfl rfl rfl (Blk.out Blk.pts _ _ rfl)) rfl ?_
          refine RunL.on rfl rfl ?_
          refine RunL.ok (OpOk.move rfl) rfl ?_
          refine RunL.on rfl rfl ?_
          refine RunL.ok (OpOk.lenSS rfl rfl rfl) rfl ?_
          refine RunL.on rfl rfl ?_
          refine RunL.ok (OpOk.asF (OpOk.lss rfl rfl) (by omega)) rfl ?_
          refine RunL.ok (OpOk.pickT rfl rfl) rfl ?_
          refine RunL.nil ?_
          refine Run.condF rfl ?_
          refine Run.skip ?_
          refine Run.seq ?_
          refine Run.region ?_
          refine RunL.ok (OpOk.move rfl) rfl ?_
          refine RunL.ok (OpOk.move rfl) rfl ?_
          refine RunL.ok (OpOk.nilOk rfl) rfl ?_
          refine RunL.ok (OpOk.fieldAddr fld75_2 rfl) rfl ?_
          refine RunL.ok (OpOk.load rfl rfl rfl (Blk.out Blk.pts _ _ rfl)) rfl ?_
          refine RunL.ok (OpOk.move rfl) rfl ?_
          refine RunL.ok (OpOk.addSS rfl rfl (by omega)) rfl ?_
          refine RunL.ok (OpOk.nilOk rfl) rfl ?_
          refine RunL.ok (OpOk.fieldAddr fld75_2 rfl) rfl ?_
          refine RunL.store ti9 rfl rfl rfl rfl (by exact Nat.le_of_ble_eq_true rfl) (.inl rfl) ?_
          refine RunL.nil ?_
          refine Run.seq ?_
          refine Run.seq ?_
          refine Run.region ?_
          refine RunL.ok (OpOk.move rfl) rfl ?_
          refine RunL.ok (OpOk.nilOk rfl) rfl ?_
          refine RunL.ok (OpOk.fieldAddr fld75_1 rfl) rfl ?_
          refine RunL.ok (OpOk.load rfl rfl rfl (Blk.out Blk.pts _ _ rfl)) rfl ?_
          refine RunL.ok (OpOk.asT (OpOk.geq rfl rfl) (by omega)) rfl ?_
          refine RunL.nil ?_
          refine Run.condT rfl ?_
          refine Run.region ?_
          refine RunL.ok (OpOk.move rfl) rfl ?_
          refine RunL.ok (OpOk.move rfl) rfl ?_
          refine RunL.ok (OpOk.nilOk rfl) rfl ?_
          refine RunL.ok (OpOk.fieldAddr fld75_1 rfl) rfl ?_
          refine RunL.ok (OpOk.load rfl rfl rfl (Blk.out Blk.pts _ _ rfl)) rfl ?_
          refine RunL.ok (OpOk.move rfl) rfl ?_
          refine RunL.ok (OpOk.lenSS rfl rfl rfl) rfl ?_
          refine RunL.ok (OpOk.subN _ _ rfl rfl rfl rfl (by omega) (by omega)) rfl ?_
          refine RunL.ok (OpOk.nilOk rfl) rfl ?_
          refine RunL.ok (OpOk.fieldAddr fld75_1 rfl) rfl ?_
          refine RunL.store ti3 rfl rfl rfl rfl (by exact Nat.le_of_ble_eq_true rfl) (.inl rfl) ?_
          refine RunL.nil ?_
          refine Run.seq ?_
          refine Run.region ?_
          refine RunL.ok (OpOk.assign rfl) rfl ?_
          refine RunL.nil ?_
          refine Run.keep (A * pts p (Obj.cells #[Value.int IntKind.i64 s, Value.int IntKind.i64 ↑(w - all.length), S (bs ++ all)] 75)) (Grew.of (frc rfl rfl) (Grew.refl _)) ?_
          refine Run.ret1 Try.func34 rfl rfl ?_
          exact ⟨rfl, rfl⟩
section
variable {w0 : World} {A : Asn} {p m : Nat} {u : Value} {s w : Int} {bs : List UInt8} {ls : List (Value × List UInt8)}
theorem s34a (rd : Rd w0 A u 1 m (Fl encV ls)) (hin : Alls (GB w0) A ls) (hf : s - bs.length < (flatB ls).length) (hs : 0 ≤ s) (hs2 : s ≤ 9223372036854775807) (hw2 : w ≤ 9223372036854775807) (hlim : bs.length + (flatB ls).length ≤ 140737488355328) :
    Spec Try.prog w0 34 [.pointer (some ⟨p, 0, none⟩), u] (A * pts p (.cells #[.int .i64 (s), .int .i64 (w), S (bs)] 75 (0, 0))) (fun v' A' => v' = .int .i64 20 ∧ A' = A * pts p (.cells #[.int .i64 (s), .int .i64 (w), S (bs)] 75 (0, 0))) := by
  have h := s34 (p := p) rd hin hs hs2 hw2 hlim
  obtain ⟨e1, e2, e3⟩ := apE_full (w := w) hf
  rwa [e1, e2, e3] at h
theorem s34b (rd : Rd w0 A u 1 m (Fl encV ls)) (hin : Alls (GB w0) A ls) (hf : ((flatB ls).length : Int) ≤ s - bs.length) (hw : w < 0) (hs : 0 ≤ s) (hs2 : s ≤ 9223372036854775807) (hlim : bs.length + (flatB ls).length ≤ 140737488355328) :
    Spec Try.prog w0 34 [.pointer (some ⟨p, 0, none⟩), u] (A * pts p (.cells #[.int .i64 (s), .int .i64 (w), S (bs)] 75 (0, 0))) (fun v' A' => v' = .int .i64 0 ∧ A' = A * pts p (.cells #[.int .i64 (s), .int .i64 (w), S (bs ++ flatB ls)] 75 (0, 0))) := by
  have h := s34 (p := p) rd hin hs hs2 (by omega : w ≤ _) hlim
  obtain ⟨e1, e2, e3⟩ := apE_free hf hw
  rwa [e1, e2, e3] at h
theorem s34c (rd : Rd w0 A u 1 m (Fl encV ls)) (hin : Alls (GB w0) A ls) (hf : ((flatB ls).length : Int) ≤ s - bs.length) (hw : 0 ≤ w) (hn : ((flatB ls).length : Int) ≤ w) (hs : 0 ≤ s) (hs2 : s ≤ 9223372036854775807) (hw2 : w ≤ 9223372036854775807) (hlim : bs.length + (flatB ls).length ≤ 140737488355328) :
    Spec Try.prog w0 34 [.pointer (some ⟨p, 0, none⟩), u] (A * pts p (.cells #[.int .i64 (s), .int .i64 (w), S (bs)] 75 (0, 0))) (fun v' A' => v' = .int .i64 0 ∧ A' = A * pts p (.cells #[.int .i64 (s), .int .i64 (w - (flatB ls).length), S (bs ++ flatB ls)] 75 (0, 0))) := by
  have h := s34 (p := p) rd hin hs hs2 hw2 hlim
  obtain ⟨e1, e2, e3⟩ := apE_fits hf hw hn
  rwa [e1, e2, e3] at h
theorem s34d (rd : Rd w0 A u 1 m (Fl encV ls)) (hin : Alls (GB w0) A ls) (hf : ((flatB ls).length : Int) ≤ s - bs.length) (hw : 0 ≤ w) (hn : w < (flatB ls).length) (hs : 0 ≤ s) (hs2 : s ≤ 9223372036854775807) (hlim : bs.length + (flatB ls).length ≤ 140737488355328) :
    Spec Try.prog w0 34 [.pointer (some ⟨p, 0, none⟩), u] (A * pts p (.cells #[.int .i64 (s), .int .i64 (w), S (bs)] 75 (0, 0))) (fun v' A' => v' = .int .i64 30 ∧ A' = A * pts p (.cells #[.int .i64 (s), .int .i64 (0), S (bs ++ (flatB ls).take w.toNat)] 75 (0, 0))) := by
  have h := s34 (p := p) rd hin hs hs2 (by omega : w ≤ _) hlim
  obtain ⟨e1, e2, e3⟩ := apE_torn hf hw hn
  rwa [e1, e2, e3] at h
end
theorem s36a {w0 : World} {A : Asn} {p : Nat} {s w n : Int} {bs : List UInt8} (h : n < 0 ∨ (bs.length : Int) < n) :
    Spec Try.prog w0 36 [.pointer (some ⟨p, 0, none⟩), .int .i64 n] (A * pts p (.cells #[.int .i64 (s), .int .i64 (w), S (bs)] 75 (0, 0))) (fun v' A' => v' = .int .i64 2 ∧ A' = A * pts p (.cells #[.int .i64 (s), .int .i64 (w), S (bs)] 75 (0, 0))) := by
  refine Spec.of_run [(0, .pointer (some ⟨p, 0, none⟩)), (1, .int .i64 n)] Try.func36 rfl (Nat.le_of_ble_eq_true rfl) (by repeat (first | exact trivial | refine ⟨rfl, ?_⟩)) ?_
  refine Run.seq ?_
  refine Run.region ?_
  refine RunL.ok (OpOk.assign rfl) rfl ?_
  refine RunL.nil ?_
  refine Run.seq ?_
  refine Run.seq ?_
  refine Run.region ?_
  refine RunL.ok (OpOk.move rfl) rfl ?_
  refine RunL.ok (OpOk.lss rfl rfl) rfl ?_
  refine RunL.ok (OpOk.move rfl) rfl ?_
  refine RunL.splitD (t := 7) rfl (fun x1 => ?_) (fun x1 => ?_)
  · refine RunL.off rfl rfl rfl rfl ?_
    refine RunL.off rfl rfl rfl rfl ?_
    refine RunL.off rfl rfl rfl rfl ?_
    refine RunL.off rfl rfl rfl rfl ?_
    refine RunL.off rfl rfl rfl rfl ?_
    refine RunL.off rfl rfl rfl rfl ?_
    refine RunL.off rfl rfl rfl rfl ?_
    refine RunL.ok (OpOk.pickT rfl rfl) rfl ?_
    refine RunL.nil ?_
    refine Run.condT rfl ?_
    refine Run.seq ?_
    refine Run.region ?_
    refine RunL.ok (OpOk.assign rfl) rfl ?_
    refine RunL.nil ?_
    refine Run.ret1 Try.func36 rfl rfl ?_
    exact ⟨rfl, rfl⟩
  refine RunL.on rfl rfl ?_
  refine RunL.ok (OpOk.move rfl) rfl ?_
  refine RunL.on rfl rfl ?_
  refine RunL.ok (OpOk.move rfl) rfl ?_
  refine RunL.on rfl rfl ?_
  refine RunL.ok (OpOk.nilOk rfl) rfl ?_
  refine RunL.on rfl rfl ?_
  refine RunL.ok (OpOk.fieldAddr fld75_2 rfl) rfl ?_
  refine RunL.on rfl rfl ?_
  refine RunL.ok (OpOk.load rfl rfl rfl (Blk.out Blk.pts _ _ rfl)) rfl ?_
  refine RunL.on rfl rfl ?_
  refine RunL.ok (OpOk.lenSS rfl rfl rfl) rfl ?_
  refine RunL.on rfl rfl ?_
  refine RunL.ok (OpOk.asT (OpOk.gtr rfl rfl) (by omega)) rfl ?_
  refine RunL.ok (OpOk.pickF rfl rfl) rfl ?_
  refine RunL.nil ?_
  refine Run.condT rfl ?_
  refine Run.seq ?_
  refine Run.region ?_
  refine RunL.ok (OpOk.assign rfl) rfl ?_
  refine RunL.nil ?_
  refine Run.ret1 Try.func36 rfl rfl ?_
  exact ⟨rfl, rfl⟩
theorem s36b {w0 : World} {A : Asn} {p : Nat} {s w : Int} {n : Int} {bs : List UInt8} (h0 : 0 ≤ n) (h : n ≤ (bs.length : Int)) :
    Spec Try.prog w0 36 [.pointer (some ⟨p, 0, none⟩), .int .i64 n] (A * pts p (.cells #[.int .i64 (s), .int .i64 (w), S (bs)] 75 (0, 0))) (fun v' A' => v' = .int .i64 0 ∧ A' = A * pts p (.cells #[.int .i64 (s), .int .i64 (w), S (bs.take n.toNat)] 75 (0, 0))) := by
  obtain ⟨n, rfl⟩ := Int.eq_ofNat_of_zero_le h0
  have h : n ≤ bs.length := by omega
  rw [Int.toNat_natCast]
  refine Spec.of_run [(0, .pointer (some ⟨p, 0, none⟩)), (1, .int .i64 (n : Int))] Try.func36 rfl (Nat.le_of_ble_eq_true rfl) (by repeat (first | exact trivial | refine ⟨rfl, ?_⟩)) ?_
  refine Run.seq ?_
  refine Run.region ?_
  refine RunL.ok (OpOk.assign rfl) rfl ?_
  refine RunL.nil ?_
  refine Run.seq ?_
  refine Run.seq ?_
  refine Run.region ?_
  refine RunL.ok (OpOk.move rfl) rfl ?_
  refine RunL.ok (OpOk.asF (OpOk.lss rfl rfl) (by omega)) rfl ?_
  refine RunL.ok (OpOk.move rfl) rfl ?_
  refine RunL.on rfl rfl ?_
  refine RunL.ok (OpOk.move rfl) rfl ?_
  refine RunL.on rfl rfl ?_
  refine RunL.ok (OpOk.move rfl) rfl ?_
  refine RunL.on rfl rfl ?_
  refine RunL.ok (OpOk.nilOk rfl) rfl ?_
  refine RunL.on rfl rfl ?_
  refine RunL.ok (OpOk.fieldAddr fld75_2 rfl) rfl ?_
  refine RunL.on rfl rfl ?_
  refine RunL.ok (OpOk.load rfl rfl rfl (Blk.out Blk.pts _ _ rfl)) rfl ?_
  refine RunL.on rfl rfl ?_
  refine RunL.ok (OpOk.lenSS rfl rfl rfl) rfl ?_
  refine RunL.on rfl rfl ?_
  refine RunL.ok (OpOk.asF (OpOk.gtr rfl rfl) (by omega)) rfl ?_
  refine RunL.ok (OpOk.pickF rfl rfl) rfl ?_
  refine RunL.nil ?_
  refine Run.condF rfl ?_
  refine Run.skip ?_
  refine Run.seq ?_
  refine Run.region ?_
  refine RunL.ok (OpOk.move rfl) rfl ?_
  refine RunL.ok (OpOk.move rfl) rfl ?_
  refine RunL.ok (OpOk.nilOk rfl) rfl ?_
  refine RunL.ok (OpOk.fieldAddr fld75_2 rfl) rfl ?_
  refine RunL.ok (OpOk.load rfl rfl rfl (Blk.out Blk.pts _ _ rfl)) rfl ?_
  refine RunL.ok (OpOk.move rfl) rfl ?_
  refine RunL.ok (OpOk.cutSS rfl rfl rfl ⟨_, rfl⟩ (by omega) (by omega)) rfl ?_
  refine RunL.ok (OpOk.nilOk rfl) rfl ?_
  refine RunL.ok (OpOk.fieldAddr fld75_2 rfl) rfl ?_
  refine RunL.store ti9 rfl rfl rfl rfl (by exact Nat.le_of_ble_eq_true rfl) (.inl rfl) ?_
  refine RunL.nil ?_
  refine Run.seq ?_
  refine Run.region ?_
  refine RunL.ok (OpOk.assign rfl) rfl ?_
  refine RunL.nil ?_
  refine Run.keep (A * pts p (Obj.cells #[Value.int IntKind.i64 s, Value.int IntKind.i64 w, S (List.take n bs)] 75)) (Grew.of (frc rfl rfl) (Grew.refl _)) ?_
  refine Run.ret1 Try.func36 rfl rfl ?_
  exact ⟨rfl, rfl⟩
theorem s28 {w0 : World} {A : Asn} : Spec Try.prog w0 28 [] A (fun v' A' => ∃ J, v' = .bool true ∧ A' = A * J) := by
  refine Spec.of_run [] Try.func28 rfl (Nat.le_of_ble_eq_true rfl) (by repeat (first | exact trivial | refine ⟨rfl, ?_⟩)) ?_
  refine Run.seq ?_
  refine Run.region ?_
  refine RunL.ok (OpOk.assign rfl) rfl ?_
  refine RunL.nil ?_
  refine Run.seq ?_
  refine Run.region ?_
  refine RunL.call cal29 rfl (s29b (by omega)) rfl (fun vx2 Ax2 hx2 => ?_)
  obtain ⟨x3, ⟨x4, ⟨rfl, rfl⟩⟩⟩ := hx2
  refine RunL.ok (OpOk.move rfl) rfl ?_
  refine RunL.ok (OpOk.ext20 rfl) rfl ?_
  refine RunL.ok (OpOk.ext21 rfl) rfl ?_
  refine RunL.ok (OpOk.assign rfl) rfl ?_
  refine RunL.ok (OpOk.assign rfl) rfl ?_
  refine RunL.nil ?_
  refine Run.seq ?_
  refine Run.seq ?_
  refine Run.region ?_
  refine RunL.ok (OpOk.move rfl) rfl ?_
  refine RunL.ok (OpOk.eqlPN rfl rfl) rfl ?_
  refine RunL.ok (OpOk.move rfl) rfl ?_
  refine RunL.on rfl rfl ?_
  refine RunL.ok (OpOk.move rfl) rfl ?_
  refine RunL.on rfl rfl ?_
  refine RunL.ok (OpOk.as (c := false) (OpOk.neq rfl rfl) (by rw [decide_eq_true (by omega)]; rfl)) rfl ?_
  refine RunL.ok (OpOk.pickF rfl rfl) rfl ?_
  refine RunL.ok (OpOk.move rfl) rfl ?_
  refine RunL.on rfl rfl ?_
  refine RunL.ok (OpOk.move rfl) rfl ?_
  refine RunL.on rfl rfl ?_
  refine RunL.litB (xs := [97, 98]) rfl ti5 rfl rfl rfl (by decide) rfl (fun vx5 rdx5 => ?_)
  refine RunL.on rfl rfl ?_
  refine RunL.mark0 rfl rfl rfl rfl (by first | decide | omega) rfl (fun Jx6 rdx6 => ?_)
  refine RunL.on rfl rfl ?_
  have alx7 : Alls (GB w0) _ [(vx5, [97, 98])] := (Alls.cons (GB.of rdx6) Alls.nil)
  refine RunL.litV (ls := [(vx5, [97, 98])]) (Alls.right alx7) rfl ti37 rfl rfl rfl (by decide) rfl (fun vx7 rdx7 => ?_)
  refine RunL.on rfl rfl ?_
  refine RunL.know (fun w s => (s.conv rfl).ownRd0) (fun rdx8 => ?_)
  refine RunL.mem (frc (frl (frl rfl)) (frc (frl (frl rfl)) rfl)) ?_
  refine RunL.call cal32 rfl (s32b (Rd.right rdx8) (Alls.right alx7).left (by simp [flatB]) (by omega) (by omega) (by omega) (by simp [flatB])) rfl (fun vx10 Ax10 hx10 => ?_)
  obtain ⟨x11, ⟨x12, ⟨rfl, rfl⟩⟩⟩ := hx10
  refine RunL.on rfl rfl ?_
  refine RunL.ok (OpOk.as (c := false) (OpOk.neq rfl rfl) (by rw [decide_eq_true (by omega)]; rfl)) rfl ?_
  refine RunL.ok (OpOk.pickF rfl rfl) rfl ?_
  refine RunL.ok (OpOk.move rfl) rfl ?_
  refine RunL.on rfl rfl ?_
  refine RunL.ok (OpOk.move rfl) rfl ?_
  refine RunL.on rfl rfl ?_
  refine RunL.litB (xs := [99, 100, 101, 102]) rfl ti5 rfl rfl rfl (by decide) rfl (fun vx13 rdx13 => ?_)
  refine RunL.on rfl rfl ?_
  refine RunL.mark0 rfl rfl rfl rfl (by first | decide | omega) rfl (fun Jx14 rdx14 => ?_)
  refine RunL.on rfl rfl ?_
  have alx15 : Alls (GB w0) _ [(vx13, [99, 100, 101, 102])] := (Alls.cons (GB.of rdx14) Alls.nil)
  refine RunL.litV (ls := [(vx13, [99, 100, 101, 102])]) (Alls.right alx15) rfl ti37 rfl rfl rfl (by decide) rfl (fun vx15 rdx15 => ?_)
  refine RunL.on rfl rfl ?_
  refine RunL.know (fun w s => (s.conv rfl).ownRd0) (fun rdx16 => ?_)
  refine RunL.mem (frc (frl (frl rfl)) (frc (frl (frl rfl)) rfl)) ?_
  refine RunL.call cal32 rfl (s32a (Rd.right rdx16) (Alls.right alx15).left (by simp [flatB]) (by omega) (by omega) (by omega) (by simp [flatB])) rfl (fun vx17 Ax17 hx17 => ?_)
  obtain ⟨x18, ⟨x19, ⟨rfl, rfl⟩⟩⟩ := hx17
  refine RunL.on rfl rfl ?_
  refine RunL.ok (OpOk.as (c := false) (OpOk.neq rfl rfl) (by rw [decide_eq_true (by omega)]; rfl)) rfl ?_
  refine RunL.ok (OpOk.pickF rfl rfl) rfl ?_
  refine RunL.nil ?_
  refine Run.condF rfl ?_
  refine Run.skip ?_
  refine Run.seq ?_
  refine Run.region ?_
  refine RunL.ok (OpOk.move rfl) rfl ?_
  refine RunL.call cal30 rfl (s30) rfl (fun vx20 Ax20 hx20 => ?_)
  obtain ⟨rfl, rfl⟩ := hx20
  refine RunL.nil ?_
  refine Run.seq ?_
  refine Run.region ?_
  refine RunL.ok (OpOk.move rfl) rfl ?_
  refine RunL.litB (xs := [99, 100]) rfl ti5 rfl rfl rfl (by decide) rfl (fun vx21 rdx21 => ?_)
  refine RunL.mark0 rfl rfl rfl rfl (by first | decide | omega) rfl (fun Jx22 rdx22 => ?_)
  have alx23 : Alls (GB w0) _ [(vx21, [99, 100])] := (Alls.cons (GB.of rdx22) Alls.nil)
  refine RunL.litV (ls := [(vx21, [99, 100])]) (Alls.right alx23) rfl ti37 rfl rfl rfl (by decide) rfl (fun vx23 rdx23 => ?_)
  refine RunL.know (fun w s => (s.conv rfl).ownRd0) (fun rdx24 => ?_)
  refine RunL.mem (frc (frl (frl rfl)) (frc (frl (frl rfl)) rfl)) ?_
  refine RunL.call cal32 rfl (s32d (Rd.right rdx24) (Alls.right alx23).left (by simp [flatB]) (by omega) (by simp [flatB]; omega) (by omega) (by omega) (by simp [flatB])) rfl (fun vx28 Ax28 hx28 => ?_)
  obtain ⟨x29, ⟨x30, ⟨rfl, rfl⟩⟩⟩ := hx28
  refine RunL.ok (OpOk.asT (OpOk.eql rfl rfl) (by omega)) rfl ?_
  refine RunL.ok (OpOk.move rfl) rfl ?_
  refine RunL.on rfl rfl ?_
  refine RunL.ok (OpOk.move rfl) rfl ?_
  refine RunL.on rfl rfl ?_
  refine RunL.call cal31 rfl (s31 (by simp [flatB]; omega)) rfl (fun vx31 Ax31 hx31 => ?_)
  obtain rfl := hx31
  refine RunL.on rfl rfl ?_
  refine RunL.know (fun w s => (s.conv rfl).ownRd0) (fun rdx32 => ?_)
  refine RunL.ok (OpOk.strOf rfl rfl rfl rfl (Rd.right rdx32)) rfl ?_
  refine RunL.on rfl rfl ?_
  refine RunL.ok (OpOk.eqlSS rfl rfl) rfl ?_
  refine RunL.ok (OpOk.pickT rfl rfl) rfl ?_
  refine RunL.ok (OpOk.move rfl) rfl ?_
  refine RunL.on rfl rfl ?_
  refine RunL.ok (OpOk.move rfl) rfl ?_
  refine RunL.on rfl rfl ?_
  refine RunL.mem (frc (frl rfl) (frc (frl rfl) rfl)) ?_
  refine RunL.call cal33 rfl (s33) rfl (fun vx33 Ax33 hx33 => ?_)
  obtain ⟨rfl, rfl⟩ := hx33
  refine RunL.on rfl rfl ?_
  refine RunL.ok (OpOk.eql rfl rfl) rfl ?_
  refine RunL.ok (OpOk.pickT rfl rfl) rfl ?_
  refine RunL.ok (OpOk.assign rfl) rfl ?_
  refine RunL.nil ?_
  refine Run.ret1 Try.func28 rfl rfl ?_
  exact ⟨_, rfl, (asg (asg (asg (asg (asg (asg (asg (asg (asg (asg (asg as1)))))))))))⟩
end Go.Proofs.Ytlmehpjcmdipmaa
