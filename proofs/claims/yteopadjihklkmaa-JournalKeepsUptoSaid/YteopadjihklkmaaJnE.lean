/- Rows written, and taken in. -/
import Derived.Test.YteopadjihklkmaaJnD
namespace Go.Proofs.Yteopadjihklkmaa
open Go Go.Proofs
set_option maxRecDepth 100000
set_option maxHeartbeats 4000000
set_option linter.unusedSimpArgs false
def takesC (k : UInt8) (c : Cn) (l : List (List UInt8)) : Cn := l.foldl (fun c b => takeC c (k, b)) c
theorem takesC_next {k : UInt8} {c : Cn} {ls : List (Value × List UInt8)} {i : Nat} (h : i < ls.length) : takesC k c ((ls.map Prod.snd).take (i + 1)) = takeC (takesC k c ((ls.map Prod.snd).take i)) (k, (ls.getD i default).2) := by
  rw [take_next (by simpa using h), snd_get h, takesC, List.foldl_append]; rfl
section
variable {w0 : World} {A : Asn} {p fp : Nat} {sv rv fv : Value} {snap : List UInt8} {has : Bool} {recs : List (Value × List UInt8)} {s w : Int} {bs : List UInt8}
theorem writeD1 {u : Value} {m : Nat} {k : UInt8} {ls : List (Value × List UInt8)} (rd : Rd w0 A u 1 m (Fl encV ls)) (al : Alls (GB w0) A ls) (hl : m ≤ 1048576) (hall : (ls.map Prod.snd).all fine = true) (hs : 0 ≤ s) (hs2 : s ≤ 9223372036854775807) (hbl : bs.length ≤ 16777216) (hr : recs.length ≤ 8388608) (hk : k.toNat = 1 ∨ k.toNat = 2) (hf : ((rowsB k (ls.map Prod.snd)).length : Int) ≤ s - bs.length) (hw : w < 0) :
    Spec Try.prog w0 74 [.pointer (some ⟨p, 0, none⟩), .int .u8 ((k.toNat : Nat) : Int), u] (A * pts fp (.cells #[.int .i64 (s), .int .i64 (w), fv] 145 (0, 0)) * own 5 1 fv (bs).length (B (bs)) * pts p (.cells #[sv, .bool has, rv, .pointer (some ⟨fp, 0, none⟩), .bool false] 149 (0, 0)) * own 5 1 sv (snap).length (B (snap)) * own 63 1 rv (recs).length (Fl encV (recs)) * ownsB 5 (recs)) (fun v' A' => ∃ (sv2 rv2 fv2 : Value) (recs2 : List (Value × List UInt8)) (J : Asn), v' = .int .i64 0 ∧ recs2.map Prod.snd = (takesC k (snap, has, recs.map Prod.snd) (ls.map Prod.snd)).2.2 ∧
      A' = A * J * pts fp (.cells #[.int .i64 (s), .int .i64 (w), fv2] 145 (0, 0)) * own 5 1 fv2 (bs ++ rowsB k (ls.map Prod.snd)).length (B (bs ++ rowsB k (ls.map Prod.snd))) * pts p (.cells #[sv2, .bool (takesC k (snap, has, recs.map Prod.snd) (ls.map Prod.snd)).2.1, rv2, .pointer (some ⟨fp, 0, none⟩), .bool false] 149 (0, 0)) * own 5 1 sv2 ((takesC k (snap, has, recs.map Prod.snd) (ls.map Prod.snd)).1).length (B ((takesC k (snap, has, recs.map Prod.snd) (ls.map Prod.snd)).1)) * own 63 1 rv2 (recs2).length (Fl encV (recs2)) * ownsB 5 (recs2)) := by
  have hl0 := rd.lenFl (fun _ => rfl) (by decide)
  subst hl0
  refine Spec.of_run [(0, .pointer (some ⟨p, 0, none⟩)), (1, .int .u8 ((k.toNat : Nat) : Int)), (2, u)] Try.func74 rfl (Nat.le_of_ble_eq_true rfl) (by repeat (first | exact trivial | refine ⟨rfl, ?_⟩)) ?_
  refine Run.seq ?_
  refine Run.region ?_
  refine RunL.ok (OpOk.assign rfl) rfl ?_
  refine RunL.nil ?_
  refine Run.seq ?_
  refine Run.seq ?_
  refine Run.region ?_
  refine RunL.ok (OpOk.move rfl) rfl ?_
  refine RunL.ok (OpOk.nilOk rfl) rfl ?_
  refine RunL.ok (OpOk.fieldAddr fld149_2 rfl) rfl ?_
  refine RunL.ok (OpOk.load rfl rfl rfl (Blk.out Blk.pts.left.left.left _ _ (by first | rfl | assumption))) rfl ?_
  refine RunL.nil ?_
  refine Run.condF rfl ?_
  refine Run.skip ?_
  refine Run.seq ?_
  refine Run.region ?_
  refine RunL.ok (OpOk.assign rfl) rfl ?_
  refine RunL.nil ?_
  refine Run.seq ?_
  refine Run.seq ?_
  refine Run.region ?_
  refine RunL.ok (OpOk.move rfl) rfl ?_
  refine RunL.ok (OpOk.lenR rfl rfl rd.left.left.left.left.left.left rfl) rfl ?_
  refine RunL.ok (OpOk.move rfl) rfl ?_
  refine RunL.nil ?_
  refine Run.block ?_
  refine Run.ent (Ent.ownNil' _ 63 1 (Fl encV ([] : List (Value × List UInt8))) rfl) ?_
  refine Run.mem (sep_emp _).symm ?_
  rw [← ownsB_nil 5]
  refine Run.jump ((Run.loopJ (X := Nat × Asn × Value × List (Value × List UInt8)) (fun x => [(19, .int .i64 (x.1 : Int)), (18, .int .i64 (ls.length : Int)), (17, u), (7, x.2.2.1), (0, .pointer (some ⟨p, 0, none⟩)), (1, .int .u8 ((k.toNat : Nat) : Int)), (2, u)]) (fun x => A * x.2.1 * pts fp (.cells #[.int .i64 (s), .int .i64 (w), fv] 145 (0, 0)) * own 5 1 fv (bs).length (B (bs)) * pts p (.cells #[sv, .bool has, rv, .pointer (some ⟨fp, 0, none⟩), .bool false] 149 (0, 0)) * own 5 1 sv (snap).length (B (snap)) * own 63 1 rv (recs).length (Fl encV (recs)) * ownsB 5 (recs) * own 63 1 x.2.2.1 x.2.2.2.length (Fl encV x.2.2.2) * ownsB 5 x.2.2.2) (fun x => x.1 ≤ ls.length ∧ x.2.2.2.length = x.1 ∧ x.2.2.2.map Prod.snd = ((ls.map Prod.snd).take x.1).map (rowB k) ∧ ((ls.map Prod.snd).take x.1).all fine = true) (fun x => ls.length - x.1) (0, _, .slice none 0 0, []) ⟨Nat.zero_le _, rfl, by simp, rfl⟩ (fun x hx ih => ?_))) ⟨rfl, rfl, rfl, rfl, rfl, rfl, rfl, trivial⟩ (Grew.of (Eq.trans (frc rfl (frc rfl rfl)) (congrArg (· * _) (congrArg (· * _) (congrArg (· * _) (congrArg (· * _) (congrArg (· * _) (congrArg (· * _) (congrArg (· * _) (congrArg (· * _) as0))))))))) (Grew.refl _))
  obtain ⟨i, J, v7, ys⟩ := x
  simp only at hx ih ⊢
  obtain ⟨hi, hyl, hy, hfi⟩ := hx
  rcases Nat.lt_or_ge i ls.length with hlt | hge
  · have rdi : Rd w0 A (ls.getD i default).1 1 (ls.getD i default).2.length (B (ls.getD i default).2) := al.get hlt
    have hv := Fl_V ls i hlt
    have hb := fine_fail hlt hall
    have hfn : ((ls.map Prod.snd).take (i + 1)).all fine = true := by
      rw [fine_next (by simpa using hlt), hfi, snd_get hlt, fine, decide_eq_true hb]; rfl
    refine Run.seq ?_
    refine Run.region ?_
    refine RunL.ok (OpOk.asT (OpOk.lss rfl rfl) (by omega)) rfl ?_
    refine RunL.nil ?_
    refine Run.seq ?_
    refine Run.condT rfl ?_
    refine Run.skip ?_
    refine Run.seq ?_
    refine Run.block ?_
    refine Run.seq ?_
    refine Run.region ?_
    refine RunL.ok (OpOk.idx1N rfl ti63 rfl rd.left.left.left.left.left.left.left.left.left rfl (by omega)) rfl ?_
    refine RunL.ok (OpOk.load rfl rfl rfl (Rd.cell rd.left.left.left.left.left.left.left.left.left (by first | assumption | rfl))) rfl ?_
    refine RunL.ok (OpOk.assign rfl) rfl ?_
    refine RunL.nil ?_
    refine Run.seq ?_
    refine Run.seq ?_
    refine Run.region ?_
    refine RunL.ok (OpOk.move rfl) rfl ?_
    refine RunL.ok (OpOk.lenR rfl rfl rdi.left.left.left.left.left.left.left.left.left rfl) rfl ?_
    refine RunL.ok (OpOk.asF (OpOk.gtr rfl rfl) (by omega)) rfl ?_
    refine RunL.nil ?_
    refine Run.condF rfl ?_
    refine Run.skip ?_
    refine Run.region ?_
    refine RunL.ok (OpOk.move rfl) rfl ?_
    refine RunL.ok (OpOk.move rfl) rfl ?_
    refine RunL.ok (OpOk.move rfl) rfl ?_
    refine RunL.know (fun w s => (s.conv (frl (frl rfl))).ownsB0) (fun aly1 => ?_)
    refine RunL.know (fun w s => (s.conv rfl).ownsB0) (fun aly2 => ?_)
    refine RunL.call cal106 rfl (s106 rdi.left.left.left.left.left.left.left.left.left (by assumption)) rfl (fun vy3 Ay3 hy3 => ?_)
    obtain ⟨y4, rfl⟩ := hy3
    refine RunL.know (fun w s => (s.conv rfl).ownRd0) (fun rdy6 => ?_)
    have aly5 : Alls (GB w0) _ [(vy3, rowB k (ls.getD i default).snd)] := (Alls.cons (GB.of rdy6) Alls.nil)
    refine RunL.litV (ls := [(vy3, rowB k (ls.getD i default).snd)]) (Alls.right aly5) rfl ti63 rfl rfl rfl (by decide) rfl (fun vy5 rdy5 => ?_)
    refine RunL.know (fun w s => (s.conv rfl).ownRd0) (fun rdy8 => ?_)
    refine RunL.appendV (Alls.right aly5).left rfl ti63 rfl rfl rfl (frl (frl (frl (frl rfl)))) (Rd.right rdy8) (by omega) rfl (fun vy7 rdy7 => ?_)
    refine RunL.ok (OpOk.assign rfl) rfl ?_
    refine RunL.nil ?_
    refine Run.inBlock ?_
    refine Run.region ?_
    refine RunL.ok (OpOk.addN _ 1 rfl rfl rfl rfl (by omega)) rfl ?_
    refine RunL.ok (OpOk.move rfl) rfl ?_
    refine RunL.nil ?_
    rw [show ys.length + 1 = (ys ++ [(vy3, rowB k (ls.getD i default).2)]).length by simp, ← rowB_len k (ls.getD i default).2]
    refine Run.jump ((ih (i + 1, _, vy7, ys ++ [(vy3, rowB k (ls.getD i default).2)]) ⟨by dsimp only; omega, by dsimp only; rw [List.length_append, hyl]; rfl, rows_snoc hlt hy, hfn⟩ (by dsimp only; omega))) ⟨rfl, rfl, rfl, rfl, rfl, rfl, rfl, trivial⟩ (by simp only [ownsB_snoc, ← sep_assoc]; exact (Grew.of (Eq.trans (frc (frl (frl rfl)) (frc (frl (frl (frl rfl))) (frc rfl (frc (frl (frl rfl)) (frc (frl (frl rfl)) (frc (frl (frl rfl)) (frc (frl (frl rfl)) (frc (frl (frl rfl)) (frc (frl (frl rfl)) rfl))))))))) (congrArg (· * _) (congrArg (· * _) (congrArg (· * _) (congrArg (· * _) (congrArg (· * _) (congrArg (· * _) (congrArg (· * _) (congrArg (· * _) (congrArg (· * _) (asg (asg as1)))))))))))) (Grew.refl _)))
  · obtain rfl : i = ls.length := by omega
    clear ih
    rw [List.take_of_length_le (by simp)] at hy
    have hfl := flatB_rows hy
    have hrl := rowsB_len (k := k) hall
    rw [List.length_map] at hrl
    have hf2 : ((flatB ys).length : Int) ≤ s - bs.length := by rw [hfl]; exact hf
    skip
    have hlim : bs.length + (flatB ys).length ≤ 140737488355328 := by rw [hfl]; omega
    rw [← hfl]
    refine Run.seq ?_
    refine Run.region ?_
    refine RunL.ok (OpOk.asF (OpOk.lss rfl rfl) (by omega)) rfl ?_
    refine RunL.nil ?_
    refine Run.seq ?_
    refine Run.condF rfl ?_
    refine Run.exit rfl ?_
    refine Run.seq ?_
    refine Run.seq ?_
    refine Run.region ?_
    refine RunL.ok (OpOk.move rfl) rfl ?_
    refine RunL.ok (OpOk.nilOk rfl) rfl ?_
    refine RunL.ok (OpOk.fieldAddr fld149_1 rfl) rfl ?_
    refine RunL.ok (OpOk.load rfl rfl rfl (Blk.out Blk.pts.left.left.left.left.left _ _ (by first | rfl | assumption))) rfl ?_
    refine RunL.ok (OpOk.move rfl) rfl ?_
    refine RunL.know (fun w s => (s.conv (frl (frl rfl))).ownsB0) (fun aly1 => ?_)
    refine RunL.know (fun w s => (s.conv rfl).ownsB0) (fun aly2 => ?_)
    refine RunL.know (fun w s => (s.conv (frl rfl)).ownRd0) (fun rdy3 => ?_)
    refine RunL.mem (frc (frl (frl (frl (frl (frl (frl rfl)))))) (frc (frl (frl (frl (frl (frl (frl rfl)))))) rfl)) ?_
    refine RunL.call cal31 rfl (s31b (Rd.right rdy3).left (Alls.right aly2) (by assumption) (by assumption) (by assumption) (by assumption) (by assumption)) rfl (fun vy5 Ay5 hy5 => ?_)
    obtain ⟨y6, ⟨y7, ⟨rfl, rfl⟩⟩⟩ := hy5
    refine RunL.ok (OpOk.assign rfl) rfl ?_
    refine RunL.nil ?_
    refine Run.seq ?_
    refine Run.region ?_
    refine RunL.ok (OpOk.move rfl) rfl ?_
    refine RunL.ok (OpOk.as (c := false) (OpOk.neq rfl rfl) (by rw [decide_eq_true (by omega)]; rfl)) rfl ?_
    refine RunL.nil ?_
    refine Run.condF rfl ?_
    refine Run.skip ?_
    refine Run.seq ?_
    refine Run.seq ?_
    refine Run.region ?_
    refine RunL.ok (OpOk.move rfl) rfl ?_
    refine RunL.ok (OpOk.lenR rfl rfl rd.left.left.left.left.left.left.left.left.left.left rfl) rfl ?_
    refine RunL.ok (OpOk.move rfl) rfl ?_
    refine RunL.nil ?_
    refine Run.block ?_
    rcases hk with hk | hk
    · refine Run.jump ((Run.loopJ (X := Nat × Asn × (Value × List UInt8 × Bool) × Value × List (Value × List UInt8)) (fun x => [(49, .int .i64 (x.1 : Int)), (48, .int .i64 (ls.length : Int)), (47, u), (0, .pointer (some ⟨p, 0, none⟩)), (1, .int .u8 ((k.toNat : Nat) : Int))]) (fun x => A * x.2.1 * pts fp (.cells #[.int .i64 (s), .int .i64 (w), y6] 145 (0, 0)) * own 5 1 y6 ((bs ++ flatB ys)).length (B ((bs ++ flatB ys))) * pts p (.cells #[(x.2.2.1.1), .bool (x.2.2.1.2.2), (x.2.2.2.1), .pointer (some ⟨fp, 0, none⟩), .bool false] 149 (0, 0)) * own 5 1 (x.2.2.1.1) ((x.2.2.1.2.1)).length (B ((x.2.2.1.2.1))) * own 63 1 (x.2.2.2.1) ((x.2.2.2.2)).length (Fl encV ((x.2.2.2.2))) * ownsB 5 ((x.2.2.2.2))) (fun x => x.1 ≤ ls.length ∧ x.2.2.2.2.length ≤ recs.length + x.1 ∧ (x.2.2.1.2.1, x.2.2.1.2.2, x.2.2.2.2.map Prod.snd) = takesC k (snap, has, recs.map Prod.snd) ((ls.map Prod.snd).take x.1)) (fun x => ls.length - x.1) (0, _, (sv, snap, has), rv, recs) ⟨Nat.zero_le _, Nat.le_refl _, rfl⟩ (fun x hx ih => ?_))) ⟨rfl, rfl, rfl, rfl, rfl, trivial⟩ (Grew.of (Eq.trans (frc (frl (frl (frl (frl (frl rfl))))) (frc (frl (frl (frl (frl (frl rfl))))) (frc (frl (frl (frl (frl (frl rfl))))) (frc (frl (frl (frl (frl (frl rfl))))) rfl)))) (congrArg (· * _) (congrArg (· * _) (congrArg (· * _) (congrArg (· * _) (congrArg (· * _) (congrArg (· * _) (asg (asg (asg as1)))))))))) (Grew.refl _))
      obtain ⟨i, J, ⟨sv, snap2, has2⟩, rv, recs2⟩ := x
      simp only at hx ih ⊢
      obtain ⟨hi, hrc, hct⟩ := hx
      rcases Nat.lt_or_ge i ls.length with hlt | hge
      · have rdi : Rd w0 A (ls.getD i default).1 1 (ls.getD i default).2.length (B (ls.getD i default).2) := al.get hlt
        have hv := Fl_V ls i hlt
        have hb := fine_fail hlt hall
        have hnx := takesC_next (k := k) (c := (snap, has, recs.map Prod.snd)) hlt
        rw [← hct, takeC, if_neg (by rw [hk]; decide)] at hnx
        refine Run.seq ?_
        refine Run.region ?_
        refine RunL.ok (OpOk.asT (OpOk.lss rfl rfl) (by omega)) rfl ?_
        refine RunL.nil ?_
        refine Run.seq ?_
        refine Run.condT rfl ?_
        refine Run.skip ?_
        refine Run.seq ?_
        refine Run.block ?_
        refine Run.seq ?_
        refine Run.region ?_
        refine RunL.ok (OpOk.idx1N rfl ti63 rfl rd.left.left.left.left.left.left.left rfl (by omega)) rfl ?_
        refine RunL.ok (OpOk.load rfl rfl rfl (Rd.cell rd.left.left.left.left.left.left.left (by first | assumption | rfl))) rfl ?_
        refine RunL.ok (OpOk.assign rfl) rfl ?_
        refine RunL.nil ?_
        refine Run.region ?_
        refine RunL.ok (OpOk.move rfl) rfl ?_
        refine RunL.ok (OpOk.nilOk rfl) rfl ?_
        refine RunL.ok (OpOk.fieldAddr fld149_0 rfl) rfl ?_
        refine RunL.ok (OpOk.move rfl) rfl ?_
        refine RunL.ok (OpOk.move rfl) rfl ?_
        refine RunL.know (fun w s => (s.conv rfl).ownsB0) (fun alz1 => ?_)
        refine RunL.call cal72 rfl (s72b rdi.left.left.left (by omega) (by omega) (by omega)) rfl (fun vz3 Az3 hz3 => ?_)
        obtain ⟨z4, ⟨z5, ⟨z6, ⟨rfl, rfl⟩⟩⟩⟩ := hz3
        refine RunL.nil ?_
        refine Run.inBlock ?_
        refine Run.region ?_
        refine RunL.ok (OpOk.addN _ 1 rfl rfl rfl rfl (by omega)) rfl ?_
        refine RunL.ok (OpOk.move rfl) rfl ?_
        refine RunL.nil ?_
        refine Run.jump ((ih (i + 1, _, (sv, snap2, has2), z4, recs2 ++ [(z5, (ls.getD i default).2)]) ⟨by dsimp only; omega, by dsimp only; rw [List.length_append, List.length_singleton]; omega, by dsimp only; rw [List.map_append]; exact hnx.symm⟩ (by dsimp only; omega))) ⟨rfl, rfl, rfl, rfl, rfl, trivial⟩ (Grew.of (Eq.trans (frc rfl (frc rfl (frc rfl (frc rfl (frc (frl rfl) (frc (frl rfl) rfl)))))) (congrArg (· * _) (congrArg (· * _) (congrArg (· * _) (congrArg (· * _) (congrArg (· * _) (congrArg (· * _) (asg as1)))))))) (Grew.refl _))
      · obtain rfl : i = ls.length := by omega
        clear ih
        rw [List.take_of_length_le (by simp)] at hct
        refine Run.seq ?_
        refine Run.region ?_
        refine RunL.ok (OpOk.asF (OpOk.lss rfl rfl) (by omega)) rfl ?_
        refine RunL.nil ?_
        refine Run.seq ?_
        refine Run.condF rfl ?_
        refine Run.exit rfl ?_
        refine Run.seq ?_
        refine Run.region ?_
        refine RunL.ok (OpOk.assign rfl) rfl ?_
        refine RunL.nil ?_
        refine Run.ret1 Try.func74 rfl rfl ?_
        rw [← hct]
        exact ⟨sv, rv, y6, recs2, J, rfl, rfl, rfl⟩
    · refine Run.jump ((Run.loopJ (X := Nat × Asn × (Value × List UInt8 × Bool) × Value × List (Value × List UInt8)) (fun x => [(49, .int .i64 (x.1 : Int)), (48, .int .i64 (ls.length : Int)), (47, u), (0, .pointer (some ⟨p, 0, none⟩)), (1, .int .u8 ((k.toNat : Nat) : Int))]) (fun x => A * x.2.1 * pts fp (.cells #[.int .i64 (s), .int .i64 (w), y6] 145 (0, 0)) * own 5 1 y6 ((bs ++ flatB ys)).length (B ((bs ++ flatB ys))) * pts p (.cells #[(x.2.2.1.1), .bool (x.2.2.1.2.2), (x.2.2.2.1), .pointer (some ⟨fp, 0, none⟩), .bool false] 149 (0, 0)) * own 5 1 (x.2.2.1.1) ((x.2.2.1.2.1)).length (B ((x.2.2.1.2.1))) * own 63 1 (x.2.2.2.1) ((x.2.2.2.2)).length (Fl encV ((x.2.2.2.2))) * ownsB 5 ((x.2.2.2.2))) (fun x => x.1 ≤ ls.length ∧ x.2.2.2.2.length ≤ recs.length + x.1 ∧ (x.2.2.1.2.1, x.2.2.1.2.2, x.2.2.2.2.map Prod.snd) = takesC k (snap, has, recs.map Prod.snd) ((ls.map Prod.snd).take x.1)) (fun x => ls.length - x.1) (0, _, (sv, snap, has), rv, recs) ⟨Nat.zero_le _, Nat.le_refl _, rfl⟩ (fun x hx ih => ?_))) ⟨rfl, rfl, rfl, rfl, rfl, trivial⟩ (Grew.of (Eq.trans (frc (frl (frl (frl (frl (frl rfl))))) (frc (frl (frl (frl (frl (frl rfl))))) (frc (frl (frl (frl (frl (frl rfl))))) (frc (frl (frl (frl (frl (frl rfl))))) rfl)))) (congrArg (· * _) (congrArg (· * _) (congrArg (· * _) (congrArg (· * _) (congrArg (· * _) (congrArg (· * _) (asg (asg (asg as1)))))))))) (Grew.refl _))
      obtain ⟨i, J, ⟨sv, snap2, has2⟩, rv, recs2⟩ := x
      simp only at hx ih ⊢
      obtain ⟨hi, hrc, hct⟩ := hx
      rcases Nat.lt_or_ge i ls.length with hlt | hge
      · have rdi : Rd w0 A (ls.getD i default).1 1 (ls.getD i default).2.length (B (ls.getD i default).2) := al.get hlt
        have hv := Fl_V ls i hlt
        have hb := fine_fail hlt hall
        have hnx := takesC_next (k := k) (c := (snap, has, recs.map Prod.snd)) hlt
        rw [← hct, takeC, if_pos hk] at hnx
        refine Run.seq ?_
        refine Run.region ?_
        refine RunL.ok (OpOk.asT (OpOk.lss rfl rfl) (by omega)) rfl ?_
        refine RunL.nil ?_
        refine Run.seq ?_
        refine Run.condT rfl ?_
        refine Run.skip ?_
        refine Run.seq ?_
        refine Run.block ?_
        refine Run.seq ?_
        refine Run.region ?_
        refine RunL.ok (OpOk.idx1N rfl ti63 rfl rd.left.left.left.left.left.left.left rfl (by omega)) rfl ?_
        refine RunL.ok (OpOk.load rfl rfl rfl (Rd.cell rd.left.left.left.left.left.left.left (by first | assumption | rfl))) rfl ?_
        refine RunL.ok (OpOk.assign rfl) rfl ?_
        refine RunL.nil ?_
        refine Run.region ?_
        refine RunL.ok (OpOk.move rfl) rfl ?_
        refine RunL.ok (OpOk.nilOk rfl) rfl ?_
        refine RunL.ok (OpOk.fieldAddr fld149_0 rfl) rfl ?_
        refine RunL.ok (OpOk.move rfl) rfl ?_
        refine RunL.ok (OpOk.move rfl) rfl ?_
        refine RunL.know (fun w s => (s.conv rfl).ownsB0) (fun alz1 => ?_)
        refine RunL.call cal72 rfl (s72a rdi.left.left.left (by omega) (by omega)) rfl (fun vz2 Az2 hz2 => ?_)
        obtain ⟨z3, ⟨z4, ⟨rfl, rfl⟩⟩⟩ := hz2
        refine RunL.nil ?_
        refine Run.inBlock ?_
        refine Run.region ?_
        refine RunL.ok (OpOk.addN _ 1 rfl rfl rfl rfl (by omega)) rfl ?_
        refine RunL.ok (OpOk.move rfl) rfl ?_
        refine RunL.nil ?_
        refine Run.jump ((ih (i + 1, _, (z3, (ls.getD i default).2, true), .slice none 0 0, []) ⟨by dsimp only; omega, by dsimp only; exact Nat.zero_le _, by dsimp only; exact hnx.symm⟩ (by dsimp only; omega))) ⟨rfl, rfl, rfl, rfl, rfl, trivial⟩ (Grew.of (Eq.trans (frc rfl (frc rfl (frc rfl (frc rfl (frc (frl rfl) (frc (frl rfl) rfl)))))) (congrArg (· * _) (congrArg (· * _) (congrArg (· * _) (congrArg (· * _) (congrArg (· * _) (congrArg (· * _) (asg as1)))))))) (Grew.refl _))
      · obtain rfl : i = ls.length := by omega
        clear ih
        rw [List.take_of_length_le (by simp)] at hct
        refine Run.seq ?_
        refine Run.region ?_
        refine RunL.ok (OpOk.asF (OpOk.lss rfl rfl) (by omega)) rfl ?_
        refine RunL.nil ?_
        refine Run.seq ?_
        refine Run.condF rfl ?_
        refine Run.exit rfl ?_
        refine Run.seq ?_
        refine Run.region ?_
        refine RunL.ok (OpOk.assign rfl) rfl ?_
        refine RunL.nil ?_
        refine Run.ret1 Try.func74 rfl rfl ?_
        rw [← hct]
        exact ⟨sv, rv, y6, recs2, J, rfl, rfl, rfl⟩
theorem writeD2 {u : Value} {m : Nat} {k : UInt8} {ls : List (Value × List UInt8)} (rd : Rd w0 A u 1 m (Fl encV ls)) (al : Alls (GB w0) A ls) (hl : m ≤ 1048576) (hall : (ls.map Prod.snd).all fine = true) (hs : 0 ≤ s) (hs2 : s ≤ 9223372036854775807) (hbl : bs.length ≤ 16777216) (hr : recs.length ≤ 8388608) (hk : k.toNat = 1 ∨ k.toNat = 2) (hf : ((rowsB k (ls.map Prod.snd)).length : Int) ≤ s - bs.length) (hw2 : w ≤ 9223372036854775807) (hw : 0 ≤ w) (hn : ((rowsB k (ls.map Prod.snd)).length : Int) ≤ w) :
    Spec Try.prog w0 74 [.pointer (some ⟨p, 0, none⟩), .int .u8 ((k.toNat : Nat) : Int), u] (A * pts fp (.cells #[.int .i64 (s), .int .i64 (w), fv] 145 (0, 0)) * own 5 1 fv (bs).length (B (bs)) * pts p (.cells #[sv, .bool has, rv, .pointer (some ⟨fp, 0, none⟩), .bool false] 149 (0, 0)) * own 5 1 sv (snap).length (B (snap)) * own 63 1 rv (recs).length (Fl encV (recs)) * ownsB 5 (recs)) (fun v' A' => ∃ (sv2 rv2 fv2 : Value) (recs2 : List (Value × List UInt8)) (J : Asn), v' = .int .i64 0 ∧ recs2.map Prod.snd = (takesC k (snap, has, recs.map Prod.snd) (ls.map Prod.snd)).2.2 ∧
      A' = A * J * pts fp (.cells #[.int .i64 (s), .int .i64 ((w - (rowsB k (ls.map Prod.snd)).length)), fv2] 145 (0, 0)) * own 5 1 fv2 (bs ++ rowsB k (ls.map Prod.snd)).length (B (bs ++ rowsB k (ls.map Prod.snd))) * pts p (.cells #[sv2, .bool (takesC k (snap, has, recs.map Prod.snd) (ls.map Prod.snd)).2.1, rv2, .pointer (some ⟨fp, 0, none⟩), .bool false] 149 (0, 0)) * own 5 1 sv2 ((takesC k (snap, has, recs.map Prod.snd) (ls.map Prod.snd)).1).length (B ((takesC k (snap, has, recs.map Prod.snd) (ls.map Prod.snd)).1)) * own 63 1 rv2 (recs2).length (Fl encV (recs2)) * ownsB 5 (recs2)) := by
  have hl0 := rd.lenFl (fun _ => rfl) (by decide)
  subst hl0
  refine Spec.of_run [(0, .pointer (some ⟨p, 0, none⟩)), (1, .int .u8 ((k.toNat : Nat) : Int)), (2, u)] Try.func74 rfl (Nat.le_of_ble_eq_true rfl) (by repeat (first | exact trivial | refine ⟨rfl, ?_⟩)) ?_
  refine Run.seq ?_
  refine Run.region ?_
  refine RunL.ok (OpOk.assign rfl) rfl ?_
  refine RunL.nil ?_
  refine Run.seq ?_
  refine Run.seq ?_
  refine Run.region ?_
  refine RunL.ok (OpOk.move rfl) rfl ?_
  refine RunL.ok (OpOk.nilOk rfl) rfl ?_
  refine RunL.ok (OpOk.fieldAddr fld149_2 rfl) rfl ?_
  refine RunL.ok (OpOk.load rfl rfl rfl (Blk.out Blk.pts.left.left.left _ _ (by first | rfl | assumption))) rfl ?_
  refine RunL.nil ?_
  refine Run.condF rfl ?_
  refine Run.skip ?_
  refine Run.seq ?_
  refine Run.region ?_
  refine RunL.ok (OpOk.assign rfl) rfl ?_
  refine RunL.nil ?_
  refine Run.seq ?_
  refine Run.seq ?_
  refine Run.region ?_
  refine RunL.ok (OpOk.move rfl) rfl ?_
  refine RunL.ok (OpOk.lenR rfl rfl rd.left.left.left.left.left.left rfl) rfl ?_
  refine RunL.ok (OpOk.move rfl) rfl ?_
  refine RunL.nil ?_
  refine Run.block ?_
  refine Run.ent (Ent.ownNil' _ 63 1 (Fl encV ([] : List (Value × List UInt8))) rfl) ?_
  refine Run.mem (sep_emp _).symm ?_
  rw [← ownsB_nil 5]
  refine Run.jump ((Run.loopJ (X := Nat × Asn × Value × List (Value × List UInt8)) (fun x => [(19, .int .i64 (x.1 : Int)), (18, .int .i64 (ls.length : Int)), (17, u), (7, x.2.2.1), (0, .pointer (some ⟨p, 0, none⟩)), (1, .int .u8 ((k.toNat : Nat) : Int)), (2, u)]) (fun x => A * x.2.1 * pts fp (.cells #[.int .i64 (s), .int .i64 (w), fv] 145 (0, 0)) * own 5 1 fv (bs).length (B (bs)) * pts p (.cells #[sv, .bool has, rv, .pointer (some ⟨fp, 0, none⟩), .bool false] 149 (0, 0)) * own 5 1 sv (snap).length (B (snap)) * own 63 1 rv (recs).length (Fl encV (recs)) * ownsB 5 (recs) * own 63 1 x.2.2.1 x.2.2.2.length (Fl encV x.2.2.2) * ownsB 5 x.2.2.2) (fun x => x.1 ≤ ls.length ∧ x.2.2.2.length = x.1 ∧ x.2.2.2.map Prod.snd = ((ls.map Prod.snd).take x.1).map (rowB k) ∧ ((ls.map Prod.snd).take x.1).all fine = true) (fun x => ls.length - x.1) (0, _, .slice none 0 0, []) ⟨Nat.zero_le _, rfl, by simp, rfl⟩ (fun x hx ih => ?_))) ⟨rfl, rfl, rfl, rfl, rfl, rfl, rfl, trivial⟩ (Grew.of (Eq.trans (frc rfl (frc rfl rfl)) (congrArg (· * _) (congrArg (· * _) (congrArg (· * _) (congrArg (· * _) (congrArg (· * _) (congrArg (· * _) (congrArg (· * _) (congrArg (· * _) as0))))))))) (Grew.refl _))
  obtain ⟨i, J, v7, ys⟩ := x
  simp only at hx ih ⊢
  obtain ⟨hi, hyl, hy, hfi⟩ := hx
  rcases Nat.lt_or_ge i ls.length with hlt | hge
  · have rdi : Rd w0 A (ls.getD i default).1 1 (ls.getD i default).2.length (B (ls.getD i default).2) := al.get hlt
    have hv := Fl_V ls i hlt
    have hb := fine_fail hlt hall
    have hfn : ((ls.map Prod.snd).take (i + 1)).all fine = true := by
      rw [fine_next (by simpa using hlt), hfi, snd_get hlt, fine, decide_eq_true hb]; rfl
    refine Run.seq ?_
    refine Run.region ?_
    refine RunL.ok (OpOk.asT (OpOk.lss rfl rfl) (by omega)) rfl ?_
    refine RunL.nil ?_
    refine Run.seq ?_
    refine Run.condT rfl ?_
    refine Run.skip ?_
    refine Run.seq ?_
    refine Run.block ?_
    refine Run.seq ?_
    refine Run.region ?_
    refine RunL.ok (OpOk.idx1N rfl ti63 rfl rd.left.left.left.left.left.left.left.left.left rfl (by omega)) rfl ?_
    refine RunL.ok (OpOk.load rfl rfl rfl (Rd.cell rd.left.left.left.left.left.left.left.left.left (by first | assumption | rfl))) rfl ?_
    refine RunL.ok (OpOk.assign rfl) rfl ?_
    refine RunL.nil ?_
    refine Run.seq ?_
    refine Run.seq ?_
    refine Run.region ?_
    refine RunL.ok (OpOk.move rfl) rfl ?_
    refine RunL.ok (OpOk.lenR rfl rfl rdi.left.left.left.left.left.left.left.left.left rfl) rfl ?_
    refine RunL.ok (OpOk.asF (OpOk.gtr rfl rfl) (by omega)) rfl ?_
    refine RunL.nil ?_
    refine Run.condF rfl ?_
    refine Run.skip ?_
    refine Run.region ?_
    refine RunL.ok (OpOk.move rfl) rfl ?_
    refine RunL.ok (OpOk.move rfl) rfl ?_
    refine RunL.ok (OpOk.move rfl) rfl ?_
    refine RunL.know (fun w s => (s.conv (frl (frl rfl))).ownsB0) (fun aly1 => ?_)
    refine RunL.know (fun w s => (s.conv rfl).ownsB0) (fun aly2 => ?_)
    refine RunL.call cal106 rfl (s106 rdi.left.left.left.left.left.left.left.left.left (by assumption)) rfl (fun vy3 Ay3 hy3 => ?_)
    obtain ⟨y4, rfl⟩ := hy3
    refine RunL.know (fun w s => (s.conv rfl).ownRd0) (fun rdy6 => ?_)
    have aly5 : Alls (GB w0) _ [(vy3, rowB k (ls.getD i default).snd)] := (Alls.cons (GB.of rdy6) Alls.nil)
    refine RunL.litV (ls := [(vy3, rowB k (ls.getD i default).snd)]) (Alls.right aly5) rfl ti63 rfl rfl rfl (by decide) rfl (fun vy5 rdy5 => ?_)
    refine RunL.know (fun w s => (s.conv rfl).ownRd0) (fun rdy8 => ?_)
    refine RunL.appendV (Alls.right aly5).left rfl ti63 rfl rfl rfl (frl (frl (frl (frl rfl)))) (Rd.right rdy8) (by omega) rfl (fun vy7 rdy7 => ?_)
    refine RunL.ok (OpOk.assign rfl) rfl ?_
    refine RunL.nil ?_
    refine Run.inBlock ?_
    refine Run.region ?_
    refine RunL.ok (OpOk.addN _ 1 rfl rfl rfl rfl (by omega)) rfl ?_
    refine RunL.ok (OpOk.move rfl) rfl ?_
    refine RunL.nil ?_
    rw [show ys.length + 1 = (ys ++ [(vy3, rowB k (ls.getD i default).2)]).length by simp, ← rowB_len k (ls.getD i default).2]
    refine Run.jump ((ih (i + 1, _, vy7, ys ++ [(vy3, rowB k (ls.getD i default).2)]) ⟨by dsimp only; omega, by dsimp only; rw [List.length_append, hyl]; rfl, rows_snoc hlt hy, hfn⟩ (by dsimp only; omega))) ⟨rfl, rfl, rfl, rfl, rfl, rfl, rfl, trivial⟩ (by simp only [ownsB_snoc, ← sep_assoc]; exact (Grew.of (Eq.trans (frc (frl (frl rfl)) (frc (frl (frl (frl rfl))) (frc rfl (frc (frl (frl rfl)) (frc (frl (frl rfl)) (frc (frl (frl rfl)) (frc (frl (frl rfl)) (frc (frl (frl rfl)) (frc (frl (frl rfl)) rfl))))))))) (congrArg (· * _) (congrArg (· * _) (congrArg (· * _) (congrArg (· * _) (congrArg (· * _) (congrArg (· * _) (congrArg (· * _) (congrArg (· * _) (congrArg (· * _) (asg (asg as1)))))))))))) (Grew.refl _)))
  · obtain rfl : i = ls.length := by omega
    clear ih
    rw [List.take_of_length_le (by simp)] at hy
    have hfl := flatB_rows hy
    have hrl := rowsB_len (k := k) hall
    rw [List.length_map] at hrl
    have hf2 : ((flatB ys).length : Int) ≤ s - bs.length := by rw [hfl]; exact hf
    have hn2 : ((flatB ys).length : Int) ≤ w := by rw [hfl]; exact hn
    have hlim : bs.length + (flatB ys).length ≤ 140737488355328 := by rw [hfl]; omega
    rw [← hfl]
    refine Run.seq ?_
    refine Run.region ?_
    refine RunL.ok (OpOk.asF (OpOk.lss rfl rfl) (by omega)) rfl ?_
    refine RunL.nil ?_
    refine Run.seq ?_
    refine Run.condF rfl ?_
    refine Run.exit rfl ?_
    refine Run.seq ?_
    refine Run.seq ?_
    refine Run.region ?_
    refine RunL.ok (OpOk.move rfl) rfl ?_
    refine RunL.ok (OpOk.nilOk rfl) rfl ?_
    refine RunL.ok (OpOk.fieldAddr fld149_1 rfl) rfl ?_
    refine RunL.ok (OpOk.load rfl rfl rfl (Blk.out Blk.pts.left.left.left.left.left _ _ (by first | rfl | assumption))) rfl ?_
    refine RunL.ok (OpOk.move rfl) rfl ?_
    refine RunL.know (fun w s => (s.conv (frl (frl rfl))).ownsB0) (fun aly1 => ?_)
    refine RunL.know (fun w s => (s.conv rfl).ownsB0) (fun aly2 => ?_)
    refine RunL.know (fun w s => (s.conv (frl rfl)).ownRd0) (fun rdy3 => ?_)
    refine RunL.mem (frc (frl (frl (frl (frl (frl (frl rfl)))))) (frc (frl (frl (frl (frl (frl (frl rfl)))))) rfl)) ?_
    refine RunL.call cal31 rfl (s31c (Rd.right rdy3).left (Alls.right aly2) (by assumption) (by assumption) (by assumption) (by assumption) (by assumption) (by assumption) (by assumption)) rfl (fun vy6 Ay6 hy6 => ?_)
    obtain ⟨y7, ⟨y8, ⟨rfl, rfl⟩⟩⟩ := hy6
    refine RunL.ok (OpOk.assign rfl) rfl ?_
    refine RunL.nil ?_
    refine Run.seq ?_
    refine Run.region ?_
    refine RunL.ok (OpOk.move rfl) rfl ?_
    refine RunL.ok (OpOk.as (c := false) (OpOk.neq rfl rfl) (by rw [decide_eq_true (by omega)]; rfl)) rfl ?_
    refine RunL.nil ?_
    refine Run.condF rfl ?_
    refine Run.skip ?_
    refine Run.seq ?_
    refine Run.seq ?_
    refine Run.region ?_
    refine RunL.ok (OpOk.move rfl) rfl ?_
    refine RunL.ok (OpOk.lenR rfl rfl rd.left.left.left.left.left.left.left.left.left.left rfl) rfl ?_
    refine RunL.ok (OpOk.move rfl) rfl ?_
    refine RunL.nil ?_
    refine Run.block ?_
    rcases hk with hk | hk
    · refine Run.jump ((Run.loopJ (X := Nat × Asn × (Value × List UInt8 × Bool) × Value × List (Value × List UInt8)) (fun x => [(49, .int .i64 (x.1 : Int)), (48, .int .i64 (ls.length : Int)), (47, u), (0, .pointer (some ⟨p, 0, none⟩)), (1, .int .u8 ((k.toNat : Nat) : Int))]) (fun x => A * x.2.1 * pts fp (.cells #[.int .i64 (s), .int .i64 ((w - (flatB ys).length)), y7] 145 (0, 0)) * own 5 1 y7 ((bs ++ flatB ys)).length (B ((bs ++ flatB ys))) * pts p (.cells #[(x.2.2.1.1), .bool (x.2.2.1.2.2), (x.2.2.2.1), .pointer (some ⟨fp, 0, none⟩), .bool false] 149 (0, 0)) * own 5 1 (x.2.2.1.1) ((x.2.2.1.2.1)).length (B ((x.2.2.1.2.1))) * own 63 1 (x.2.2.2.1) ((x.2.2.2.2)).length (Fl encV ((x.2.2.2.2))) * ownsB 5 ((x.2.2.2.2))) (fun x => x.1 ≤ ls.length ∧ x.2.2.2.2.length ≤ recs.length + x.1 ∧ (x.2.2.1.2.1, x.2.2.1.2.2, x.2.2.2.2.map Prod.snd) = takesC k (snap, has, recs.map Prod.snd) ((ls.map Prod.snd).take x.1)) (fun x => ls.length - x.1) (0, _, (sv, snap, has), rv, recs) ⟨Nat.zero_le _, Nat.le_refl _, rfl⟩ (fun x hx ih => ?_))) ⟨rfl, rfl, rfl, rfl, rfl, trivial⟩ (Grew.of (Eq.trans (frc (frl (frl (frl (frl (frl rfl))))) (frc (frl (frl (frl (frl (frl rfl))))) (frc (frl (frl (frl (frl (frl rfl))))) (frc (frl (frl (frl (frl (frl rfl))))) rfl)))) (congrArg (· * _) (congrArg (· * _) (congrArg (· * _) (congrArg (· * _) (congrArg (· * _) (congrArg (· * _) (asg (asg (asg as1)))))))))) (Grew.refl _))
      obtain ⟨i, J, ⟨sv, snap2, has2⟩, rv, recs2⟩ := x
      simp only at hx ih ⊢
      obtain ⟨hi, hrc, hct⟩ := hx
      rcases Nat.lt_or_ge i ls.length with hlt | hge
      · have rdi : Rd w0 A (ls.getD i default).1 1 (ls.getD i default).2.length (B (ls.getD i default).2) := al.get hlt
        have hv := Fl_V ls i hlt
        have hb := fine_fail hlt hall
        have hnx := takesC_next (k := k) (c := (snap, has, recs.map Prod.snd)) hlt
        rw [← hct, takeC, if_neg (by rw [hk]; decide)] at hnx
        refine Run.seq ?_
        refine Run.region ?_
        refine RunL.ok (OpOk.asT (OpOk.lss rfl rfl) (by omega)) rfl ?_
        refine RunL.nil ?_
        refine Run.seq ?_
        refine Run.condT rfl ?_
        refine Run.skip ?_
        refine Run.seq ?_
        refine Run.block ?_
        refine Run.seq ?_
        refine Run.region ?_
        refine RunL.ok (OpOk.idx1N rfl ti63 rfl rd.left.left.left.left.left.left.left rfl (by omega)) rfl ?_
        refine RunL.ok (OpOk.load rfl rfl rfl (Rd.cell rd.left.left.left.left.left.left.left (by first | assumption | rfl))) rfl ?_
        refine RunL.ok (OpOk.assign rfl) rfl ?_
        refine RunL.nil ?_
        refine Run.region ?_
        refine RunL.ok (OpOk.move rfl) rfl ?_
        refine RunL.ok (OpOk.nilOk rfl) rfl ?_
        refine RunL.ok (OpOk.fieldAddr fld149_0 rfl) rfl ?_
        refine RunL.ok (OpOk.move rfl) rfl ?_
        refine RunL.ok (OpOk.move rfl) rfl ?_
        refine RunL.know (fun w s => (s.conv rfl).ownsB0) (fun alz1 => ?_)
        refine RunL.call cal72 rfl (s72b rdi.left.left.left (by omega) (by omega) (by omega)) rfl (fun vz3 Az3 hz3 => ?_)
        obtain ⟨z4, ⟨z5, ⟨z6, ⟨rfl, rfl⟩⟩⟩⟩ := hz3
        refine RunL.nil ?_
        refine Run.inBlock ?_
        refine Run.region ?_
        refine RunL.ok (OpOk.addN _ 1 rfl rfl rfl rfl (by omega)) rfl ?_
        refine RunL.ok (OpOk.move rfl) rfl ?_
        refine RunL.nil ?_
        refine Run.jump ((ih (i + 1, _, (sv, snap2, has2), z4, recs2 ++ [(z5, (ls.getD i default).2)]) ⟨by dsimp only; omega, by dsimp only; rw [List.length_append, List.length_singleton]; omega, by dsimp only; rw [List.map_append]; exact hnx.symm⟩ (by dsimp only; omega))) ⟨rfl, rfl, rfl, rfl, rfl, trivial⟩ (Grew.of (Eq.trans (frc rfl (frc rfl (frc rfl (frc rfl (frc (frl rfl) (frc (frl rfl) rfl)))))) (congrArg (· * _) (congrArg (· * _) (congrArg (· * _) (congrArg (· * _) (congrArg (· * _) (congrArg (· * _) (asg as1)))))))) (Grew.refl _))
      · obtain rfl : i = ls.length := by omega
        clear ih
        rw [List.take_of_length_le (by simp)] at hct
        refine Run.seq ?_
        refine Run.region ?_
        refine RunL.ok (OpOk.asF (OpOk.lss rfl rfl) (by omega)) rfl ?_
        refine RunL.nil ?_
        refine Run.seq ?_
        refine Run.condF rfl ?_
        refine Run.exit rfl ?_
        refine Run.seq ?_
        refine Run.region ?_
        refine RunL.ok (OpOk.assign rfl) rfl ?_
        refine RunL.nil ?_
        refine Run.ret1 Try.func74 rfl rfl ?_
        rw [← hct]
        exact ⟨sv, rv, y7, recs2, J, rfl, rfl, rfl⟩
    · refine Run.jump ((Run.loopJ (X := Nat × Asn × (Value × List UInt8 × Bool) × Value × List (Value × List UInt8)) (fun x => [(49, .int .i64 (x.1 : Int)), (48, .int .i64 (ls.length : Int)), (47, u), (0, .pointer (some ⟨p, 0, none⟩)), (1, .int .u8 ((k.toNat : Nat) : Int))]) (fun x => A * x.2.1 * pts fp (.cells #[.int .i64 (s), .int .i64 ((w - (flatB ys).length)), y7] 145 (0, 0)) * own 5 1 y7 ((bs ++ flatB ys)).length (B ((bs ++ flatB ys))) * pts p (.cells #[(x.2.2.1.1), .bool (x.2.2.1.2.2), (x.2.2.2.1), .pointer (some ⟨fp, 0, none⟩), .bool false] 149 (0, 0)) * own 5 1 (x.2.2.1.1) ((x.2.2.1.2.1)).length (B ((x.2.2.1.2.1))) * own 63 1 (x.2.2.2.1) ((x.2.2.2.2)).length (Fl encV ((x.2.2.2.2))) * ownsB 5 ((x.2.2.2.2))) (fun x => x.1 ≤ ls.length ∧ x.2.2.2.2.length ≤ recs.length + x.1 ∧ (x.2.2.1.2.1, x.2.2.1.2.2, x.2.2.2.2.map Prod.snd) = takesC k (snap, has, recs.map Prod.snd) ((ls.map Prod.snd).take x.1)) (fun x => ls.length - x.1) (0, _, (sv, snap, has), rv, recs) ⟨Nat.zero_le _, Nat.le_refl _, rfl⟩ (fun x hx ih => ?_))) ⟨rfl, rfl, rfl, rfl, rfl, trivial⟩ (Grew.of (Eq.trans (frc (frl (frl (frl (frl (frl rfl))))) (frc (frl (frl (frl (frl (frl rfl))))) (frc (frl (frl (frl (frl (frl rfl))))) (frc (frl (frl (frl (frl (frl rfl))))) rfl)))) (congrArg (· * _) (congrArg (· * _) (congrArg (· * _) (congrArg (· * _) (congrArg (· * _) (congrArg (· * _) (asg (asg (asg as1)))))))))) (Grew.refl _))
      obtain ⟨i, J, ⟨sv, snap2, has2⟩, rv, recs2⟩ := x
      simp only at hx ih ⊢
      obtain ⟨hi, hrc, hct⟩ := hx
      rcases Nat.lt_or_ge i ls.length with hlt | hge
      · have rdi : Rd w0 A (ls.getD i default).1 1 (ls.getD i default).2.length (B (ls.getD i default).2) := al.get hlt
        have hv := Fl_V ls i hlt
        have hb := fine_fail hlt hall
        have hnx := takesC_next (k := k) (c := (snap, has, recs.map Prod.snd)) hlt
        rw [← hct, takeC, if_pos hk] at hnx
        refine Run.seq ?_
        refine Run.region ?_
        refine RunL.ok (OpOk.asT (OpOk.lss rfl rfl) (by omega)) rfl ?_
        refine RunL.nil ?_
        refine Run.seq ?_
        refine Run.condT rfl ?_
        refine Run.skip ?_
        refine Run.seq ?_
        refine Run.block ?_
        refine Run.seq ?_
        refine Run.region ?_
        refine RunL.ok (OpOk.idx1N rfl ti63 rfl rd.left.left.left.left.left.left.left rfl (by omega)) rfl ?_
        refine RunL.ok (OpOk.load rfl rfl rfl (Rd.cell rd.left.left.left.left.left.left.left (by first | assumption | rfl))) rfl ?_
        refine RunL.ok (OpOk.assign rfl) rfl ?_
        refine RunL.nil ?_
        refine Run.region ?_
        refine RunL.ok (OpOk.move rfl) rfl ?_
        refine RunL.ok (OpOk.nilOk rfl) rfl ?_
        refine RunL.ok (OpOk.fieldAddr fld149_0 rfl) rfl ?_
        refine RunL.ok (OpOk.move rfl) rfl ?_
        refine RunL.ok (OpOk.move rfl) rfl ?_
        refine RunL.know (fun w s => (s.conv rfl).ownsB0) (fun alz1 => ?_)
        refine RunL.call cal72 rfl (s72a rdi.left.left.left (by omega) (by omega)) rfl (fun vz2 Az2 hz2 => ?_)
        obtain ⟨z3, ⟨z4, ⟨rfl, rfl⟩⟩⟩ := hz2
        refine RunL.nil ?_
        refine Run.inBlock ?_
        refine Run.region ?_
        refine RunL.ok (OpOk.addN _ 1 rfl rfl rfl rfl (by omega)) rfl ?_
        refine RunL.ok (OpOk.move rfl) rfl ?_
        refine RunL.nil ?_
        refine Run.jump ((ih (i + 1, _, (z3, (ls.getD i default).2, true), .slice none 0 0, []) ⟨by dsimp only; omega, by dsimp only; exact Nat.zero_le _, by dsimp only; exact hnx.symm⟩ (by dsimp only; omega))) ⟨rfl, rfl, rfl, rfl, rfl, trivial⟩ (Grew.of (Eq.trans (frc rfl (frc rfl (frc rfl (frc rfl (frc (frl rfl) (frc (frl rfl) rfl)))))) (congrArg (· * _) (congrArg (· * _) (congrArg (· * _) (congrArg (· * _) (congrArg (· * _) (congrArg (· * _) (asg as1)))))))) (Grew.refl _))
      · obtain rfl : i = ls.length := by omega
        clear ih
        rw [List.take_of_length_le (by simp)] at hct
        refine Run.seq ?_
        refine Run.region ?_
        refine RunL.ok (OpOk.asF (OpOk.lss rfl rfl) (by omega)) rfl ?_
        refine RunL.nil ?_
        refine Run.seq ?_
        refine Run.condF rfl ?_
        refine Run.exit rfl ?_
        refine Run.seq ?_
        refine Run.region ?_
        refine RunL.ok (OpOk.assign rfl) rfl ?_
        refine RunL.nil ?_
        refine Run.ret1 Try.func74 rfl rfl ?_
        rw [← hct]
        exact ⟨sv, rv, y7, recs2, J, rfl, rfl, rfl⟩
end
end Go.Proofs.Yteopadjihklkmaa
