/- The law of puts, walked. -/
import Derived.Test.YtlheianbmpgefaaBiP
namespace Go.Proofs.Ytlheianbmpgefaa
open Go Go.Proofs
set_option maxRecDepth 100000
set_option maxHeartbeats 4000000
def fieldsT (fs : List (Int × Int)) : List UInt8 := fs.flatMap fun f => fieldT f.1 f.2
theorem fieldsT_append (a b : List (Int × Int)) : fieldsT (a ++ b) = fieldsT a ++ fieldsT b := by simp [fieldsT]
theorem fieldT_le (w v : Int) : (fieldT w v).length ≤ 32 := by
  unfold fieldT
  split
  · rw [txt_length, bitsOf_length]; omega
  · simp
theorem fieldsT_le (fs : List (Int × Int)) : (fieldsT fs).length ≤ 32 * fs.length := by
  induction fs with
  | nil => simp [fieldsT]
  | cons f r ih =>
    have := fieldT_le f.1 f.2
    simp only [fieldsT, List.flatMap_cons, List.length_append, List.length_cons] at *
    omega
theorem fieldsT_fits {fs : List (Int × Int)} (h : fs.all fitsF = true) : fieldsT fs = txt (fieldBits fs) := by
  induction fs with
  | nil => rfl
  | cons f r ih =>
    rw [List.all_cons, Bool.and_eq_true] at h
    have h1 := fits_lt h.1
    have e : fieldT f.1 f.2 = txt (bitsOf f.1.toNat f.2.toNat) := by simp only [fieldT]; rw [if_pos ⟨h1.1, h1.2.1, h1.2.2.1⟩]
    have ih := ih h.2
    simp only [fieldsT, fieldBits, List.flatMap_cons] at *
    rw [e, ih, txt_append]
theorem bitsPuts_spec {w0 : World} {u1 : Value} {ls : List (Value × List (Int × Int))} (rd : Rd w0 (old w0) u1 1 ls.length (Fl encVF ls))
    (hin : ∀ p ∈ ls, Rd w0 (old w0) p.1 2 p.2.length (Fl encF p.2)) (hsz : ∀ p ∈ ls, p.2.length ≤ 1048576) (hv0 : ∀ p ∈ ls, ∀ f ∈ p.2, f.2 ≤ 9223372036854775807) :
    Spec Try.prog w0 3 [u1] (old w0) (fun v' A' => v' = .bool true ∧ Grew (old w0) A') := by
  have hmax := rd.max
  refine Spec.of_run [(0, u1)] Try.func3 rfl (Nat.le_of_ble_eq_true rfl) (by repeat (first | exact trivial | refine ⟨rfl, ?_⟩)) ?_
  refine Run.seq ?_
  refine Run.region ?_
  refine RunL.ok (OpOk.assign rfl) rfl ?_
  refine RunL.nil ?_
  refine Run.seq ?_
  refine Run.seq ?_
  refine Run.region ?_
  refine RunL.call cal15 rfl (s15) rfl (fun vx1 Ax1 hx1 => ?_)
  obtain ⟨x2, ⟨rfl, rfl⟩⟩ := hx1
  refine RunL.ok (OpOk.not rfl) rfl ?_
  refine RunL.nil ?_
  refine Run.condF rfl ?_
  refine Run.skip ?_
  refine Run.seq ?_
  refine Run.region ?_
  refine RunL.alloc ti26 rfl (fun bx3 => ?_)
  refine RunL.ent (newT26 _ _) ?_
  refine RunL.nil ?_
  refine Run.seq ?_
  refine Run.region ?_
  refine RunL.ok (OpOk.assign rfl) rfl ?_
  refine RunL.nil ?_
  refine Run.seq ?_
  refine Run.seq ?_
  refine Run.region ?_
  refine RunL.ok (OpOk.assign rfl) rfl ?_
  refine RunL.nil ?_
  refine Run.block ?_
  refine Run.jump ((Run.loopJ (X := Nat × Asn × Value × List Bool) (fun x => [(5, .int .i64 x.1), (4, S (txt x.2.2.2)), (3, .pointer (some ⟨bx3, 0, none⟩)), (0, u1)]) (fun x => old w0 * x.2.1 * pts bx3 (.cells #[x.2.2.1, .int .i64 (((x.2.2.2).length : Nat) : Int)] 26 (0, 0)) * own 5 1 x.2.2.1 (((x.2.2.2).length + 7) / 8) (B (pack (x.2.2.2) (((x.2.2.2).length + 7) / 8)))) (fun x => x.1 ≤ ls.length ∧ x.2.2.2.length ≤ 33554432 * x.1 ∧ x.1 ≤ 40) (fun x => ls.length - x.1) (0, x2, .slice none 0 0, []) ⟨Nat.zero_le _, Nat.zero_le _, Nat.zero_le _⟩ (fun x hx ih => ?_))) ⟨rfl, rfl, rfl, rfl, trivial⟩ ((Grew.refl _))
  obtain ⟨i, J, v, bs⟩ := x
  simp only at hx ih ⊢
  obtain ⟨hi, hbl, h40⟩ := hx
  rcases Nat.lt_or_ge i ls.length with hlt | hge
  · have hmem : ls.getD i default ∈ ls := by rw [List.getD_eq_getElem?_getD, List.getElem?_eq_getElem hlt]; exact List.getElem_mem hlt
    have rd3 := hin _ hmem
    have hsz3 := hsz _ hmem
    have hvv := hv0 _ hmem
    have hv := Fl_VF ls i hlt
    refine Run.seq ?_
    refine Run.seq ?_
    refine Run.region ?_
    refine RunL.ok (OpOk.move rfl) rfl ?_
    refine RunL.ok (OpOk.move rfl) rfl ?_
    refine RunL.ok (OpOk.lenR rfl rfl rd.left.left.left rfl) rfl ?_
    refine RunL.ok (OpOk.asT (OpOk.lss rfl rfl) (by omega)) rfl ?_
    refine RunL.ok (OpOk.move rfl) rfl ?_
    refine RunL.on rfl rfl ?_
    refine RunL.ok (OpOk.move rfl) rfl ?_
    refine RunL.on rfl rfl ?_
    refine RunL.ok (OpOk.lss rfl rfl) rfl ?_
    refine RunL.ok (OpOk.pickT rfl rfl) rfl ?_
    refine RunL.nil ?_
    refine Run.condD rfl (fun y1 => ?_) (fun y1 => ?_)
    · refine Run.skip ?_
      refine Run.seq ?_
      refine Run.block ?_
      refine Run.seq ?_
      refine Run.region ?_
      refine RunL.ok (OpOk.assign rfl) rfl ?_
      refine RunL.ok (OpOk.assign rfl) rfl ?_
      refine RunL.nil ?_
      refine Run.seq ?_
      refine Run.seq ?_
      refine Run.region ?_
      refine RunL.ok (OpOk.assign rfl) rfl ?_
      refine RunL.nil ?_
      refine Run.block ?_
      refine Run.jump ((Run.loopJ (X := Nat) (fun k => [(8, .int .i64 k), (7, .bool (((ls.getD i default).2.take k).all fitsF)), (6, S (fieldsT ((ls.getD i default).2.take k))), (5, .int .i64 i), (4, S (txt bs)), (3, .pointer (some ⟨bx3, 0, none⟩)), (0, u1)]) (fun _ => old w0 * J * pts bx3 (.cells #[v, .int .i64 (((bs).length : Nat) : Int)] 26 (0, 0)) * own 5 1 v (((bs).length + 7) / 8) (B (pack (bs) (((bs).length + 7) / 8)))) (fun k => k ≤ (ls.getD i default).2.length) (fun k => (ls.getD i default).2.length - k) 0 (Nat.zero_le _) (fun k hk ih2 => ?_))) ⟨rfl, rfl, rfl, rfl, rfl, rfl, rfl, trivial⟩ ((Grew.refl _))
      generalize hfs : (ls.getD i default).2 = fs at *
      generalize huf : (ls.getD i default).1 = uf at *
      rcases Nat.lt_or_ge k fs.length with hk1 | hk1
      · have hfl := fieldsT_le (fs.take k)
        rw [List.length_take] at hfl
        have hft := fieldT_le (fs.getD k default).1 (fs.getD k default).2
        have hvk : (fs.getD k default).2 ≤ 9223372036854775807 := hvv _ (by rw [List.getD_eq_getElem?_getD, List.getElem?_eq_getElem hk1]; exact List.getElem_mem hk1)
        have h6 : fieldsT (fs.take k) ++ fieldT (fs.getD k default).1 (fs.getD k default).2 = fieldsT (fs.take (k + 1)) := by rw [take_next hk1, fieldsT_append]; simp [fieldsT]
        refine Run.seq ?_
        refine Run.seq ?_
        refine Run.region ?_
        refine RunL.ok (OpOk.move rfl) rfl ?_
        refine RunL.ok (OpOk.move rfl) rfl ?_
        refine RunL.ok (OpOk.move rfl) rfl ?_
        refine RunL.ok (OpOk.idx1N rfl ti27 rfl rd.left.left.left rfl (by omega)) rfl ?_
        refine RunL.ok (OpOk.load rfl rfl rfl (Rd.cell rd.left.left.left (by first | assumption | rfl))) rfl ?_
        refine RunL.ok (OpOk.lenR rfl rfl rd3.left.left.left rfl) rfl ?_
        refine RunL.ok (OpOk.asT (OpOk.lss rfl rfl) (by omega)) rfl ?_
        refine RunL.nil ?_
        refine Run.condT rfl ?_
        refine Run.skip ?_
        refine Run.seq ?_
        refine Run.block ?_
        refine Run.seq ?_
        refine Run.know (fun w s => (s.conv rfl).ownRd0) (fun rdz1 => ?_)
        (apply Run.drawD [] (by rfl) (sep_emp _).symm; case hchk => kernel_rfl)
        refine Sd.quiet 0 _ _ rfl rfl rfl rfl rfl (QOp.ok (fun X => OpOk.move rfl)) ?_
        refine Sd.quiet 1 _ _ rfl rfl rfl rfl rfl (QOp.ok (fun X => OpOk.move rfl)) ?_
        refine Sd.quiet 2 _ _ rfl rfl rfl rfl rfl (QOp.ok (fun X => OpOk.idx1N rfl ti27 rfl rd.left.left.left.left.left rfl (by omega))) ?_
        refine Sd.quiet 3 _ _ rfl rfl rfl rfl rfl (QOp.ok (fun X => OpOk.load rfl rfl rfl (Rd.cell rd.left.left.left.left.left (by first | assumption | rfl)))) ?_
        refine Sd.quiet 4 _ _ rfl rfl rfl rfl rfl (QOp.ok (fun X => OpOk.move rfl)) ?_
        refine Sd.quiet 5 _ _ rfl rfl rfl rfl rfl (QOp.ok (fun X => OpOk.idxN rfl ti31 rfl rd3.left.left.left.left.left rfl (by omega))) ?_
        refine Sd.quiet 6 _ _ rfl rfl rfl rfl rfl (QOp.ok (fun X => OpOk.fieldAddrA fld31_0 rfl)) ?_
        refine Sd.quiet 7 _ _ rfl rfl rfl rfl rfl (QOp.ok (fun X => OpOk.loadFl1 default rfl rfl rfl rd3.left.left.left.left.left (fun _ => rfl) rfl (by omega) rfl)) ?_
        refine Sd.quiet 8 _ _ rfl rfl rfl rfl rfl (QOp.ok (fun X => OpOk.move rfl)) ?_
        refine Sd.quiet 9 _ _ rfl rfl rfl rfl rfl (QOp.ok (fun X => OpOk.move rfl)) ?_
        refine Sd.quiet 10 _ _ rfl rfl rfl rfl rfl (QOp.ok (fun X => OpOk.idx1N rfl ti27 rfl rd.left.left.left.left.left rfl (by omega))) ?_
        refine Sd.quiet 11 _ _ rfl rfl rfl rfl rfl (QOp.ok (fun X => OpOk.load rfl rfl rfl (Rd.cell rd.left.left.left.left.left (by first | assumption | rfl)))) ?_
        refine Sd.quiet 12 _ _ rfl rfl rfl rfl rfl (QOp.ok (fun X => OpOk.move rfl)) ?_
        refine Sd.quiet 13 _ _ rfl rfl rfl rfl rfl (QOp.ok (fun X => OpOk.idxN rfl ti31 rfl rd3.left.left.left.left.left rfl (by omega))) ?_
        refine Sd.quiet 14 _ _ rfl rfl rfl rfl rfl (QOp.ok (fun X => OpOk.fieldAddrA fld31_1 rfl)) ?_
        refine Sd.quiet 15 _ _ rfl rfl rfl rfl rfl (QOp.ok (fun X => OpOk.loadFl1 default rfl rfl rfl rd3.left.left.left.left.left (fun _ => rfl) rfl (by omega) rfl)) ?_
        refine Sd.quiet 16 _ _ rfl rfl rfl rfl rfl (QOp.call cal16 rfl (fun X => s16 (by assumption))) ?_
        refine Sd.quiet 17 _ _ rfl rfl rfl rfl rfl (QOp.ok (fun X => OpOk.move rfl)) ?_
        refine Sd.quiet 18 _ _ rfl rfl rfl rfl rfl (QOp.ok (fun X => OpOk.ext20 rfl)) ?_
        refine Sd.quiet 19 _ _ rfl rfl rfl rfl rfl (QOp.ok (fun X => OpOk.ext21 rfl)) ?_
        refine Sd.quiet 20 _ _ rfl rfl rfl rfl rfl (QOp.ok (fun X => OpOk.assign rfl)) ?_
        refine Sd.quiet 21 _ _ rfl rfl rfl rfl rfl (QOp.ok (fun X => OpOk.assign rfl)) ?_
        (apply Sd.tail; case hall => kernel_rfl)
        refine RunL.mem (fl2 (sep_emp _) (sep_emp _)) ?_
        refine RunL.nil ?_
        refine Run.seq ?_
        refine Run.region ?_
        refine RunL.ok (OpOk.move rfl) rfl ?_
        refine RunL.ok (OpOk.move rfl) rfl ?_
        refine RunL.splitB (t := 56) rfl (fun z2 => ?_) (fun z2 => ?_)
        · refine RunL.on rfl rfl ?_
          refine RunL.ok (OpOk.move rfl) rfl ?_
          refine RunL.ok (OpOk.pickT rfl rfl) rfl ?_
          refine RunL.ok (OpOk.assign rfl) rfl ?_
          refine RunL.nil ?_
          refine Run.region ?_
          refine RunL.ok (OpOk.move rfl) rfl ?_
          refine RunL.ok (OpOk.move rfl) rfl ?_
          refine RunL.ok (OpOk.addSS rfl rfl (by omega)) rfl ?_
          refine RunL.ok (OpOk.assign rfl) rfl ?_
          refine RunL.nil ?_
          refine Run.inBlock ?_
          refine Run.region ?_
          refine RunL.ok (OpOk.move rfl) rfl ?_
          refine RunL.ok (OpOk.addN _ 1 rfl rfl rfl rfl (by omega)) rfl ?_
          refine RunL.ok (OpOk.assign rfl) rfl ?_
          refine RunL.nil ?_
          have h7 : rightF (fs.getD k default).1 (fs.getD k default).2 = (fs.take (k + 1)).all fitsF := by rw [take_next hk1, List.all_append, z2]; simp [fitsF]
          rw [h6, h7]
          refine Run.jump ((ih2 (k + 1) (by omega) (by omega))) ⟨rfl, rfl, rfl, rfl, rfl, rfl, rfl, trivial⟩ ((Grew.refl _))
        refine RunL.off rfl rfl rfl rfl ?_
        refine RunL.ok (OpOk.pickF rfl rfl) rfl ?_
        refine RunL.ok (OpOk.assign rfl) rfl ?_
        refine RunL.nil ?_
        refine Run.region ?_
        refine RunL.ok (OpOk.move rfl) rfl ?_
        refine RunL.ok (OpOk.move rfl) rfl ?_
        refine RunL.ok (OpOk.addSS rfl rfl (by omega)) rfl ?_
        refine RunL.ok (OpOk.assign rfl) rfl ?_
        refine RunL.nil ?_
        refine Run.inBlock ?_
        refine Run.region ?_
        refine RunL.ok (OpOk.move rfl) rfl ?_
        refine RunL.ok (OpOk.addN _ 1 rfl rfl rfl rfl (by omega)) rfl ?_
        refine RunL.ok (OpOk.assign rfl) rfl ?_
        refine RunL.nil ?_
        have h7 : false = (fs.take (k + 1)).all fitsF := by rw [take_next hk1, List.all_append, z2]; simp
        rw [h6]
        refine Run.jump ((ih2 (k + 1) (by omega) (by omega))) ⟨rfl, lkB rfl (by assumption), rfl, rfl, rfl, rfl, rfl, trivial⟩ ((Grew.refl _))
      · obtain rfl : k = fs.length := by omega
        rw [List.take_length]
        clear ih2
        rcases Bool.eq_false_or_eq_true (fs.all fitsF) with hall | hall
        · have hfb := fieldBits_le hall
          have ht1 := txt_length bs
          have ht2 := txt_length (fieldBits fs)
          have ht3 := txt_length (bs ++ fieldBits fs)
          have ht4 : (bs ++ fieldBits fs).length = bs.length + (fieldBits fs).length := List.length_append
          have hap := (txt_append bs (fieldBits fs)).symm
          have ht5 : (txt bs ++ txt (fieldBits fs)).length = (bs ++ fieldBits fs).length := by rw [hap, ht3]
          rw [hall, fieldsT_fits hall]
          refine Run.seq ?_
          refine Run.seq ?_
          refine Run.region ?_
          refine RunL.ok (OpOk.move rfl) rfl ?_
          refine RunL.ok (OpOk.move rfl) rfl ?_
          refine RunL.ok (OpOk.move rfl) rfl ?_
          refine RunL.ok (OpOk.idx1N rfl ti27 rfl rd.left.left.left rfl (by omega)) rfl ?_
          refine RunL.ok (OpOk.load rfl rfl rfl (Rd.cell rd.left.left.left (by first | assumption | rfl))) rfl ?_
          refine RunL.ok (OpOk.lenR rfl rfl rd3.left.left.left rfl) rfl ?_
          refine RunL.ok (OpOk.asF (OpOk.lss rfl rfl) (by omega)) rfl ?_
          refine RunL.nil ?_
          refine Run.condF rfl ?_
          refine Run.exit rfl ?_
          refine Run.seq ?_
          refine Run.region ?_
          refine RunL.lit0 rfl ti31 rfl (fun vz1 rdz1 => ?_)
          refine RunL.ok (OpOk.move rfl) rfl ?_
          refine RunL.ok (OpOk.move rfl) rfl ?_
          refine RunL.ok (OpOk.idx1N rfl ti27 rfl rd.left.left.left.left rfl (by omega)) rfl ?_
          refine RunL.ok (OpOk.load rfl rfl rfl (Rd.cell rd.left.left.left.left (by first | assumption | rfl))) rfl ?_
          refine RunL.appendF0 rfl ti31 rfl rfl rfl rfl rd3.left.left.left.left rfl (by decide) (by omega) (by simp only [maxLen]; omega) rfl (fun vz2 rdz2 => ?_)
          refine RunL.know (fun w s => (s.conv rfl).ownRd0) (fun rdz3 => ?_)
          refine RunL.mem (frc (frl rfl) (frc (frl rfl) rfl)) ?_
          refine RunL.call cal17 rfl (s17a (Rd.right rdz3) (by assumption) (by omega)) rfl (fun vz4 Az4 hz4 => ?_)
          obtain ⟨z5, ⟨rfl, rfl⟩⟩ := hz4
          refine RunL.ok (OpOk.assign rfl) rfl ?_
          refine RunL.nil ?_
          refine Run.seq ?_
          refine Run.seq ?_
          refine Run.region ?_
          refine RunL.ok (OpOk.move rfl) rfl ?_
          refine RunL.nil ?_
          refine Run.condT rfl ?_
          refine Run.region ?_
          refine RunL.ok (OpOk.move rfl) rfl ?_
          refine RunL.ok (OpOk.move rfl) rfl ?_
          refine RunL.ok (OpOk.addSS rfl rfl (by omega)) rfl ?_
          refine RunL.ok (OpOk.assign rfl) rfl ?_
          refine RunL.nil ?_
          refine Run.seq ?_
          refine Run.know (fun w s => (s.conv rfl).ownRd0) (fun rdz6 => ?_)
          (apply Run.drawD [] (by rfl) (Eq.trans rfl (asg rfl)); case hchk => kernel_rfl)
          refine Sd.quiet 0 _ _ rfl rfl rfl rfl rfl (QOp.ok (fun X => OpOk.move rfl)) ?_
          refine Sd.quiet 1 _ _ rfl rfl rfl rfl rfl (QOp.ok (fun X => OpOk.move rfl)) ?_
          refine Sd.quiet 2 _ _ rfl rfl rfl rfl rfl (QOp.ok (fun X => OpOk.asT (OpOk.eql rfl rfl) (by omega))) ?_
          refine Sd.quiet 3 _ _ rfl rfl rfl rfl rfl (QOp.ok (fun X => OpOk.neqB rfl rfl rfl)) ?_
          refine Sd.quiet 4 _ _ rfl rfl rfl rfl rfl (QOp.ok (fun X => OpOk.move rfl)) ?_
          refine Sd.quiet 5 _ _ rfl rfl rfl rfl rfl (QOp.ok (fun X => OpOk.move rfl)) ?_
          refine Sd.quiet 6 _ _ rfl rfl rfl rfl rfl (QOp.ok (fun X => OpOk.not rfl)) ?_
          refine Sd.quiet 7 _ _ rfl rfl rfl rfl rfl (QOp.ok (fun X => OpOk.move rfl)) ?_
          refine Sd.skip 8 _ rfl rfl rfl rfl rfl ?_
          refine Sd.skip 9 _ rfl rfl rfl rfl rfl ?_
          refine Sd.quiet 10 _ _ rfl rfl rfl rfl rfl (QOp.ok (fun X => OpOk.pickF rfl rfl)) ?_
          refine Sd.quiet 11 _ _ rfl rfl rfl rfl rfl (QOp.ok (fun X => OpOk.pickF rfl rfl)) ?_
          refine Sd.quiet 12 _ _ rfl rfl rfl rfl rfl (QOp.ok (fun X => OpOk.move rfl)) ?_
          refine Sd.quiet 14 _ _ rfl rfl rfl rfl rfl (QOp.ok (fun X => OpOk.move rfl)) ?_
          refine Sd.quiet 15 _ _ rfl rfl rfl rfl rfl (QOp.ok (fun X => OpOk.lenSS rfl rfl rfl)) ?_
          (refine Sd.exec 13 rfl rfl rfl rfl rfl ?hrest (by rfl) (fun Xz7 Kz7 hKz7 => ?_); case hrest => kernel_rfl)
          refine RunL.mem (fl2 (sep_emp _) (flS rfl)) ?_
          refine RunL.call cal18 rfl (s18) rfl (fun vz8 Az8 hz8 => ?_)
          obtain ⟨rfl, rfl⟩ := hz8
          refine Sd.ret hKz7 (Eq.trans rfl (gp2 (asg rfl) (sep_emp _).symm)) ⟨emp, (sep_emp _).symm⟩ ?_
          refine Sd.quiet 16 _ _ rfl rfl rfl rfl rfl (QOp.ok (fun X => OpOk.as (c := false) (OpOk.neq rfl rfl) (by rw [decide_eq_true (by omega)]; rfl))) ?_
          refine Sd.quiet 17 _ _ rfl rfl rfl rfl rfl (QOp.ok (fun X => OpOk.pickF rfl rfl)) ?_
          refine Sd.quiet 18 _ _ rfl rfl rfl rfl rfl (QOp.ok (fun X => OpOk.move rfl)) ?_
          refine Sd.quiet 21 _ _ rfl rfl rfl rfl rfl (QOp.ok (fun X => OpOk.move rfl)) ?_
          (refine Sd.exec 19 rfl rfl rfl rfl rfl ?hrest (by rfl) (fun Xz9 Kz9 hKz9 => ?_); case hrest => kernel_rfl)
          refine RunL.mem (fl2 (sep_emp _) (flS rfl)) ?_
          refine RunL.call cal19 rfl (s19 (by omega)) rfl (fun vz10 Az10 hz10 => ?_)
          obtain rfl := hz10
          refine RunL.know (fun w s => (s.conv rfl).ownRd0) (fun rdz11 => ?_)
          refine Sd.ret hKz9 (Eq.trans rfl (gp2 (sep_emp _).symm (asg (asg rfl)))) ⟨_, (emp_sep _).symm⟩ ?_
          refine Sd.quiet 20 _ _ rfl rfl rfl rfl rfl (QOp.ok (fun X => OpOk.strOf rfl rfl rfl rfl (Rd.right (Rd.right rdz11)).left)) ?_
          (refine Sd.exec 22 rfl rfl rfl rfl rfl ?hrest (by rfl) (fun Xz12 Kz12 hKz12 => ?_); case hrest => kernel_rfl)
          refine RunL.mem (fl2 (flS (flS rfl)) (sep_emp _)) ?_
          refine RunL.call cal20 rfl (s20 (by assumption) (by omega)) rfl (fun vz13 Az13 hz13 => ?_)
          obtain rfl := hz13
          refine RunL.know (fun w s => (s.conv rfl).ownRd0) (fun rdz14 => ?_)
          refine Sd.ret hKz12 (Eq.trans rfl (gp2 (sep_emp _).symm (asg (asg (asg rfl))))) ⟨_, rfl⟩ ?_
          refine Sd.quiet 23 _ _ rfl rfl rfl rfl rfl (QOp.ok (fun X => OpOk.strOf rfl rfl rfl rfl (Rd.right (Rd.right rdz14)).left)) ?_
          refine Sd.quiet 24 _ _ rfl rfl rfl rfl rfl (QOp.ok (fun X => OpOk.neqSS rfl rfl)) ?_
          refine Sd.quiet 25 _ _ rfl rfl rfl rfl rfl (QOp.ok (fun X => OpOk.pickF rfl rfl)) ?_
          (apply Sd.tail; case hall => kernel_rfl)
          refine RunL.mem (fl2 (flS (flS (flS rfl))) (sep_emp _)) ?_
          refine RunL.nil ?_
          refine Run.condNF rfl (by first | omega | with_reducible rfl) ?_
          refine Run.skip ?_
          refine Run.inBlock ?_
          refine Run.region ?_
          refine RunL.ok (OpOk.move rfl) rfl ?_
          refine RunL.ok (OpOk.addN _ 1 rfl rfl rfl rfl (by omega)) rfl ?_
          refine RunL.ok (OpOk.assign rfl) rfl ?_
          refine RunL.nil ?_
          rw [hap]
          refine Run.jump ((ih (i + 1, _, _, bs ++ fieldBits fs) ⟨by simp; omega, by show (bs ++ fieldBits fs).length ≤ 33554432 * (i + 1); omega, by simp; omega⟩ (by simp; omega))) ⟨rfl, rfl, rfl, rfl, trivial⟩ (Grew.of (Eq.trans (frc (frl (frl rfl)) (frc (frl (frl rfl)) rfl)) (congrArg (· * _) (congrArg (· * _) (asg (asg (asg as1)))))) (Grew.refl _))
        · have ht1 := txt_length bs
          rw [hall]
          refine Run.seq ?_
          refine Run.seq ?_
          refine Run.region ?_
          refine RunL.ok (OpOk.move rfl) rfl ?_
          refine RunL.ok (OpOk.move rfl) rfl ?_
          refine RunL.ok (OpOk.move rfl) rfl ?_
          refine RunL.ok (OpOk.idx1N rfl ti27 rfl rd.left.left.left rfl (by omega)) rfl ?_
          refine RunL.ok (OpOk.load rfl rfl rfl (Rd.cell rd.left.left.left (by first | assumption | rfl))) rfl ?_
          refine RunL.ok (OpOk.lenR rfl rfl rd3.left.left.left rfl) rfl ?_
          refine RunL.ok (OpOk.asF (OpOk.lss rfl rfl) (by omega)) rfl ?_
          refine RunL.nil ?_
          refine Run.condF rfl ?_
          refine Run.exit rfl ?_
          refine Run.seq ?_
          refine Run.region ?_
          refine RunL.lit0 rfl ti31 rfl (fun vz1 rdz1 => ?_)
          refine RunL.ok (OpOk.move rfl) rfl ?_
          refine RunL.ok (OpOk.move rfl) rfl ?_
          refine RunL.ok (OpOk.idx1N rfl ti27 rfl rd.left.left.left.left rfl (by omega)) rfl ?_
          refine RunL.ok (OpOk.load rfl rfl rfl (Rd.cell rd.left.left.left.left (by first | assumption | rfl))) rfl ?_
          refine RunL.appendF0 rfl ti31 rfl rfl rfl rfl rd3.left.left.left.left rfl (by decide) (by omega) (by simp only [maxLen]; omega) rfl (fun vz2 rdz2 => ?_)
          refine RunL.know (fun w s => (s.conv rfl).ownRd0) (fun rdz3 => ?_)
          refine RunL.mem (frc (frl rfl) (frc (frl rfl) rfl)) ?_
          refine RunL.call cal17 rfl (s17b (Rd.right rdz3) (by assumption) (by omega)) rfl (fun vz5 Az5 hz5 => ?_)
          obtain ⟨z6, ⟨rfl, rfl⟩⟩ := hz5
          refine RunL.ok (OpOk.assign rfl) rfl ?_
          refine RunL.nil ?_
          refine Run.seq ?_
          refine Run.seq ?_
          refine Run.region ?_
          refine RunL.ok (OpOk.move rfl) rfl ?_
          refine RunL.nil ?_
          refine Run.condF rfl ?_
          refine Run.skip ?_
          refine Run.seq ?_
          refine Run.know (fun w s => (s.conv rfl).ownRd0) (fun rdz7 => ?_)
          (apply Run.drawD [] (by rfl) (Eq.trans rfl (asg rfl)); case hchk => kernel_rfl)
          refine Sd.quiet 0 _ _ rfl rfl rfl rfl rfl (QOp.ok (fun X => OpOk.move rfl)) ?_
          refine Sd.quiet 1 _ _ rfl rfl rfl rfl rfl (QOp.ok (fun X => OpOk.move rfl)) ?_
          refine Sd.quiet 2 _ _ rfl rfl rfl rfl rfl (QOp.ok (fun X => OpOk.asF (OpOk.eql rfl rfl) (by omega))) ?_
          refine Sd.quiet 3 _ _ rfl rfl rfl rfl rfl (QOp.ok (fun X => OpOk.neqB rfl rfl rfl)) ?_
          refine Sd.quiet 4 _ _ rfl rfl rfl rfl rfl (QOp.ok (fun X => OpOk.move rfl)) ?_
          refine Sd.quiet 5 _ _ rfl rfl rfl rfl rfl (QOp.ok (fun X => OpOk.move rfl)) ?_
          refine Sd.quiet 6 _ _ rfl rfl rfl rfl rfl (QOp.ok (fun X => OpOk.not rfl)) ?_
          refine Sd.quiet 7 _ _ rfl rfl rfl rfl rfl (QOp.ok (fun X => OpOk.move rfl)) ?_
          refine Sd.quiet 8 _ _ rfl rfl rfl rfl rfl (QOp.ok (fun X => OpOk.move rfl)) ?_
          refine Sd.quiet 9 _ _ rfl rfl rfl rfl rfl (QOp.ok (fun X => OpOk.as (c := false) (OpOk.neq rfl rfl) (by rw [decide_eq_true (by omega)]; rfl))) ?_
          refine Sd.quiet 10 _ _ rfl rfl rfl rfl rfl (QOp.ok (fun X => OpOk.pickT rfl rfl)) ?_
          refine Sd.quiet 11 _ _ rfl rfl rfl rfl rfl (QOp.ok (fun X => OpOk.pickF rfl rfl)) ?_
          refine Sd.quiet 12 _ _ rfl rfl rfl rfl rfl (QOp.ok (fun X => OpOk.move rfl)) ?_
          refine Sd.quiet 14 _ _ rfl rfl rfl rfl rfl (QOp.ok (fun X => OpOk.move rfl)) ?_
          refine Sd.quiet 15 _ _ rfl rfl rfl rfl rfl (QOp.ok (fun X => OpOk.lenSS rfl rfl rfl)) ?_
          (refine Sd.exec 13 rfl rfl rfl rfl rfl ?hrest (by rfl) (fun Xz8 Kz8 hKz8 => ?_); case hrest => kernel_rfl)
          refine RunL.mem (fl2 (sep_emp _) (flS rfl)) ?_
          refine RunL.call cal18 rfl (s18) rfl (fun vz9 Az9 hz9 => ?_)
          obtain ⟨rfl, rfl⟩ := hz9
          refine Sd.ret hKz8 (Eq.trans rfl (gp2 (asg rfl) (sep_emp _).symm)) ⟨emp, (sep_emp _).symm⟩ ?_
          refine Sd.quiet 16 _ _ rfl rfl rfl rfl rfl (QOp.ok (fun X => OpOk.as (c := false) (OpOk.neq rfl rfl) (by rw [decide_eq_true (by omega)]; rfl))) ?_
          refine Sd.quiet 17 _ _ rfl rfl rfl rfl rfl (QOp.ok (fun X => OpOk.pickF rfl rfl)) ?_
          refine Sd.quiet 18 _ _ rfl rfl rfl rfl rfl (QOp.ok (fun X => OpOk.move rfl)) ?_
          refine Sd.quiet 21 _ _ rfl rfl rfl rfl rfl (QOp.ok (fun X => OpOk.move rfl)) ?_
          (refine Sd.exec 19 rfl rfl rfl rfl rfl ?hrest (by rfl) (fun Xz10 Kz10 hKz10 => ?_); case hrest => kernel_rfl)
          refine RunL.mem (fl2 (sep_emp _) (flS rfl)) ?_
          refine RunL.call cal19 rfl (s19 (by omega)) rfl (fun vz11 Az11 hz11 => ?_)
          obtain rfl := hz11
          refine RunL.know (fun w s => (s.conv rfl).ownRd0) (fun rdz12 => ?_)
          refine Sd.ret hKz10 (Eq.trans rfl (gp2 (sep_emp _).symm (asg (asg rfl)))) ⟨_, (emp_sep _).symm⟩ ?_
          refine Sd.quiet 20 _ _ rfl rfl rfl rfl rfl (QOp.ok (fun X => OpOk.strOf rfl rfl rfl rfl (Rd.right (Rd.right rdz12)).left)) ?_
          (refine Sd.exec 22 rfl rfl rfl rfl rfl ?hrest (by rfl) (fun Xz13 Kz13 hKz13 => ?_); case hrest => kernel_rfl)
          refine RunL.mem (fl2 (flS (flS rfl)) (sep_emp _)) ?_
          refine RunL.call cal20 rfl (s20 rfl (by omega)) rfl (fun vz14 Az14 hz14 => ?_)
          obtain rfl := hz14
          refine RunL.know (fun w s => (s.conv rfl).ownRd0) (fun rdz15 => ?_)
          refine Sd.ret hKz13 (Eq.trans rfl (gp2 (sep_emp _).symm (asg (asg (asg rfl))))) ⟨_, rfl⟩ ?_
          refine Sd.quiet 23 _ _ rfl rfl rfl rfl rfl (QOp.ok (fun X => OpOk.strOf rfl rfl rfl rfl (Rd.right (Rd.right rdz15)).left)) ?_
          refine Sd.quiet 24 _ _ rfl rfl rfl rfl rfl (QOp.ok (fun X => OpOk.neqSS rfl rfl)) ?_
          refine Sd.quiet 25 _ _ rfl rfl rfl rfl rfl (QOp.ok (fun X => OpOk.pickF rfl rfl)) ?_
          (apply Sd.tail; case hall => kernel_rfl)
          refine RunL.mem (fl2 (flS (flS (flS rfl))) (sep_emp _)) ?_
          refine RunL.nil ?_
          refine Run.condNF rfl (by first | omega | with_reducible rfl) ?_
          refine Run.skip ?_
          refine Run.inBlock ?_
          refine Run.region ?_
          refine RunL.ok (OpOk.move rfl) rfl ?_
          refine RunL.ok (OpOk.addN _ 1 rfl rfl rfl rfl (by omega)) rfl ?_
          refine RunL.ok (OpOk.assign rfl) rfl ?_
          refine RunL.nil ?_
          refine Run.jump ((ih (i + 1, _, _, bs) ⟨by simp; omega, by show bs.length ≤ 33554432 * (i + 1); omega, by simp; omega⟩ (by simp; omega))) ⟨rfl, rfl, rfl, rfl, trivial⟩ (Grew.of (Eq.trans (frc (frl (frl rfl)) (frc (frl (frl rfl)) rfl)) (congrArg (· * _) (congrArg (· * _) (asg (asg (asg as1)))))) (Grew.refl _))
    refine Run.exit rfl ?_
    refine Run.seq ?_
    refine Run.region ?_
    refine RunL.call cal19 rfl (s19 (by omega)) rfl (fun vy2 Ay2 hy2 => ?_)
    obtain rfl := hy2
    refine RunL.ok (OpOk.assign rfl) rfl ?_
    refine RunL.nil ?_
    refine Run.seq ?_
    refine Run.seq ?_
    refine Run.region ?_
    refine RunL.ok (OpOk.assign rfl) rfl ?_
    refine RunL.nil ?_
    refine Run.block ?_
    have ht1 := txt_length bs
    have hpl := pack_length bs ((bs.length + 7) / 8)
    refine Run.jump ((Run.loopJ (X := Nat × List UInt8) (fun x => [(13, .int .i64 x.1), (12, vy2), (4, S (txt bs)), (3, .pointer (some ⟨bx3, 0, none⟩))]) (fun x => old w0 * J * pts bx3 (.cells #[v, .int .i64 (((bs).length : Nat) : Int)] 26 (0, 0)) * own 5 1 v (((bs).length + 7) / 8) (B (pack (bs) (((bs).length + 7) / 8))) * own 5 1 vy2 ((bs.length + 7) / 8) (B x.2)) (fun x => x.1 ≤ (bs.length + 7) / 8 ∧ x.2.length = (bs.length + 7) / 8) (fun x => (bs.length + 7) / 8 - x.1) (0, pack bs ((bs.length + 7) / 8)) ⟨Nat.zero_le _, hpl⟩ (fun x hx ih3 => ?_))) ⟨rfl, rfl, rfl, rfl, trivial⟩ ((Grew.refl _))
    obtain ⟨k, ys⟩ := x
    simp only at hx ih3 ⊢
    obtain ⟨hk, hl⟩ := hx
    rcases Nat.lt_or_ge k ((bs.length + 7) / 8) with hk1 | hk1
    · refine Run.seq ?_
      refine Run.seq ?_
      refine Run.region ?_
      refine RunL.ok (OpOk.move rfl) rfl ?_
      refine RunL.ok (OpOk.move rfl) rfl ?_
      refine RunL.know (fun w s => (s.conv rfl).ownRd0) (fun rdr1 => ?_)
      refine RunL.ok (OpOk.lenR rfl rfl (Rd.right rdr1) rfl) rfl ?_
      refine RunL.ok (OpOk.asT (OpOk.lss rfl rfl) (by omega)) rfl ?_
      refine RunL.nil ?_
      refine Run.condT rfl ?_
      refine Run.skip ?_
      refine Run.seq ?_
      refine Run.block ?_
      refine Run.region ?_
      refine RunL.ok (OpOk.move rfl) rfl ?_
      refine RunL.ok (OpOk.move rfl) rfl ?_
      refine RunL.ok (OpOk.move rfl) rfl ?_
      refine RunL.ok (OpOk.move rfl) rfl ?_
      refine RunL.ok (OpOk.idx1N rfl ti5 rfl (Rd.right rdr1) rfl (by omega)) rfl ?_
      refine RunL.ok (OpOk.load rfl rfl rfl (Rd.getB (Rd.right rdr1) (by omega))) rfl ?_
      refine RunL.ok (OpOk.xor rfl rfl (x255 _)) rfl ?_
      refine RunL.ok (OpOk.idx1N rfl ti5 rfl (Rd.right rdr1) rfl (by omega)) rfl ?_
      refine RunL.storeB _ ti5 rfl rfl rfl rfl (by omega) ?_
      refine RunL.nil ?_
      refine Run.inBlock ?_
      refine Run.region ?_
      refine RunL.ok (OpOk.move rfl) rfl ?_
      refine RunL.ok (OpOk.addN _ 1 rfl rfl rfl rfl (by omega)) rfl ?_
      refine RunL.ok (OpOk.assign rfl) rfl ?_
      refine RunL.nil ?_
      refine Run.jump ((ih3 (k + 1, _) ⟨by simp; omega, by simp [hl]⟩ (by simp; omega))) ⟨rfl, rfl, rfl, rfl, trivial⟩ ((Grew.refl _))
    · obtain rfl : k = (bs.length + 7) / 8 := by omega
      clear ih3
      refine Run.seq ?_
      refine Run.seq ?_
      refine Run.region ?_
      refine RunL.ok (OpOk.move rfl) rfl ?_
      refine RunL.ok (OpOk.move rfl) rfl ?_
      refine RunL.know (fun w s => (s.conv rfl).ownRd0) (fun rdr1 => ?_)
      refine RunL.ok (OpOk.lenR rfl rfl (Rd.right rdr1) rfl) rfl ?_
      refine RunL.ok (OpOk.asF (OpOk.lss rfl rfl) (by omega)) rfl ?_
      refine RunL.nil ?_
      refine Run.condF rfl ?_
      refine Run.exit rfl ?_
      refine Run.seq ?_
      refine Run.know (fun w s => (s.conv (frl rfl)).ownRd0) (fun rdr2 => ?_)
      (apply Run.drawD [] (by rfl) (Eq.trans (frc (frl rfl) (frc (frl rfl) rfl)) (asg rfl)); case hchk => kernel_rfl)
      refine Sd.quiet 2 _ _ rfl rfl rfl rfl rfl (QOp.ok (fun X => OpOk.move rfl)) ?_
      (refine Sd.exec 0 rfl rfl rfl rfl rfl ?hrest (by rfl) (fun Xr3 Kr3 hKr3 => ?_); case hrest => kernel_rfl)
      refine RunL.mem (fl2 (sep_emp _) (flS rfl)) ?_
      refine RunL.call cal19 rfl (s19 (by omega)) rfl (fun vr4 Ar4 hr4 => ?_)
      obtain rfl := hr4
      refine RunL.know (fun w s => (s.conv rfl).ownRd0) (fun rdr5 => ?_)
      refine Sd.ret hKr3 (Eq.trans rfl (gp2 (sep_emp _).symm (asg (asg rfl)))) ⟨_, (emp_sep _).symm⟩ ?_
      refine Sd.quiet 1 _ _ rfl rfl rfl rfl rfl (QOp.ok (fun X => OpOk.strOf rfl rfl rfl rfl (Rd.right (Rd.right rdr5)).left)) ?_
      (refine Sd.exec 3 rfl rfl rfl rfl rfl ?hrest (by rfl) (fun Xr6 Kr6 hKr6 => ?_); case hrest => kernel_rfl)
      refine RunL.mem (fl2 (flS (flS rfl)) (sep_emp _)) ?_
      refine RunL.call cal20 rfl (s20 rfl (by omega)) rfl (fun vr7 Ar7 hr7 => ?_)
      obtain rfl := hr7
      refine RunL.know (fun w s => (s.conv rfl).ownRd0) (fun rdr8 => ?_)
      refine Sd.ret hKr6 (Eq.trans rfl (gp2 (sep_emp _).symm (asg (asg (asg rfl))))) ⟨_, rfl⟩ ?_
      refine Sd.quiet 4 _ _ rfl rfl rfl rfl rfl (QOp.ok (fun X => OpOk.strOf rfl rfl rfl rfl (Rd.right (Rd.right rdr8)).left)) ?_
      refine Sd.quiet 5 _ _ rfl rfl rfl rfl rfl (QOp.ok (fun X => OpOk.eqlSS rfl rfl)) ?_
      refine Sd.quiet 6 _ _ rfl rfl rfl rfl rfl (QOp.ok (fun X => OpOk.assign rfl)) ?_
      (apply Sd.tail; case hall => kernel_rfl)
      refine RunL.mem (fl2 (flS (flS (flS rfl))) (sep_emp _)) ?_
      refine RunL.nil ?_
      refine Run.ret1 Try.func3 rfl rfl ?_
      rw [decide_eq_true (by first | omega | with_reducible rfl)]
      exact ⟨rfl, ⟨_, (asg (asg (asg (asg (asg as1)))))⟩⟩
  · obtain rfl : i = ls.length := by omega
    clear ih
    refine Run.seq ?_
    refine Run.seq ?_
    refine Run.region ?_
    refine RunL.ok (OpOk.move rfl) rfl ?_
    refine RunL.ok (OpOk.move rfl) rfl ?_
    refine RunL.ok (OpOk.lenR rfl rfl rd.left.left.left rfl) rfl ?_
    refine RunL.ok (OpOk.asF (OpOk.lss rfl rfl) (by omega)) rfl ?_
    refine RunL.ok (OpOk.move rfl) rfl ?_
    refine RunL.off rfl rfl rfl rfl ?_
    refine RunL.off rfl rfl rfl rfl ?_
    refine RunL.ok (OpOk.pickF rfl rfl) rfl ?_
    refine RunL.nil ?_
    refine Run.condF rfl ?_
    refine Run.exit rfl ?_
    refine Run.seq ?_
    refine Run.region ?_
    refine RunL.call cal19 rfl (s19 (by omega)) rfl (fun vy1 Ay1 hy1 => ?_)
    obtain rfl := hy1
    refine RunL.ok (OpOk.assign rfl) rfl ?_
    refine RunL.nil ?_
    refine Run.seq ?_
    refine Run.seq ?_
    refine Run.region ?_
    refine RunL.ok (OpOk.assign rfl) rfl ?_
    refine RunL.nil ?_
    refine Run.block ?_
    have ht1 := txt_length bs
    have hpl := pack_length bs ((bs.length + 7) / 8)
    refine Run.jump ((Run.loopJ (X := Nat × List UInt8) (fun x => [(13, .int .i64 x.1), (12, vy1), (4, S (txt bs)), (3, .pointer (some ⟨bx3, 0, none⟩))]) (fun x => old w0 * J * pts bx3 (.cells #[v, .int .i64 (((bs).length : Nat) : Int)] 26 (0, 0)) * own 5 1 v (((bs).length + 7) / 8) (B (pack (bs) (((bs).length + 7) / 8))) * own 5 1 vy1 ((bs.length + 7) / 8) (B x.2)) (fun x => x.1 ≤ (bs.length + 7) / 8 ∧ x.2.length = (bs.length + 7) / 8) (fun x => (bs.length + 7) / 8 - x.1) (0, pack bs ((bs.length + 7) / 8)) ⟨Nat.zero_le _, hpl⟩ (fun x hx ih3 => ?_))) ⟨rfl, rfl, rfl, rfl, trivial⟩ ((Grew.refl _))
    obtain ⟨k, ys⟩ := x
    simp only at hx ih3 ⊢
    obtain ⟨hk, hl⟩ := hx
    rcases Nat.lt_or_ge k ((bs.length + 7) / 8) with hk1 | hk1
    · refine Run.seq ?_
      refine Run.seq ?_
      refine Run.region ?_
      refine RunL.ok (OpOk.move rfl) rfl ?_
      refine RunL.ok (OpOk.move rfl) rfl ?_
      refine RunL.know (fun w s => (s.conv rfl).ownRd0) (fun rdr1 => ?_)
      refine RunL.ok (OpOk.lenR rfl rfl (Rd.right rdr1) rfl) rfl ?_
      refine RunL.ok (OpOk.asT (OpOk.lss rfl rfl) (by omega)) rfl ?_
      refine RunL.nil ?_
      refine Run.condT rfl ?_
      refine Run.skip ?_
      refine Run.seq ?_
      refine Run.block ?_
      refine Run.region ?_
      refine RunL.ok (OpOk.move rfl) rfl ?_
      refine RunL.ok (OpOk.move rfl) rfl ?_
      refine RunL.ok (OpOk.move rfl) rfl ?_
      refine RunL.ok (OpOk.move rfl) rfl ?_
      refine RunL.ok (OpOk.idx1N rfl ti5 rfl (Rd.right rdr1) rfl (by omega)) rfl ?_
      refine RunL.ok (OpOk.load rfl rfl rfl (Rd.getB (Rd.right rdr1) (by omega))) rfl ?_
      refine RunL.ok (OpOk.xor rfl rfl (x255 _)) rfl ?_
      refine RunL.ok (OpOk.idx1N rfl ti5 rfl (Rd.right rdr1) rfl (by omega)) rfl ?_
      refine RunL.storeB _ ti5 rfl rfl rfl rfl (by omega) ?_
      refine RunL.nil ?_
      refine Run.inBlock ?_
      refine Run.region ?_
      refine RunL.ok (OpOk.move rfl) rfl ?_
      refine RunL.ok (OpOk.addN _ 1 rfl rfl rfl rfl (by omega)) rfl ?_
      refine RunL.ok (OpOk.assign rfl) rfl ?_
      refine RunL.nil ?_
      refine Run.jump ((ih3 (k + 1, _) ⟨by simp; omega, by simp [hl]⟩ (by simp; omega))) ⟨rfl, rfl, rfl, rfl, trivial⟩ ((Grew.refl _))
    · obtain rfl : k = (bs.length + 7) / 8 := by omega
      clear ih3
      refine Run.seq ?_
      refine Run.seq ?_
      refine Run.region ?_
      refine RunL.ok (OpOk.move rfl) rfl ?_
      refine RunL.ok (OpOk.move rfl) rfl ?_
      refine RunL.know (fun w s => (s.conv rfl).ownRd0) (fun rdr1 => ?_)
      refine RunL.ok (OpOk.lenR rfl rfl (Rd.right rdr1) rfl) rfl ?_
      refine RunL.ok (OpOk.asF (OpOk.lss rfl rfl) (by omega)) rfl ?_
      refine RunL.nil ?_
      refine Run.condF rfl ?_
      refine Run.exit rfl ?_
      refine Run.seq ?_
      refine Run.know (fun w s => (s.conv (frl rfl)).ownRd0) (fun rdr2 => ?_)
      (apply Run.drawD [] (by rfl) (Eq.trans (frc (frl rfl) (frc (frl rfl) rfl)) (asg rfl)); case hchk => kernel_rfl)
      refine Sd.quiet 2 _ _ rfl rfl rfl rfl rfl (QOp.ok (fun X => OpOk.move rfl)) ?_
      (refine Sd.exec 0 rfl rfl rfl rfl rfl ?hrest (by rfl) (fun Xr3 Kr3 hKr3 => ?_); case hrest => kernel_rfl)
      refine RunL.mem (fl2 (sep_emp _) (flS rfl)) ?_
      refine RunL.call cal19 rfl (s19 (by omega)) rfl (fun vr4 Ar4 hr4 => ?_)
      obtain rfl := hr4
      refine RunL.know (fun w s => (s.conv rfl).ownRd0) (fun rdr5 => ?_)
      refine Sd.ret hKr3 (Eq.trans rfl (gp2 (sep_emp _).symm (asg (asg rfl)))) ⟨_, (emp_sep _).symm⟩ ?_
      refine Sd.quiet 1 _ _ rfl rfl rfl rfl rfl (QOp.ok (fun X => OpOk.strOf rfl rfl rfl rfl (Rd.right (Rd.right rdr5)).left)) ?_
      (refine Sd.exec 3 rfl rfl rfl rfl rfl ?hrest (by rfl) (fun Xr6 Kr6 hKr6 => ?_); case hrest => kernel_rfl)
      refine RunL.mem (fl2 (flS (flS rfl)) (sep_emp _)) ?_
      refine RunL.call cal20 rfl (s20 rfl (by omega)) rfl (fun vr7 Ar7 hr7 => ?_)
      obtain rfl := hr7
      refine RunL.know (fun w s => (s.conv rfl).ownRd0) (fun rdr8 => ?_)
      refine Sd.ret hKr6 (Eq.trans rfl (gp2 (sep_emp _).symm (asg (asg (asg rfl))))) ⟨_, rfl⟩ ?_
      refine Sd.quiet 4 _ _ rfl rfl rfl rfl rfl (QOp.ok (fun X => OpOk.strOf rfl rfl rfl rfl (Rd.right (Rd.right rdr8)).left)) ?_
      refine Sd.quiet 5 _ _ rfl rfl rfl rfl rfl (QOp.ok (fun X => OpOk.eqlSS rfl rfl)) ?_
      refine Sd.quiet 6 _ _ rfl rfl rfl rfl rfl (QOp.ok (fun X => OpOk.assign rfl)) ?_
      (apply Sd.tail; case hall => kernel_rfl)
      refine RunL.mem (fl2 (flS (flS (flS rfl))) (sep_emp _)) ?_
      refine RunL.nil ?_
      refine Run.ret1 Try.func3 rfl rfl ?_
      rw [decide_eq_true (by first | omega | with_reducible rfl)]
      exact ⟨rfl, ⟨_, (asg (asg (asg (asg (asg as1)))))⟩⟩
end Go.Proofs.Ytlheianbmpgefaa
