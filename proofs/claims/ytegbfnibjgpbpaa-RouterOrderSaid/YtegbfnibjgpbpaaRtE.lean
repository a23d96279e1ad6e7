/- The router's Offer. -/
import Derived.Test.YtegbfnibjgpbpaaRtD
namespace Go.Proofs.Ytegbfnibjgpbpaa
open Go Go.Proofs
set_option maxRecDepth 100000
set_option maxHeartbeats 4000000
set_option linter.unusedSimpArgs false
/-- What a message says: kind, from, to, token, bytes. -/
abbrev Cm := Int × Int × Int × Int × List UInt8
def cm (m : Ms) : Cm := (m.1, m.2.1, m.2.2.1, m.2.2.2.2.1, m.2.2.2.2.2)
def cQ (Q : List Qu) : List (List Cm) := Q.map fun q => q.2.map cm
def fits (room : Int) (C : List (List Cm)) (to : Int) : Prop := 0 ≤ to ∧ to < (C.length : Int) ∧ ((C.getD to.toNat []).length : Int) < room
instance (room : Int) (C : List (List Cm)) (to : Int) : Decidable (fits room C to) := inferInstanceAs (Decidable (_ ∧ _))
def offerC (room : Int) (C : List (List Cm)) (m : Cm) : List (List Cm) := if fits room C m.2.2.1 then C.set m.2.2.1.toNat (C.getD m.2.2.1.toNat [] ++ [m]) else C
def offersC (room : Int) (C : List (List Cm)) (l : List Cm) : List (List Cm) := l.foldl (offerC room) C
def countC (room : Int) (C : List (List Cm)) (l : List Cm) : Nat := (l.foldl (fun (x : List (List Cm) × Nat) m => (offerC room x.1 m, if fits room x.1 m.2.2.1 then x.2 + 1 else x.2)) (C, 0)).2
theorem fold_fst (room : Int) : ∀ (l : List Cm) (x : List (List Cm) × Nat), (l.foldl (fun (x : List (List Cm) × Nat) m => (offerC room x.1 m, if fits room x.1 m.2.2.1 then x.2 + 1 else x.2)) x).1 = offersC room x.1 l
  | [], _ => rfl
  | m :: r, x => by
    rw [List.foldl_cons, fold_fst room r]
    rfl
theorem offersC_snoc (room : Int) (C : List (List Cm)) (l : List Cm) (m : Cm) : offersC room C (l ++ [m]) = offerC room (offersC room C l) m := by
  unfold offersC; rw [List.foldl_append]; rfl
theorem countC_snoc (room : Int) (C : List (List Cm)) (l : List Cm) (m : Cm) : countC room C (l ++ [m]) = if fits room (offersC room C l) m.2.2.1 then countC room C l + 1 else countC room C l := by
  unfold countC
  rw [List.foldl_append, List.foldl_cons, List.foldl_nil]
  dsimp only
  rw [fold_fst]
theorem countC_le (room : Int) (C : List (List Cm)) : ∀ (n : Nat) (l : List Cm), l.length = n → countC room C l ≤ l.length := fun n => by
  induction n with
  | zero => intro l h; rw [List.eq_nil_of_length_eq_zero h]; exact Nat.le_refl _
  | succ n ih =>
    intro l h
    obtain ⟨r, m, rfl⟩ : ∃ r m, l = r ++ [m] := ⟨l.dropLast, l.getLast (by intro e; simp [e] at h), (List.dropLast_concat_getLast _).symm⟩
    have := ih r (by simpa using h)
    rw [countC_snoc, List.length_append, List.length_singleton]
    split <;> omega
theorem cQ_len (Q : List Qu) : (cQ Q).length = Q.length := by simp [cQ]
theorem cQ_get {Q : List Qu} {t : Nat} {sv : SV} {ms : List Ms} (h : t < Q.length) (hq : Q.getD t default = (sv, ms)) : (cQ Q).getD t [] = ms.map cm := by
  rw [List.getD_eq_getElem?_getD, List.getElem?_eq_getElem h] at hq
  simp only [Option.getD_some] at hq
  rw [cQ, List.getD_eq_getElem?_getD, List.getElem?_map, List.getElem?_eq_getElem h]
  simp [hq]
theorem cQ_set {Q : List Qu} {t : Nat} (sv : SV) (ms : List Ms) : cQ (Q.set t (sv, ms)) = (cQ Q).set t (ms.map cm) := by
  simp [cQ, List.map_set]
section
variable {w0 : World} {A : Asn} {p n : Nat} {qv : Value} {room ref : Int} {Q : List Qu}
theorem s43 {u : Value} {k : Nat} {ts : List Ms} (rd : Rd w0 A u 5 k (Fl encT82 ts)) (al : Alls (GM w0) A ts) (hm : ∀ m ∈ ts, m.2.2.2.2.2.length ≤ 140737488351232) (hn : Q.length = n) (hroom : room ≤ 16) (href1 : 0 ≤ ref) (href2 : ref ≤ 1152921504606846976) (hts : ts.length ≤ 2513169434843) :
    Spec Try.prog w0 43 [.pointer (some ⟨p, 0, none⟩), u] (A * pts p (.cells #[qv, .int .i64 room, .int .i64 ref] 119 (0, 0)) * own 123 1 qv n (Fl encT123 (Q)) * ownsQ (Q)) (fun v' A' => ∃ Q2 J, v' = .int .i64 (countC room (cQ Q) (ts.map cm) : Int) ∧ Q2.length = n ∧ cQ Q2 = offersC room (cQ Q) (ts.map cm) ∧ A' = A * J * pts p (.cells #[qv, .int .i64 room, .int .i64 (ref + (ts.length : Int) - (countC room (cQ Q) (ts.map cm) : Int))] 119 (0, 0)) * own 123 1 qv n (Fl encT123 (Q2)) * ownsQ (Q2)) := by
  have hl0 := rd.lenFl (fun _ => rfl) (by decide)
  subst hl0
  refine Spec.of_run [(0, .pointer (some ⟨p, 0, none⟩)), (1, u)] Try.func43 rfl (Nat.le_of_ble_eq_true rfl) (by repeat (first | exact trivial | refine ⟨rfl, ?_⟩)) ?_
  refine Run.seq ?_
  refine Run.region ?_
  refine RunL.ok (OpOk.assign rfl) rfl ?_
  refine RunL.nil ?_
  refine Run.seq ?_
  refine Run.region ?_
  refine RunL.ok (OpOk.assign rfl) rfl ?_
  refine RunL.nil ?_
  refine Run.seq ?_
  refine Run.seq ?_
  refine Run.region ?_
  refine RunL.ok (OpOk.move rfl) rfl ?_
  refine RunL.ok (OpOk.lenR rfl rfl rd.left.left.left rfl) rfl ?_
  refine RunL.ok (OpOk.move rfl) rfl ?_
  refine RunL.nil ?_
  refine Run.block ?_
  refine Run.jump ((Run.loopJ (X := Nat × Asn × List Qu × Nat × Int) (fun x => [(10, .int .i64 (x.1 : Int)), (9, .int .i64 (ts.length : Int)), (8, u), (5, .int .i64 (x.2.2.2.1 : Int)), (0, .pointer (some ⟨p, 0, none⟩))]) (fun x => A * x.2.1 * pts p (.cells #[qv, .int .i64 room, .int .i64 x.2.2.2.2] 119 (0, 0)) * own 123 1 qv n (Fl encT123 (x.2.2.1)) * ownsQ (x.2.2.1)) (fun x => x.1 ≤ ts.length ∧ x.2.2.1.length = n ∧ cQ x.2.2.1 = offersC room (cQ Q) ((ts.take x.1).map cm) ∧ x.2.2.2.1 = countC room (cQ Q) ((ts.take x.1).map cm) ∧ x.2.2.2.2 = ref + (x.1 : Int) - (x.2.2.2.1 : Int)) (fun x => ts.length - x.1) (0, _, Q, 0, ref) ⟨Nat.zero_le _, hn, rfl, rfl, by simp⟩ (fun x hx ih => ?_))) ⟨rfl, rfl, rfl, rfl, rfl, trivial⟩ (Grew.of (congrArg (· * _) (congrArg (· * _) (congrArg (· * _) as0))) (Grew.refl _))
  obtain ⟨i, J, Q2, c, rf⟩ := x
  simp only at hx ih ⊢
  obtain ⟨hi, hQ2, hc1, hc2, hrf⟩ := hx
  have hcl : c ≤ i := by
    have := countC_le room (cQ Q) _ ((ts.take i).map cm) rfl
    rw [← hc2, List.length_map, List.length_take] at this
    omega
  rcases Nat.lt_or_ge i ts.length with hlt | hge
  · have hs1 := offersC_snoc room (cQ Q) ((ts.take i).map cm) (cm (ts.getD i default))
    have hs2 := countC_snoc room (cQ Q) ((ts.take i).map cm) (cm (ts.getD i default))
    have et : (ts.take i).map cm ++ [cm (ts.getD i default)] = (ts.take (i + 1)).map cm := by rw [take_next hlt, List.map_append]; rfl
    rw [et, ← hc1] at hs1
    rw [et, ← hc1, ← hc2] at hs2
    have hrd := al.get hlt
    have hmm := hm _ (getD_mem hlt)
    obtain ⟨o, hoe⟩ : ∃ o, ts.getD i default = o := ⟨_, rfl⟩
    rw [hoe] at hs1 hs2 hrd hmm
    obtain ⟨mk, mf, mt, msv, mo, mb⟩ := o
    simp only [cm] at hs1 hs2
    dsimp only [GM] at hrd hmm
    have hone : ∀ w ∈ (Value.agg (encT82 (mk, mf, mt, msv, mo, mb)).toArray).cells.toList, w.oneCell' = true := fun w hw => OneC.one (enc := encT82) (mk, mf, mt, msv, mo, mb) w hw
    rcases Decidable.em (0 ≤ mt ∧ mt < (n : Int)) with hk | hk
    · obtain ⟨t, rfl⟩ := Int.eq_ofNat_of_zero_le hk.1
      have htn : t < n := by omega
      obtain ⟨q, hq⟩ : ∃ q, Q2.getD t default = q := ⟨_, rfl⟩
      obtain ⟨sv, ms⟩ := q
      have hcg := cQ_get (by omega) hq
      have hcl2 := cQ_len Q2
      refine Run.know (fun w s => Sat.ownRd0 (A := A * J * pts p (.cells #[qv, .int .i64 room, .int .i64 rf] 119 (0, 0)) * ownsQ Q2) (s.conv (by ac_rfl))) (fun rdq => ?_)
      obtain ⟨adq, capq, rfl, hcapq, hadq⟩ := rdq.form
      have hbp : Blk w0 (pts p (.cells #[.slice adq n capq, .int .i64 room, .int .i64 rf] 119 (0, 0))) p [.slice adq n capq, .int .i64 room, .int .i64 rf] := by
        have h := Blk.pts (w0 := w0) (A := emp) (b := p) (cs := [.slice adq n capq, .int .i64 room, .int .i64 rf]) (t := 119) (fr := (0, 0))
        rwa [emp_sep] at h
      rcases Decidable.em ((ms.length : Int) < room) with hr | hr
      · have hf : fits room (cQ Q2) (t : Int) := ⟨by omega, by omega, by rw [Int.toNat_natCast, hcg, List.length_map]; exact hr⟩
        simp only [hf, ↓reduceIte] at hs2
        simp only [offerC, hf, ↓reduceIte, Int.toNat_natCast, hcg] at hs1
        refine Run.seq ?_
        refine Run.region ?_
        refine RunL.ok (OpOk.asT (OpOk.lss rfl rfl) (by omega)) rfl ?_
        refine RunL.nil ?_
        refine Run.seq ?_
        refine Run.condT rfl ?_
        refine Run.skip ?_
        refine Run.seq ?_
        refine Run.block ?_
        refine Run.seq ?_
        refine Run.region ?_
        refine RunL.ok (OpOk.idxN rfl ti82 rfl rd.left.left.left.left rfl (by omega)) rfl ?_
        refine RunL.ok (OpOk.loadFlE (by assumption) rfl rfl ti82 rfl rd.left.left.left.left (fun _ => rfl) rfl (by omega)) rfl ?_
        refine RunL.alloc ti82 rfl (fun by1 => ?_)
        refine RunL.storeAll ti82 rfl rfl rfl (fun w hw => OneC.one (enc := encT82) ((mk, mf, ↑t, msv, mo, mb)) w hw) rfl rfl ?_
        refine RunL.nil ?_
        refine Run.seq ?_
        refine Run.seq ?_
        (apply Run.drawD [] (by rfl) (Eq.trans (frc (frl rfl) (frc (frl rfl) (frc (frl rfl) rfl))) (asg (asg rfl))); case hchk => kernel_rfl)
        refine Sd.quiet 0 _ _ rfl rfl rfl rfl rfl (QOp.ok (fun X => OpOk.move rfl)) ?_
        refine Sd.quiet 1 _ _ rfl rfl rfl rfl rfl (QOp.ok (fun X => OpOk.fieldAddr fld82_2 rfl)) ?_
        refine Sd.quiet 2 _ _ rfl rfl rfl rfl rfl (QOp.ok (fun X => OpOk.load rfl rfl rfl (Blk.out Blk.pts.left.left _ _ (by first | rfl | assumption)))) ?_
        (refine Sd.exec 3 rfl rfl rfl rfl rfl ?hrest (by rfl) (fun Xy2 Ky2 hKy2 => ?_); case hrest => kernel_rfl)
        refine RunL.mem (fl2 (sep_emp _) (flS (flS rfl))) ?_
        refine RunL.call cal68 rfl (s68) rfl (fun vy3 Ay3 hy3 => ?_)
        obtain ⟨rfl, rfl⟩ := hy3
        refine Sd.ret hKy2 (Eq.trans rfl (gp2 (sep_emp _).symm (asg (asg rfl)))) ⟨_, (emp_sep _).symm⟩ ?_
        refine Sd.quiet 4 _ _ rfl rfl rfl rfl rfl (QOp.ok (fun X => OpOk.not rfl)) ?_
        refine Sd.quiet 5 _ _ rfl rfl rfl rfl rfl (QOp.ok (fun X => OpOk.move rfl)) ?_
        refine Sd.splitBF (bnF (by first | omega | with_reducible rfl | assumption)) ?_
        refine Sd.quiet 6 _ _ rfl rfl rfl rfl rfl (QOp.ok (fun X => OpOk.move rfl)) ?_
        refine Sd.quiet 7 _ _ rfl rfl rfl rfl rfl (QOp.ok (fun X => OpOk.nilOk rfl)) ?_
        refine Sd.quiet 8 _ _ rfl rfl rfl rfl rfl (QOp.ok (fun X => OpOk.fieldAddr fld119_0 rfl)) ?_
        refine Sd.quiet 9 _ _ rfl rfl rfl rfl rfl (QOp.ok (fun X => OpOk.load rfl rfl rfl (Blk.out (Blk.right hbp.left.left).left _ _ (by first | rfl | assumption)))) ?_
        refine Sd.quiet 10 _ _ rfl rfl rfl rfl rfl (QOp.ok (fun X => OpOk.fieldAddr fld82_2 rfl)) ?_
        refine Sd.quiet 11 _ _ rfl rfl rfl rfl rfl (QOp.ok (fun X => OpOk.load rfl rfl rfl (Blk.out Blk.pts.left.left _ _ (by first | rfl | assumption)))) ?_
        refine Sd.quiet 12 _ _ rfl rfl rfl rfl rfl (QOp.ok (fun X => OpOk.idx1N rfl ti123 rfl (Rd.right (Rd.right rdq).left).left rfl (by omega))) ?_
        refine Sd.quiet 13 _ _ rfl rfl rfl rfl rfl (QOp.ok (fun X => OpOk.fieldAddrA fld123_0 rfl)) ?_
        refine Sd.quiet 15 _ _ rfl rfl rfl rfl rfl (QOp.ok (fun X => OpOk.move rfl)) ?_
        refine Sd.quiet 16 _ _ rfl rfl rfl rfl rfl (QOp.ok (fun X => OpOk.nilOk rfl)) ?_
        refine Sd.quiet 17 _ _ rfl rfl rfl rfl rfl (QOp.ok (fun X => OpOk.fieldAddr fld119_1 rfl)) ?_
        refine Sd.quiet 18 _ _ rfl rfl rfl rfl rfl (QOp.ok (fun X => OpOk.load rfl rfl rfl (Blk.out (Blk.right hbp.left.left).left _ _ (by first | rfl | assumption)))) ?_
        (refine Sd.exec 14 rfl rfl rfl rfl rfl ?hrest (by rfl) (fun Xy4 Ky4 hKy4 => ?_); case hrest => kernel_rfl)
        refine RunL.mem (fl2 (flS (flS rfl)) (sep_emp _)) ?_
        refine RunL.call cal69 rfl (s69 (by assumption) (by assumption) (by assumption)) rfl (fun vy5 Ay5 hy5 => ?_)
        obtain ⟨rfl, rfl⟩ := hy5
        refine Sd.ret hKy4 (Eq.trans rfl (gp2 (sep_emp _).symm (asg (asg rfl)))) ⟨emp, (sep_emp _).symm⟩ ?_
        refine Sd.quiet 19 _ _ rfl rfl rfl rfl rfl (QOp.ok (fun X => OpOk.asF (OpOk.geq rfl rfl) (by omega))) ?_
        refine Sd.quiet 20 _ _ rfl rfl rfl rfl rfl (QOp.ok (fun X => OpOk.pickF rfl rfl)) ?_
        (apply Sd.tail; case hall => kernel_rfl)
        refine RunL.mem (fl2 (flS (flS rfl)) (sep_emp _)) ?_
        refine RunL.nil ?_
        refine Run.condF rfl ?_
        refine Run.skip ?_
        refine Run.seq ?_
        (apply Run.drawD [] (by rfl) (Eq.trans rfl (asg rfl)); case hchk => kernel_rfl)
        refine Sd.quiet 0 _ _ rfl rfl rfl rfl rfl (QOp.ok (fun X => OpOk.move rfl)) ?_
        refine Sd.quiet 1 _ _ rfl rfl rfl rfl rfl (QOp.ok (fun X => OpOk.nilOk rfl)) ?_
        refine Sd.quiet 2 _ _ rfl rfl rfl rfl rfl (QOp.ok (fun X => OpOk.fieldAddr fld119_0 rfl)) ?_
        refine Sd.quiet 3 _ _ rfl rfl rfl rfl rfl (QOp.ok (fun X => OpOk.load rfl rfl rfl (Blk.out Blk.pts.left.left _ _ (by first | rfl | assumption)))) ?_
        refine Sd.quiet 4 _ _ rfl rfl rfl rfl rfl (QOp.ok (fun X => OpOk.fieldAddr fld82_2 rfl)) ?_
        refine Sd.quiet 5 _ _ rfl rfl rfl rfl rfl (QOp.ok (fun X => OpOk.load rfl rfl rfl (Blk.out Blk.pts.left.left.left _ _ (by first | rfl | assumption)))) ?_
        refine Sd.quiet 6 _ _ rfl rfl rfl rfl rfl (QOp.ok (fun X => OpOk.idxAny1N rfl ti123 rfl rdq rfl (by omega))) ?_
        refine Sd.quiet 7 _ _ rfl rfl rfl rfl rfl (QOp.ok (fun X => OpOk.fieldAddrA fld123_0 rfl)) ?_
        refine Sd.quiet 8 _ _ rfl rfl rfl rfl rfl (QOp.ok (fun X => OpOk.loadS rfl rfl ti82 rfl Blk.pts.left.left.left rfl)) ?_
        (refine Sd.exec 9 rfl rfl rfl rfl rfl ?hrest (by rfl) (fun Xy6 Ky6 hKy6 => ?_); case hrest => kernel_rfl)
        refine RunL.mem (fl2 (sep_emp _) (flS rfl)) ?_
        refine RunL.call cal71 rfl (s71 hrd.left.left.left.left.left.left (by assumption)) rfl (fun vy7 Ay7 hy7 => ?_)
        obtain ⟨y8, ⟨y9, ⟨rfl, rfl⟩⟩⟩ := hy7
        refine RunL.know (fun w s => (s.conv rfl).ownRd0) (fun rdy10 => ?_)
        refine Sd.ret hKy6 (Eq.trans (frc (frl (frl rfl)) (frc (frl (frl rfl)) rfl)) (gp2 (asg (asg rfl)) rfl)) ⟨_, (emp_sep _).symm⟩ ?_
        (refine Sd.exec 10 rfl rfl rfl rfl rfl ?hrest (by rfl) (fun Xy11 Ky11 hKy11 => ?_); case hrest => kernel_rfl)
        refine RunL.mem (fl2 rfl (flS (flS rfl))) ?_
        refine RunL.litFl (enc := encT82) [(mk, mf, ↑t, y8, mo, mb)] rfl ti82 rfl (fun _ => rfl) rfl rfl (by decide) (by decide) rfl (fun vy12 rdy12 => ?_)
        refine RunL.know (fun w s => (s.conv rfl).ownRd0) (fun rdy13 => ?_)
        refine Sd.ret hKy11 (Eq.trans (frc (frl rfl) (frc (frl rfl) (frc (frl rfl) rfl))) (gp2 (asg (asg rfl)) (asg rfl))) ⟨_, rfl⟩ ?_
        (refine Sd.exec 11 rfl rfl rfl rfl rfl ?hrest (by rfl) (fun Xy14 Ky14 hKy14 => ?_); case hrest => kernel_rfl)
        refine RunL.mem (fl2 (flS rfl) (flS (flS rfl))) ?_
        refine RunL.call cal70 rfl (s70 (by assumption) (by assumption) (by assumption) (Rd.right rdy13) (by omega)) rfl (fun vy15 Ay15 hy15 => ?_)
        obtain ⟨y16, ⟨y17, ⟨rfl, rfl⟩⟩⟩ := hy15
        refine RunL.know (fun w s => (s.conv (frl rfl)).ownRd0) (fun rdy18 => ?_)
        refine Sd.ret hKy14 (Eq.trans rfl (gp2 (sep_emp _).symm (asg (asg (asg (asg rfl)))))) ⟨_, (asg (asg rfl))⟩ ?_
        (apply Sd.tail; case hall => kernel_rfl)
        refine RunL.mem (fl2 (flS (flS (flS (flS rfl)))) (sep_emp _)) ?_
        refine RunL.nil ?_
        refine Run.region ?_
        refine RunL.ok (OpOk.move rfl) rfl ?_
        refine RunL.ok (OpOk.addN _ 1 rfl rfl rfl rfl (by omega)) rfl ?_
        refine RunL.ok (OpOk.assign rfl) rfl ?_
        refine RunL.nil ?_
        refine Run.inBlock ?_
        refine Run.region ?_
        refine RunL.ok (OpOk.addN _ 1 rfl rfl rfl rfl (by omega)) rfl ?_
        refine RunL.ok (OpOk.move rfl) rfl ?_
        refine RunL.nil ?_
        refine Run.jump ((ih (i + 1, _, Q2.set t (y16, ms ++ [(mk, mf, (t : Int), y8, mo, mb)]), c + 1, rf) ⟨by dsimp only; omega, by dsimp only; rw [List.length_set]; exact hQ2, by dsimp only; rw [hs1, cQ_set, List.map_append]; rfl, hs2.symm, by dsimp only; omega⟩ (by dsimp only; omega))) ⟨rfl, rfl, rfl, rfl, rfl, trivial⟩ (Grew.of (Eq.trans (frc rfl (frc rfl (frc (frl (frl (frl rfl))) rfl))) (congrArg (· * _) (congrArg (· * _) (congrArg (· * _) (asg (asg (asg (asg as1)))))))) (Grew.refl _))
      · have hf : ¬ fits room (cQ Q2) (t : Int) := fun h => hr (by have := h.2.2; rwa [Int.toNat_natCast, hcg, List.length_map] at this)
        simp only [hf, ↓reduceIte] at hs2
        simp only [offerC, hf, ↓reduceIte] at hs1
        refine Run.seq ?_
        refine Run.region ?_
        refine RunL.ok (OpOk.asT (OpOk.lss rfl rfl) (by omega)) rfl ?_
        refine RunL.nil ?_
        refine Run.seq ?_
        refine Run.condT rfl ?_
        refine Run.skip ?_
        refine Run.seq ?_
        refine Run.block ?_
        refine Run.seq ?_
        refine Run.region ?_
        refine RunL.ok (OpOk.idxN rfl ti82 rfl rd.left.left.left.left rfl (by omega)) rfl ?_
        refine RunL.ok (OpOk.loadFlE (by assumption) rfl rfl ti82 rfl rd.left.left.left.left (fun _ => rfl) rfl (by omega)) rfl ?_
        refine RunL.alloc ti82 rfl (fun by1 => ?_)
        refine RunL.storeAll ti82 rfl rfl rfl (fun w hw => OneC.one (enc := encT82) ((mk, mf, ↑t, msv, mo, mb)) w hw) rfl rfl ?_
        refine RunL.nil ?_
        refine Run.seq ?_
        refine Run.seq ?_
        (apply Run.drawD [] (by rfl) (Eq.trans (frc (frl rfl) (frc (frl rfl) (frc (frl rfl) rfl))) (asg (asg rfl))); case hchk => kernel_rfl)
        refine Sd.quiet 0 _ _ rfl rfl rfl rfl rfl (QOp.ok (fun X => OpOk.move rfl)) ?_
        refine Sd.quiet 1 _ _ rfl rfl rfl rfl rfl (QOp.ok (fun X => OpOk.fieldAddr fld82_2 rfl)) ?_
        refine Sd.quiet 2 _ _ rfl rfl rfl rfl rfl (QOp.ok (fun X => OpOk.load rfl rfl rfl (Blk.out Blk.pts.left.left _ _ (by first | rfl | assumption)))) ?_
        (refine Sd.exec 3 rfl rfl rfl rfl rfl ?hrest (by rfl) (fun Xy2 Ky2 hKy2 => ?_); case hrest => kernel_rfl)
        refine RunL.mem (fl2 (sep_emp _) (flS (flS rfl))) ?_
        refine RunL.call cal68 rfl (s68) rfl (fun vy3 Ay3 hy3 => ?_)
        obtain ⟨rfl, rfl⟩ := hy3
        refine Sd.ret hKy2 (Eq.trans rfl (gp2 (sep_emp _).symm (asg (asg rfl)))) ⟨_, (emp_sep _).symm⟩ ?_
        refine Sd.quiet 4 _ _ rfl rfl rfl rfl rfl (QOp.ok (fun X => OpOk.not rfl)) ?_
        refine Sd.quiet 5 _ _ rfl rfl rfl rfl rfl (QOp.ok (fun X => OpOk.move rfl)) ?_
        refine Sd.splitBF (bnF (by first | omega | with_reducible rfl | assumption)) ?_
        refine Sd.quiet 6 _ _ rfl rfl rfl rfl rfl (QOp.ok (fun X => OpOk.move rfl)) ?_
        refine Sd.quiet 7 _ _ rfl rfl rfl rfl rfl (QOp.ok (fun X => OpOk.nilOk rfl)) ?_
        refine Sd.quiet 8 _ _ rfl rfl rfl rfl rfl (QOp.ok (fun X => OpOk.fieldAddr fld119_0 rfl)) ?_
        refine Sd.quiet 9 _ _ rfl rfl rfl rfl rfl (QOp.ok (fun X => OpOk.load rfl rfl rfl (Blk.out (Blk.right hbp.left.left).left _ _ (by first | rfl | assumption)))) ?_
        refine Sd.quiet 10 _ _ rfl rfl rfl rfl rfl (QOp.ok (fun X => OpOk.fieldAddr fld82_2 rfl)) ?_
        refine Sd.quiet 11 _ _ rfl rfl rfl rfl rfl (QOp.ok (fun X => OpOk.load rfl rfl rfl (Blk.out Blk.pts.left.left _ _ (by first | rfl | assumption)))) ?_
        refine Sd.quiet 12 _ _ rfl rfl rfl rfl rfl (QOp.ok (fun X => OpOk.idx1N rfl ti123 rfl (Rd.right (Rd.right rdq).left).left rfl (by omega))) ?_
        refine Sd.quiet 13 _ _ rfl rfl rfl rfl rfl (QOp.ok (fun X => OpOk.fieldAddrA fld123_0 rfl)) ?_
        refine Sd.quiet 15 _ _ rfl rfl rfl rfl rfl (QOp.ok (fun X => OpOk.move rfl)) ?_
        refine Sd.quiet 16 _ _ rfl rfl rfl rfl rfl (QOp.ok (fun X => OpOk.nilOk rfl)) ?_
        refine Sd.quiet 17 _ _ rfl rfl rfl rfl rfl (QOp.ok (fun X => OpOk.fieldAddr fld119_1 rfl)) ?_
        refine Sd.quiet 18 _ _ rfl rfl rfl rfl rfl (QOp.ok (fun X => OpOk.load rfl rfl rfl (Blk.out (Blk.right hbp.left.left).left _ _ (by first | rfl | assumption)))) ?_
        (refine Sd.exec 14 rfl rfl rfl rfl rfl ?hrest (by rfl) (fun Xy4 Ky4 hKy4 => ?_); case hrest => kernel_rfl)
        refine RunL.mem (fl2 (flS (flS rfl)) (sep_emp _)) ?_
        refine RunL.call cal69 rfl (s69 (by assumption) (by assumption) (by assumption)) rfl (fun vy5 Ay5 hy5 => ?_)
        obtain ⟨rfl, rfl⟩ := hy5
        refine Sd.ret hKy4 (Eq.trans rfl (gp2 (sep_emp _).symm (asg (asg rfl)))) ⟨emp, (sep_emp _).symm⟩ ?_
        refine Sd.quiet 19 _ _ rfl rfl rfl rfl rfl (QOp.ok (fun X => OpOk.asT (OpOk.geq rfl rfl) (by omega))) ?_
        refine Sd.quiet 20 _ _ rfl rfl rfl rfl rfl (QOp.ok (fun X => OpOk.pickF rfl rfl)) ?_
        (apply Sd.tail; case hall => kernel_rfl)
        refine RunL.mem (fl2 (flS (flS rfl)) (sep_emp _)) ?_
        refine RunL.nil ?_
        refine Run.condT rfl ?_
        refine Run.seq ?_
        refine Run.region ?_
        refine RunL.ok (OpOk.move rfl) rfl ?_
        refine RunL.ok (OpOk.nilOk rfl) rfl ?_
        refine RunL.ok (OpOk.fieldAddr fld119_2 rfl) rfl ?_
        refine RunL.ok (OpOk.load rfl rfl rfl (Blk.out Blk.pts.left.left _ _ (by first | rfl | assumption))) rfl ?_
        refine RunL.ok (OpOk.add rfl rfl (wrapI (by omega) (by omega))) rfl ?_
        refine RunL.ok (OpOk.nilOk rfl) rfl ?_
        refine RunL.ok (OpOk.fieldAddr fld119_2 rfl) rfl ?_
        refine RunL.store ti3 rfl rfl rfl (frl (frl rfl)) (by exact Nat.le_of_ble_eq_true rfl) (.inl rfl) ?_
        refine RunL.nil ?_
        refine Run.exit rfl ?_
        refine Run.region ?_
        refine RunL.ok (OpOk.addN _ 1 rfl rfl rfl rfl (by omega)) rfl ?_
        refine RunL.ok (OpOk.move rfl) rfl ?_
        refine RunL.nil ?_
        refine Run.jump ((ih (i + 1, _, Q2, c, rf + 1) ⟨by dsimp only; omega, hQ2, hs1.symm, hs2.symm, by dsimp only; omega⟩ (by dsimp only; omega))) ⟨rfl, rfl, rfl, rfl, rfl, trivial⟩ (Grew.of (Eq.trans (frc (frl rfl) (frc (frl rfl) (frc rfl rfl))) (congrArg (· * _) (congrArg (· * _) (congrArg (· * _) (asg as1))))) (Grew.refl _))
    · have hf : ¬ fits room (cQ Q2) mt := fun h => hk ⟨h.1, by have := h.2.1; rw [cQ_len] at this; omega⟩
      simp only [hf, ↓reduceIte] at hs2
      simp only [offerC, hf, ↓reduceIte] at hs1
      refine Run.seq ?_
      refine Run.region ?_
      refine RunL.ok (OpOk.asT (OpOk.lss rfl rfl) (by omega)) rfl ?_
      refine RunL.nil ?_
      refine Run.seq ?_
      refine Run.condT rfl ?_
      refine Run.skip ?_
      refine Run.seq ?_
      refine Run.block ?_
      refine Run.seq ?_
      refine Run.region ?_
      refine RunL.ok (OpOk.idxN rfl ti82 rfl rd.left.left.left.left rfl (by omega)) rfl ?_
      refine RunL.ok (OpOk.loadFlE (by assumption) rfl rfl ti82 rfl rd.left.left.left.left (fun _ => rfl) rfl (by omega)) rfl ?_
      refine RunL.alloc ti82 rfl (fun by1 => ?_)
      refine RunL.storeAll ti82 rfl rfl rfl (fun w hw => OneC.one (enc := encT82) ((mk, mf, mt, msv, mo, mb)) w hw) rfl rfl ?_
      refine RunL.nil ?_
      refine Run.seq ?_
      refine Run.seq ?_
      refine Run.know (fun w s => (s.conv (frl (frl rfl))).ownRd0) (fun rdy2 => ?_)
      (apply Run.drawD [] (by rfl) (Eq.trans (frc (frl rfl) (frc (frl rfl) (frc (frl rfl) rfl))) (asg (asg rfl))); case hchk => kernel_rfl)
      refine Sd.quiet 0 _ _ rfl rfl rfl rfl rfl (QOp.ok (fun X => OpOk.move rfl)) ?_
      refine Sd.quiet 1 _ _ rfl rfl rfl rfl rfl (QOp.ok (fun X => OpOk.fieldAddr fld82_2 rfl)) ?_
      refine Sd.quiet 2 _ _ rfl rfl rfl rfl rfl (QOp.ok (fun X => OpOk.load rfl rfl rfl (Blk.out Blk.pts.left.left _ _ (by first | rfl | assumption)))) ?_
      (refine Sd.exec 3 rfl rfl rfl rfl rfl ?hrest (by rfl) (fun Xy3 Ky3 hKy3 => ?_); case hrest => kernel_rfl)
      refine RunL.mem (fl2 (sep_emp _) (flS (flS rfl))) ?_
      refine RunL.call cal68 rfl (s68) rfl (fun vy4 Ay4 hy4 => ?_)
      obtain ⟨rfl, rfl⟩ := hy4
      refine Sd.ret hKy3 (Eq.trans rfl (gp2 (sep_emp _).symm (asg (asg rfl)))) ⟨_, (emp_sep _).symm⟩ ?_
      refine Sd.quiet 4 _ _ rfl rfl rfl rfl rfl (QOp.ok (fun X => OpOk.not rfl)) ?_
      refine Sd.quiet 5 _ _ rfl rfl rfl rfl rfl (QOp.ok (fun X => OpOk.move rfl)) ?_
      refine Sd.splitBT (bnT (by first | omega | assumption)) ?_
      refine Sd.skip 6 _ rfl rfl rfl rfl rfl ?_
      refine Sd.skip 7 _ rfl rfl rfl rfl rfl ?_
      refine Sd.skip 8 _ rfl rfl rfl rfl rfl ?_
      refine Sd.skip 9 _ rfl rfl rfl rfl rfl ?_
      refine Sd.skip 10 _ rfl rfl rfl rfl rfl ?_
      refine Sd.skip 11 _ rfl rfl rfl rfl rfl ?_
      refine Sd.skip 12 _ rfl rfl rfl rfl rfl ?_
      refine Sd.skip 13 _ rfl rfl rfl rfl rfl ?_
      refine Sd.skip 14 _ rfl rfl rfl rfl rfl ?_
      refine Sd.skip 15 _ rfl rfl rfl rfl rfl ?_
      refine Sd.skip 16 _ rfl rfl rfl rfl rfl ?_
      refine Sd.skip 17 _ rfl rfl rfl rfl rfl ?_
      refine Sd.skip 18 _ rfl rfl rfl rfl rfl ?_
      refine Sd.skip 19 _ rfl rfl rfl rfl rfl ?_
      refine Sd.quiet 20 _ _ rfl rfl rfl rfl rfl (QOp.ok (fun X => OpOk.pickT rfl rfl)) ?_
      (apply Sd.tail; case hall => kernel_rfl)
      refine RunL.mem (fl2 (flS (flS rfl)) (sep_emp _)) ?_
      refine RunL.nil ?_
      refine Run.condT rfl ?_
      refine Run.seq ?_
      refine Run.region ?_
      refine RunL.ok (OpOk.move rfl) rfl ?_
      refine RunL.ok (OpOk.nilOk rfl) rfl ?_
      refine RunL.ok (OpOk.fieldAddr fld119_2 rfl) rfl ?_
      refine RunL.ok (OpOk.load rfl rfl rfl (Blk.out Blk.pts.left.left _ _ (by first | rfl | assumption))) rfl ?_
      refine RunL.ok (OpOk.add rfl rfl (wrapI (by omega) (by omega))) rfl ?_
      refine RunL.ok (OpOk.nilOk rfl) rfl ?_
      refine RunL.ok (OpOk.fieldAddr fld119_2 rfl) rfl ?_
      refine RunL.store ti3 rfl rfl rfl (frl (frl rfl)) (by exact Nat.le_of_ble_eq_true rfl) (.inl rfl) ?_
      refine RunL.nil ?_
      refine Run.exit rfl ?_
      refine Run.region ?_
      refine RunL.ok (OpOk.addN _ 1 rfl rfl rfl rfl (by omega)) rfl ?_
      refine RunL.ok (OpOk.move rfl) rfl ?_
      refine RunL.nil ?_
      refine Run.jump ((ih (i + 1, _, Q2, c, rf + 1) ⟨by dsimp only; omega, hQ2, hs1.symm, hs2.symm, by dsimp only; omega⟩ (by dsimp only; omega))) ⟨rfl, rfl, rfl, rfl, rfl, trivial⟩ (Grew.of (Eq.trans (frc (frl rfl) (frc (frl rfl) (frc rfl rfl))) (congrArg (· * _) (congrArg (· * _) (congrArg (· * _) (asg as1))))) (Grew.refl _))
  · obtain rfl : i = ts.length := by omega
    clear ih
    rw [List.take_length] at hc1 hc2
    refine Run.seq ?_
    refine Run.region ?_
    refine RunL.ok (OpOk.asF (OpOk.lss rfl rfl) (by omega)) rfl ?_
    refine RunL.nil ?_
    refine Run.seq ?_
    refine Run.condF rfl ?_
    refine Run.exit rfl ?_
    refine Run.seq ?_
    refine Run.region ?_
    refine RunL.ok (OpOk.move rfl) rfl ?_
    refine RunL.ok (OpOk.assign rfl) rfl ?_
    refine RunL.nil ?_
    refine Run.ret1 Try.func43 rfl rfl ?_
    refine ⟨Q2, J, by rw [hc2], hQ2, hc1, ?_⟩
    rw [← hc2, ← hrf]
end
end Go.Proofs.Ytegbfnibjgpbpaa
