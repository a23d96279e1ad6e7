/- The ledger's Post. -/
import Derived.Test.YtegbfnibjgpbpaaLg3
namespace Go.Proofs.Ytegbfnibjgpbpaa
open Go Go.Proofs
set_option maxRecDepth 100000
set_option maxHeartbeats 4000000
set_option linter.unusedSimpArgs false
instance (z : Int) : Decidable (inI z) := inferInstanceAs (Decidable (_ ∧ _))
def addsO : List Int → List Sh → Option (List Int)
  | bal, [] => some bal
  | bal, s :: r => if inI (bal.getD s.1.toNat 0 + s.2) then addsO (bal.set s.1.toNat (bal.getD s.1.toNat 0 + s.2)) r else none
def keyP (p : Po) : Int × Int := (p.1, p.2.1)
def postF (n : Nat) (ks : List (Int × Int)) : List Int → List (Int × Int) → List Po → Int × List Int
  | bal, _, [] => (0, bal)
  | bal, fr, p :: r =>
    if rightB n p = true then
      if (p.1, p.2.1) ∈ ks ∨ (p.1, p.2.1) ∈ fr then (22, bal)
      else match addsO bal p.2.2.2 with
        | none => (29, bal)
        | some b => postF n ks b (fr ++ [(p.1, p.2.1)]) r
    else (2, bal)
theorem okS_of {n : Nat} {p : Po} (h : rightB n p = true) {i : Nat} (hi : i < p.2.2.2.length) : 1 ≤ (p.2.2.2.getD i default).1 ∧ (p.2.2.2.getD i default).1 < (n : Int) := by
  simp only [rightB, Bool.and_eq_true] at h
  have := List.all_eq_true.1 h.1.2 _ (getD_mem hi)
  simpa [okS] using this
theorem set_in {bal : List Int} {k : Nat} {z : Int} (hb : ∀ y ∈ bal, inI y) (hz : inI z) : ∀ y ∈ bal.set k z, inI y := fun y hy => by
  rcases List.mem_or_eq_of_mem_set hy with h | h
  · exact hb y h
  · exact h ▸ hz
section
variable {w0 : World} {A : Asn} {p mb nb : Nat} {av pv : Value} {bal : List Int} {ks : List (Int × Int)} {L : List Po}
theorem s61 {v : Value} {m : Nat} {l : List Int} (rd : Rd w0 A v 1 m (I l)) (hm : m ≤ 8796093022208) :
    Spec Try.prog w0 61 [v] A (fun v' A' => A' = A * own 3 1 v' m (I l)) := by
  obtain ⟨ad, cap, rfl, hcap, ha⟩ := rd.form
  refine Spec.of_run [(0, .slice ad m cap)] Try.func61 rfl (Nat.le_of_ble_eq_true rfl) (by repeat (first | exact trivial | refine ⟨rfl, ?_⟩)) ?_
  cases ad with
  | none =>
    have hm0 : m = 0 := by
      rcases Nat.eq_zero_or_pos m with e | e
      · exact e
      · cases ha e
    subst hm0
    have hb : l = [] := List.eq_nil_of_length_eq_zero rd.lenI
    subst hb
    refine Run.seq ?_
    refine Run.region ?_
    refine RunL.ok (OpOk.assign rfl) rfl ?_
    refine RunL.nil ?_
    refine Run.seq ?_
    refine Run.seq ?_
    refine Run.region ?_
    refine RunL.ok (OpOk.move rfl) rfl ?_
    refine RunL.ok (OpOk.eqlNil rfl rfl) rfl ?_
    refine RunL.nil ?_
    refine Run.condT rfl ?_
    refine Run.seq ?_
    refine Run.region ?_
    refine RunL.ok (OpOk.assign rfl) rfl ?_
    refine RunL.nil ?_
    refine Run.ent (Ent.ownNil' _ 3 1 (I []) rfl) ?_
    refine Run.ret1 Try.func61 rfl rfl ?_
    exact rfl
  | some a =>
    refine Run.seq ?_
    refine Run.region ?_
    refine RunL.ok (OpOk.assign rfl) rfl ?_
    refine RunL.nil ?_
    refine Run.seq ?_
    refine Run.seq ?_
    refine Run.region ?_
    refine RunL.ok (OpOk.move rfl) rfl ?_
    refine RunL.ok (OpOk.eqlNil rfl rfl) rfl ?_
    refine RunL.nil ?_
    refine Run.condF rfl ?_
    refine Run.skip ?_
    refine Run.seq ?_
    refine Run.region ?_
    refine RunL.lit0I rfl ti3 rfl (fun vy1 rdy1 => ?_)
    refine RunL.ok (OpOk.move rfl) rfl ?_
    refine RunL.appendI0 rfl ti3 rfl rfl rfl rfl rd.left (by omega) rfl rfl (fun vy2 rdy2 => ?_)
    refine RunL.ok (OpOk.assign rfl) rfl ?_
    refine RunL.nil ?_
    refine Run.ret1 Try.func61 rfl rfl ?_
    exact rfl
theorem post_gen {u : Value} {ps : List Po} (rd : Rd w0 A u 3 ps.length (Fl encT63 ps)) (al : Alls (GP w0) A ps) (hin : ∀ q ∈ ps, ∀ s ∈ q.2.2.2, inI s.2) (hm : ∀ q ∈ ps, q.2.2.2.length ≤ 8796093022208)
    (hl : bal.length = nb) (hb : ∀ z ∈ bal, inI z) (hnb : nb ≤ 5) (hL : L.length + ps.length ≤ 1099511627776) :
    Spec Try.prog w0 34 [.pointer (some ⟨p, 0, none⟩), u] (A * pts p (.cells #[av, .map (some mb), pv] 109 (0, 0)) * own 3 1 av nb (I (bal)) * setA mb (ks) * own 63 3 pv (L).length (Fl encT63 (L)) * ownsP (L)) (fun v' A' => v' = .int .i64 (postF nb ks bal [] ps).1 ∧
      (((postF nb ks bal [] ps).1 ≠ 0 ∧ ∃ J, A' = A * J * pts p (.cells #[av, .map (some mb), pv] 109 (0, 0)) * own 3 1 av nb (I (bal)) * setA mb (ks) * own 63 3 pv (L).length (Fl encT63 (L)) * ownsP (L)) ∨
       ((postF nb ks bal [] ps).1 = 0 ∧ ∃ av2 pv2 M, M.map ct = L.map ct ++ ps.map ct ∧ ∃ J, A' = A * J * pts p (.cells #[av2, .map (some mb), pv2] 109 (0, 0)) * own 3 1 av2 nb (I ((postF nb ks bal [] ps).2)) * setA mb ((ks ++ ps.map keyP)) * own 63 3 pv2 (M).length (Fl encT63 (M)) * ownsP (M)))) := by
  have hmx := rd.max
  refine Spec.of_run [(0, .pointer (some ⟨p, 0, none⟩)), (1, u)] Try.func34 rfl (Nat.le_of_ble_eq_true rfl) (by repeat (first | exact trivial | refine ⟨rfl, ?_⟩)) ?_
  refine Run.seq ?_
  refine Run.region ?_
  refine RunL.ok (OpOk.assign rfl) rfl ?_
  refine RunL.nil ?_
  refine Run.seq ?_
  refine Run.region ?_
  refine RunL.ok (OpOk.move rfl) rfl ?_
  refine RunL.ok (OpOk.nilOk rfl) rfl ?_
  refine RunL.ok (OpOk.fieldAddr fld109_0 rfl) rfl ?_
  refine RunL.ok (OpOk.load rfl rfl rfl (Blk.out Blk.pts.left.left.left.left _ _ (by first | rfl | assumption))) rfl ?_
  refine RunL.know (fun w s => (s.conv rfl).ownsP0) (fun alx1 => ?_)
  refine RunL.know (fun w s => (s.conv (frl (frl (frl rfl)))).ownRd0) (fun rdx2 => ?_)
  refine RunL.call cal61 rfl (s61 (Rd.right rdx2).left.left.left (by omega)) rfl (fun vx3 Ax3 hx3 => ?_)
  obtain rfl := hx3
  refine RunL.ok (OpOk.assign rfl) rfl ?_
  refine RunL.nil ?_
  refine Run.seq ?_
  refine Run.region ?_
  refine RunL.makeS rfl (fun bx4 => ?_)
  refine RunL.ok (OpOk.assign rfl) rfl ?_
  refine RunL.nil ?_
  refine Run.seq ?_
  refine Run.seq ?_
  refine Run.region ?_
  refine RunL.ok (OpOk.move rfl) rfl ?_
  refine RunL.ok (OpOk.lenR rfl rfl rd.left.left.left.left.left.left.left rfl) rfl ?_
  refine RunL.ok (OpOk.move rfl) rfl ?_
  refine RunL.nil ?_
  refine Run.block ?_
  refine Run.jump ((Run.loopJ (X := Nat × Asn × List Int × List (Int × Int)) (fun x => [(22, .int .i64 (x.1 : Int)), (21, .int .i64 (ps.length : Int)), (20, u), (6, .map (some bx4)), (5, vx3), (0, .pointer (some ⟨p, 0, none⟩)), (1, u)]) (fun x => A * x.2.1 * pts p (.cells #[av, .map (some mb), pv] 109 (0, 0)) * own 3 1 av nb (I (bal)) * setA mb (ks) * own 63 3 pv (L).length (Fl encT63 (L)) * ownsP (L) * own 3 1 vx3 nb (I x.2.2.1) * setA bx4 x.2.2.2) (fun x => x.1 ≤ ps.length ∧ x.2.2.1.length = nb ∧ (∀ z ∈ x.2.2.1, inI z) ∧ postF nb ks bal [] ps = postF nb ks x.2.2.1 x.2.2.2 (ps.drop x.1)) (fun x => ps.length - x.1) (0, _, bal, []) ⟨Nat.zero_le _, hl, hb, rfl⟩ (fun x hx ih => ?_))) ⟨rfl, rfl, rfl, rfl, rfl, rfl, rfl, trivial⟩ (Grew.of (congrArg (· * _) (congrArg (· * _) (congrArg (· * _) (congrArg (· * _) (congrArg (· * _) (congrArg (· * _) (congrArg (· * _) as0))))))) (Grew.refl _))
  obtain ⟨i, J, bl, fr⟩ := x
  simp only at hx ih ⊢
  obtain ⟨hi, hbl, hbi, hp⟩ := hx
  rcases Nat.lt_or_ge i ps.length with hlt | hge
  · have rdi : Rd w0 A (ps.getD i default).2.2.1.1 2 (ps.getD i default).2.2.2.length (Fl encT97 (ps.getD i default).2.2.2) := al.get hlt
    have hini := hin _ (getD_mem hlt)
    have hmi := hm _ (getD_mem hlt)
    have hone : ∀ w ∈ (Value.agg (encT63 (ps.getD i default)).toArray).cells.toList, w.oneCell' = true := fun w hw => OneC.one (enc := encT63) _ w hw
    rw [drop_next hlt] at hp
    simp only [postF] at hp
    cases hr : rightB nb (ps.getD i default) with
    | false =>
      rw [if_neg (by rw [hr]; decide)] at hp
      rw [hp]
      refine Run.seq ?_
      refine Run.region ?_
      refine RunL.ok (OpOk.asT (OpOk.lss rfl rfl) (by omega)) rfl ?_
      refine RunL.nil ?_
      refine Run.seq ?_
      refine Run.condT rfl ?_
      refine Run.skip ?_
      refine Run.seq ?_
      refine Run.block ?_
      refine Run.seq ?_
      refine Run.region ?_
      refine RunL.ok (OpOk.idxN rfl ti63 rfl rd.left.left.left.left.left.left.left.left rfl (by omega)) rfl ?_
      refine RunL.ok (OpOk.loadFl default rfl rfl ti63 rfl rd.left.left.left.left.left.left.left.left (fun _ => rfl) rfl (by omega)) rfl ?_
      refine RunL.alloc ti63 rfl (fun by1 => ?_)
      refine RunL.storeAll ti63 rfl rfl rfl (by assumption) rfl rfl ?_
      refine RunL.nil ?_
      refine Run.seq ?_
      refine Run.region ?_
      refine RunL.ok (OpOk.fieldAddr fld63_0 rfl) rfl ?_
      refine RunL.ok (OpOk.load rfl rfl rfl (Blk.out Blk.pts _ _ (by first | rfl | assumption))) rfl ?_
      refine RunL.ok (OpOk.fieldAddr fld63_1 rfl) rfl ?_
      refine RunL.ok (OpOk.load rfl rfl rfl (Blk.out Blk.pts _ _ (by first | rfl | assumption))) rfl ?_
      refine RunL.ok (OpOk.build (cells := #[.int (IntKind.i64) ((ps.getD i default).fst), .int (IntKind.i64) ((ps.getD i default).snd.fst)]) rfl (fun w => run_build w 112 _ _ (by rfl))) rfl ?_
      refine RunL.alloc ti112 rfl (fun by2 => ?_)
      refine RunL.storeAll ti112 rfl rfl rfl (ones rfl) rfl rfl ?_
      refine RunL.nil ?_
      refine Run.seq ?_
      refine Run.block ?_
      refine Run.seq ?_
      refine Run.region ?_
      refine RunL.ok (OpOk.move rfl) rfl ?_
      refine RunL.ok (OpOk.loadS rfl rfl ti63 rfl Blk.pts.left rfl) rfl ?_
      refine RunL.mem (frc (frl (frl (frl (frl rfl)))) (frc (frl (frl (frl (frl rfl)))) (frc (frl (frl (frl (frl rfl)))) (frc (frl (frl (frl (frl rfl)))) (frc (frl (frl (frl (frl rfl)))) rfl))))) ?_
      refine RunL.call cal62 rfl (s62 rdi.left.left.left.left.left (by assumption) (by assumption)) rfl (fun vy3 Ay3 hy3 => ?_)
      obtain ⟨y4, ⟨rfl, rfl⟩⟩ := hy3
      refine RunL.ok (OpOk.not rfl) rfl ?_
      refine RunL.ok (OpOk.assign rfl) rfl ?_
      refine RunL.nil ?_
      refine Run.condBT rfl (by rw [hr]; rfl) ?_
      refine Run.seq ?_
      refine Run.region ?_
      refine RunL.ok (OpOk.assign rfl) rfl ?_
      refine RunL.nil ?_
      refine Run.ret1 Try.func34 rfl rfl ?_
      refine ⟨rfl, .inl ⟨by first | decide | (dsimp only; decide), ?_⟩⟩
      exact ⟨_, (congrArg (· * _) (congrArg (· * _) (congrArg (· * _) (congrArg (· * _) (congrArg (· * _) (asg (asg (asg (asg (asg as1))))))))))⟩
    | true =>
      rw [if_pos hr] at hp
      rcases Decidable.em (((ps.getD i default).1, (ps.getD i default).2.1) ∈ ks) with hk1 | hk1
      · rw [if_pos (.inl hk1)] at hp
        rw [hp]
        refine Run.seq ?_
        refine Run.region ?_
        refine RunL.ok (OpOk.asT (OpOk.lss rfl rfl) (by omega)) rfl ?_
        refine RunL.nil ?_
        refine Run.seq ?_
        refine Run.condT rfl ?_
        refine Run.skip ?_
        refine Run.seq ?_
        refine Run.block ?_
        refine Run.seq ?_
        refine Run.region ?_
        refine RunL.ok (OpOk.idxN rfl ti63 rfl rd.left.left.left.left.left.left.left.left rfl (by omega)) rfl ?_
        refine RunL.ok (OpOk.loadFl default rfl rfl ti63 rfl rd.left.left.left.left.left.left.left.left (fun _ => rfl) rfl (by omega)) rfl ?_
        refine RunL.alloc ti63 rfl (fun by1 => ?_)
        refine RunL.storeAll ti63 rfl rfl rfl (by assumption) rfl rfl ?_
        refine RunL.nil ?_
        refine Run.seq ?_
        refine Run.region ?_
        refine RunL.ok (OpOk.fieldAddr fld63_0 rfl) rfl ?_
        refine RunL.ok (OpOk.load rfl rfl rfl (Blk.out Blk.pts _ _ (by first | rfl | assumption))) rfl ?_
        refine RunL.ok (OpOk.fieldAddr fld63_1 rfl) rfl ?_
        refine RunL.ok (OpOk.load rfl rfl rfl (Blk.out Blk.pts _ _ (by first | rfl | assumption))) rfl ?_
        refine RunL.ok (OpOk.build (cells := #[.int (IntKind.i64) ((ps.getD i default).fst), .int (IntKind.i64) ((ps.getD i default).snd.fst)]) rfl (fun w => run_build w 112 _ _ (by rfl))) rfl ?_
        refine RunL.alloc ti112 rfl (fun by2 => ?_)
        refine RunL.storeAll ti112 rfl rfl rfl (ones rfl) rfl rfl ?_
        refine RunL.nil ?_
        refine Run.seq ?_
        refine Run.block ?_
        refine Run.seq ?_
        refine Run.region ?_
        refine RunL.ok (OpOk.move rfl) rfl ?_
        refine RunL.ok (OpOk.loadS rfl rfl ti63 rfl Blk.pts.left rfl) rfl ?_
        refine RunL.mem (frc (frl (frl (frl (frl rfl)))) (frc (frl (frl (frl (frl rfl)))) (frc (frl (frl (frl (frl rfl)))) (frc (frl (frl (frl (frl rfl)))) (frc (frl (frl (frl (frl rfl)))) rfl))))) ?_
        refine RunL.call cal62 rfl (s62 rdi.left.left.left.left.left (by assumption) (by assumption)) rfl (fun vy3 Ay3 hy3 => ?_)
        obtain ⟨y4, ⟨rfl, rfl⟩⟩ := hy3
        refine RunL.ok (OpOk.not rfl) rfl ?_
        refine RunL.ok (OpOk.assign rfl) rfl ?_
        refine RunL.nil ?_
        refine Run.condBF rfl (by rw [hr]; rfl) ?_
        refine Run.seq ?_
        refine Run.know (fun w s => (s.conv (frl (frl (frl (frl (frl (frl (frl (frl (frl rfl)))))))))).ownRd0) (fun rdy5 => ?_)
        refine Run.know (fun w s => (s.conv (frl rfl)).ownRd0) (fun rdy6 => ?_)
        (apply Run.drawD [] (by rfl) (sep_emp _).symm; case hchk => kernel_rfl)
        refine Sd.quiet 0 _ _ rfl rfl rfl rfl rfl (QOp.ok (fun X => OpOk.move rfl)) ?_
        refine Sd.quiet 1 _ _ rfl rfl rfl rfl rfl (QOp.ok (fun X => OpOk.nilOk rfl)) ?_
        refine Sd.quiet 2 _ _ rfl rfl rfl rfl rfl (QOp.ok (fun X => OpOk.fieldAddr fld109_1 rfl)) ?_
        refine Sd.quiet 3 _ _ rfl rfl rfl rfl rfl (QOp.ok (fun X => OpOk.load rfl rfl rfl (Blk.out Blk.pts.left.left.left.left.left.left _ _ (by first | rfl | assumption)))) ?_
        refine Sd.quiet 4 _ _ rfl rfl rfl rfl rfl (QOp.ok (fun X => OpOk.loadS rfl rfl ti112 rfl Blk.pts.left.left.left.left.left.left.left.left rfl)) ?_
        refine Sd.quiet 5 _ _ rfl rfl rfl rfl rfl (QOp.ok (fun X => OpOk.lookS setT107 SetAt.here.left.left.left.left rfl rfl)) ?_
        refine Sd.quiet 6 _ _ rfl rfl rfl rfl rfl (QOp.ok (fun X => OpOk.move rfl)) ?_
        refine Sd.splitBT (decide_eq_true (by first | omega | with_reducible rfl | assumption)) ?_
        refine Sd.skip 7 _ rfl rfl rfl rfl rfl ?_
        refine Sd.skip 8 _ rfl rfl rfl rfl rfl ?_
        refine Sd.skip 9 _ rfl rfl rfl rfl rfl ?_
        refine Sd.quiet 10 _ _ rfl rfl rfl rfl rfl (QOp.ok (fun X => OpOk.pickT rfl rfl)) ?_
        refine Sd.quiet 11 _ _ rfl rfl rfl rfl rfl (QOp.ok (fun X => OpOk.assign rfl)) ?_
        (apply Sd.tail; case hall => kernel_rfl)
        refine RunL.mem (fl2 (sep_emp _) (sep_emp _)) ?_
        refine RunL.nil ?_
        refine Run.condT rfl ?_
        refine Run.seq ?_
        refine Run.region ?_
        refine RunL.ok (OpOk.assign rfl) rfl ?_
        refine RunL.nil ?_
        refine Run.ret1 Try.func34 rfl rfl ?_
        refine ⟨rfl, .inl ⟨by first | decide | (dsimp only; decide), ?_⟩⟩
        exact ⟨_, (congrArg (· * _) (congrArg (· * _) (congrArg (· * _) (congrArg (· * _) (congrArg (· * _) (asg (asg (asg (asg (asg as1))))))))))⟩
      · rcases Decidable.em (((ps.getD i default).1, (ps.getD i default).2.1) ∈ fr) with hk2 | hk2
        · rw [if_pos (.inr hk2)] at hp
          rw [hp]
          refine Run.seq ?_
          refine Run.region ?_
          refine RunL.ok (OpOk.asT (OpOk.lss rfl rfl) (by omega)) rfl ?_
          refine RunL.nil ?_
          refine Run.seq ?_
          refine Run.condT rfl ?_
          refine Run.skip ?_
          refine Run.seq ?_
          refine Run.block ?_
          refine Run.seq ?_
          refine Run.region ?_
          refine RunL.ok (OpOk.idxN rfl ti63 rfl rd.left.left.left.left.left.left.left.left rfl (by omega)) rfl ?_
          refine RunL.ok (OpOk.loadFl default rfl rfl ti63 rfl rd.left.left.left.left.left.left.left.left (fun _ => rfl) rfl (by omega)) rfl ?_
          refine RunL.alloc ti63 rfl (fun by1 => ?_)
          refine RunL.storeAll ti63 rfl rfl rfl (by assumption) rfl rfl ?_
          refine RunL.nil ?_
          refine Run.seq ?_
          refine Run.region ?_
          refine RunL.ok (OpOk.fieldAddr fld63_0 rfl) rfl ?_
          refine RunL.ok (OpOk.load rfl rfl rfl (Blk.out Blk.pts _ _ (by first | rfl | assumption))) rfl ?_
          refine RunL.ok (OpOk.fieldAddr fld63_1 rfl) rfl ?_
          refine RunL.ok (OpOk.load rfl rfl rfl (Blk.out Blk.pts _ _ (by first | rfl | assumption))) rfl ?_
          refine RunL.ok (OpOk.build (cells := #[.int (IntKind.i64) ((ps.getD i default).fst), .int (IntKind.i64) ((ps.getD i default).snd.fst)]) rfl (fun w => run_build w 112 _ _ (by rfl))) rfl ?_
          refine RunL.alloc ti112 rfl (fun by2 => ?_)
          refine RunL.storeAll ti112 rfl rfl rfl (ones rfl) rfl rfl ?_
          refine RunL.nil ?_
          refine Run.seq ?_
          refine Run.block ?_
          refine Run.seq ?_
          refine Run.region ?_
          refine RunL.ok (OpOk.move rfl) rfl ?_
          refine RunL.ok (OpOk.loadS rfl rfl ti63 rfl Blk.pts.left rfl) rfl ?_
          refine RunL.mem (frc (frl (frl (frl (frl rfl)))) (frc (frl (frl (frl (frl rfl)))) (frc (frl (frl (frl (frl rfl)))) (frc (frl (frl (frl (frl rfl)))) (frc (frl (frl (frl (frl rfl)))) rfl))))) ?_
          refine RunL.call cal62 rfl (s62 rdi.left.left.left.left.left (by assumption) (by assumption)) rfl (fun vy3 Ay3 hy3 => ?_)
          obtain ⟨y4, ⟨rfl, rfl⟩⟩ := hy3
          refine RunL.ok (OpOk.not rfl) rfl ?_
          refine RunL.ok (OpOk.assign rfl) rfl ?_
          refine RunL.nil ?_
          refine Run.condBF rfl (by rw [hr]; rfl) ?_
          refine Run.seq ?_
          refine Run.know (fun w s => (s.conv (frl (frl (frl (frl (frl (frl (frl (frl (frl rfl)))))))))).ownRd0) (fun rdy5 => ?_)
          refine Run.know (fun w s => (s.conv (frl rfl)).ownRd0) (fun rdy6 => ?_)
          (apply Run.drawD [] (by rfl) (sep_emp _).symm; case hchk => kernel_rfl)
          refine Sd.quiet 0 _ _ rfl rfl rfl rfl rfl (QOp.ok (fun X => OpOk.move rfl)) ?_
          refine Sd.quiet 1 _ _ rfl rfl rfl rfl rfl (QOp.ok (fun X => OpOk.nilOk rfl)) ?_
          refine Sd.quiet 2 _ _ rfl rfl rfl rfl rfl (QOp.ok (fun X => OpOk.fieldAddr fld109_1 rfl)) ?_
          refine Sd.quiet 3 _ _ rfl rfl rfl rfl rfl (QOp.ok (fun X => OpOk.load rfl rfl rfl (Blk.out Blk.pts.left.left.left.left.left.left _ _ (by first | rfl | assumption)))) ?_
          refine Sd.quiet 4 _ _ rfl rfl rfl rfl rfl (QOp.ok (fun X => OpOk.loadS rfl rfl ti112 rfl Blk.pts.left.left.left.left.left.left.left.left rfl)) ?_
          refine Sd.quiet 5 _ _ rfl rfl rfl rfl rfl (QOp.ok (fun X => OpOk.lookS setT107 SetAt.here.left.left.left.left rfl rfl)) ?_
          refine Sd.quiet 6 _ _ rfl rfl rfl rfl rfl (QOp.ok (fun X => OpOk.move rfl)) ?_
          refine Sd.splitBF (decide_eq_false (by first | omega | assumption)) ?_
          refine Sd.quiet 7 _ _ rfl rfl rfl rfl rfl (QOp.ok (fun X => OpOk.move rfl)) ?_
          refine Sd.quiet 8 _ _ rfl rfl rfl rfl rfl (QOp.ok (fun X => OpOk.loadS rfl rfl ti112 rfl Blk.pts.left.left.left.left.left.left.left.left rfl)) ?_
          refine Sd.quiet 9 _ _ rfl rfl rfl rfl rfl (QOp.ok (fun X => OpOk.lookS setT107 SetAt.here.left.left.left.left.left.left.left.left.left.left rfl rfl)) ?_
          refine Sd.quiet 10 _ _ rfl rfl rfl rfl rfl (QOp.ok (fun X => OpOk.pickF rfl rfl)) ?_
          refine Sd.quiet 11 _ _ rfl rfl rfl rfl rfl (QOp.ok (fun X => OpOk.assign rfl)) ?_
          (apply Sd.tail; case hall => kernel_rfl)
          refine RunL.mem (fl2 (sep_emp _) (sep_emp _)) ?_
          refine RunL.nil ?_
          refine Run.condDT rfl (by first | omega | with_reducible rfl | assumption) ?_
          refine Run.seq ?_
          refine Run.region ?_
          refine RunL.ok (OpOk.assign rfl) rfl ?_
          refine RunL.nil ?_
          refine Run.ret1 Try.func34 rfl rfl ?_
          refine ⟨rfl, .inl ⟨by first | decide | (dsimp only; decide), ?_⟩⟩
          exact ⟨_, (congrArg (· * _) (congrArg (· * _) (congrArg (· * _) (congrArg (· * _) (congrArg (· * _) (asg (asg (asg (asg (asg as1))))))))))⟩
        · rw [if_neg (not_or.2 ⟨hk1, hk2⟩)] at hp
          refine Run.seq ?_
          refine Run.region ?_
          refine RunL.ok (OpOk.asT (OpOk.lss rfl rfl) (by omega)) rfl ?_
          refine RunL.nil ?_
          refine Run.seq ?_
          refine Run.condT rfl ?_
          refine Run.skip ?_
          refine Run.seq ?_
          refine Run.block ?_
          refine Run.seq ?_
          refine Run.region ?_
          refine RunL.ok (OpOk.idxN rfl ti63 rfl rd.left.left.left.left.left.left.left.left rfl (by omega)) rfl ?_
          refine RunL.ok (OpOk.loadFl default rfl rfl ti63 rfl rd.left.left.left.left.left.left.left.left (fun _ => rfl) rfl (by omega)) rfl ?_
          refine RunL.alloc ti63 rfl (fun by1 => ?_)
          refine RunL.storeAll ti63 rfl rfl rfl (by assumption) rfl rfl ?_
          refine RunL.nil ?_
          refine Run.seq ?_
          refine Run.region ?_
          refine RunL.ok (OpOk.fieldAddr fld63_0 rfl) rfl ?_
          refine RunL.ok (OpOk.load rfl rfl rfl (Blk.out Blk.pts _ _ (by first | rfl | assumption))) rfl ?_
          refine RunL.ok (OpOk.fieldAddr fld63_1 rfl) rfl ?_
          refine RunL.ok (OpOk.load rfl rfl rfl (Blk.out Blk.pts _ _ (by first | rfl | assumption))) rfl ?_
          refine RunL.ok (OpOk.build (cells := #[.int (IntKind.i64) ((ps.getD i default).fst), .int (IntKind.i64) ((ps.getD i default).snd.fst)]) rfl (fun w => run_build w 112 _ _ (by rfl))) rfl ?_
          refine RunL.alloc ti112 rfl (fun by2 => ?_)
          refine RunL.storeAll ti112 rfl rfl rfl (ones rfl) rfl rfl ?_
          refine RunL.nil ?_
          refine Run.seq ?_
          refine Run.block ?_
          refine Run.seq ?_
          refine Run.region ?_
          refine RunL.ok (OpOk.move rfl) rfl ?_
          refine RunL.ok (OpOk.loadS rfl rfl ti63 rfl Blk.pts.left rfl) rfl ?_
          refine RunL.mem (frc (frl (frl (frl (frl rfl)))) (frc (frl (frl (frl (frl rfl)))) (frc (frl (frl (frl (frl rfl)))) (frc (frl (frl (frl (frl rfl)))) (frc (frl (frl (frl (frl rfl)))) rfl))))) ?_
          refine RunL.call cal62 rfl (s62 rdi.left.left.left.left.left (by assumption) (by assumption)) rfl (fun vy3 Ay3 hy3 => ?_)
          obtain ⟨y4, ⟨rfl, rfl⟩⟩ := hy3
          refine RunL.ok (OpOk.not rfl) rfl ?_
          refine RunL.ok (OpOk.assign rfl) rfl ?_
          refine RunL.nil ?_
          refine Run.condBF rfl (by rw [hr]; rfl) ?_
          refine Run.seq ?_
          refine Run.know (fun w s => (s.conv (frl (frl (frl (frl (frl (frl (frl (frl (frl rfl)))))))))).ownRd0) (fun rdy5 => ?_)
          refine Run.know (fun w s => (s.conv (frl rfl)).ownRd0) (fun rdy6 => ?_)
          (apply Run.drawD [] (by rfl) (sep_emp _).symm; case hchk => kernel_rfl)
          refine Sd.quiet 0 _ _ rfl rfl rfl rfl rfl (QOp.ok (fun X => OpOk.move rfl)) ?_
          refine Sd.quiet 1 _ _ rfl rfl rfl rfl rfl (QOp.ok (fun X => OpOk.nilOk rfl)) ?_
          refine Sd.quiet 2 _ _ rfl rfl rfl rfl rfl (QOp.ok (fun X => OpOk.fieldAddr fld109_1 rfl)) ?_
          refine Sd.quiet 3 _ _ rfl rfl rfl rfl rfl (QOp.ok (fun X => OpOk.load rfl rfl rfl (Blk.out Blk.pts.left.left.left.left.left.left _ _ (by first | rfl | assumption)))) ?_
          refine Sd.quiet 4 _ _ rfl rfl rfl rfl rfl (QOp.ok (fun X => OpOk.loadS rfl rfl ti112 rfl Blk.pts.left.left.left.left.left.left.left.left rfl)) ?_
          refine Sd.quiet 5 _ _ rfl rfl rfl rfl rfl (QOp.ok (fun X => OpOk.lookS setT107 SetAt.here.left.left.left.left rfl rfl)) ?_
          refine Sd.quiet 6 _ _ rfl rfl rfl rfl rfl (QOp.ok (fun X => OpOk.move rfl)) ?_
          refine Sd.splitBF (decide_eq_false (by first | omega | assumption)) ?_
          refine Sd.quiet 7 _ _ rfl rfl rfl rfl rfl (QOp.ok (fun X => OpOk.move rfl)) ?_
          refine Sd.quiet 8 _ _ rfl rfl rfl rfl rfl (QOp.ok (fun X => OpOk.loadS rfl rfl ti112 rfl Blk.pts.left.left.left.left.left.left.left.left rfl)) ?_
          refine Sd.quiet 9 _ _ rfl rfl rfl rfl rfl (QOp.ok (fun X => OpOk.lookS setT107 SetAt.here.left.left.left.left.left.left.left.left.left.left rfl rfl)) ?_
          refine Sd.quiet 10 _ _ rfl rfl rfl rfl rfl (QOp.ok (fun X => OpOk.pickF rfl rfl)) ?_
          refine Sd.quiet 11 _ _ rfl rfl rfl rfl rfl (QOp.ok (fun X => OpOk.assign rfl)) ?_
          (apply Sd.tail; case hall => kernel_rfl)
          refine RunL.mem (fl2 (sep_emp _) (sep_emp _)) ?_
          refine RunL.nil ?_
          refine Run.condDF rfl (by first | omega | assumption) ?_
          refine Run.skip ?_
          refine Run.inBlock ?_
          refine Run.seq ?_
          refine Run.seq ?_
          refine Run.region ?_
          refine RunL.ok (OpOk.fieldAddr fld63_2 rfl) rfl ?_
          refine RunL.ok (OpOk.load rfl rfl rfl (Blk.out Blk.pts.left.left.left.left.left.left.left _ _ (by first | rfl | assumption))) rfl ?_
          refine RunL.ok (OpOk.lenR rfl rfl rdi.left.left.left.left.left.left.left.left.left.left.left rfl) rfl ?_
          refine RunL.ok (OpOk.move rfl) rfl ?_
          refine RunL.nil ?_
          refine Run.block ?_
          refine Run.jump ((Run.loopJ (X := Nat × Asn × List Int) (fun x => [(51, .int .i64 (x.1 : Int)), (50, .int .i64 ((ps.getD i default).2.2.2.length : Int)), (49, (ps.getD i default).2.2.1.1), (9, .pointer (some ⟨by2, 0, none⟩)), (22, .int .i64 (i : Int)), (21, .int .i64 (ps.length : Int)), (20, u), (6, .map (some bx4)), (5, vx3), (0, .pointer (some ⟨p, 0, none⟩)), (1, u)]) (fun x => A * x.2.1 * pts p (.cells #[av, .map (some mb), pv] 109 (0, 0)) * own 3 1 av nb (I (bal)) * setA mb (ks) * own 63 3 pv (L).length (Fl encT63 (L)) * ownsP (L) * pts by2 (.cells (Value.agg #[.int .i64 (ps.getD i default).1, .int .i64 (ps.getD i default).2.1]).cells 112 (0, 0)) * own 3 1 vx3 nb (I x.2.2) * setA bx4 fr) (fun x => x.1 ≤ (ps.getD i default).2.2.2.length ∧ x.2.2.length = nb ∧ (∀ z ∈ x.2.2, inI z) ∧ addsO bl (ps.getD i default).2.2.2 = addsO x.2.2 ((ps.getD i default).2.2.2.drop x.1)) (fun x => (ps.getD i default).2.2.2.length - x.1) (0, _, bl) ⟨Nat.zero_le _, hbl, hbi, rfl⟩ (fun x hx ih2 => ?_))) ⟨rfl, rfl, rfl, rfl, rfl, rfl, rfl, rfl, rfl, rfl, rfl, trivial⟩ (Grew.of (Eq.trans (frc (frl (frl (frl (frl (frl (frl (frl (frl rfl)))))))) (frc (frl (frl (frl (frl (frl (frl (frl (frl rfl)))))))) (frc (frl (frl (frl (frl (frl (frl rfl)))))) rfl))) (congrArg (· * _) (congrArg (· * _) (congrArg (· * _) (congrArg (· * _) (congrArg (· * _) (congrArg (· * _) (congrArg (· * _) (congrArg (· * _) (asg (asg as1))))))))))) (Grew.refl _))
          obtain ⟨k, J2, bk⟩ := x
          simp only at hx ih2 ⊢
          obtain ⟨hk, hkl, hki, hka⟩ := hx
          rcases Nat.lt_or_ge k (ps.getD i default).2.2.2.length with hkt | hkg
          · have hs := okS_of hr hkt
            have hs1 := hs.1
            have hs2 := hs.2
            have hsi := hini _ (getD_mem hkt)
            rw [drop_next hkt] at hka
            simp only [addsO] at hka
            rcases Decidable.em (inI (bk.getD ((ps.getD i default).2.2.2.getD k default).1.toNat 0 + ((ps.getD i default).2.2.2.getD k default).2)) with hc | hc
            · rw [if_pos hc] at hka
              refine Run.seq ?_
              refine Run.region ?_
              refine RunL.ok (OpOk.asT (OpOk.lss rfl rfl) (by omega)) rfl ?_
              refine RunL.nil ?_
              refine Run.seq ?_
              refine Run.condT rfl ?_
              refine Run.skip ?_
              refine Run.seq ?_
              refine Run.block ?_
              refine Run.seq ?_
              refine Run.region ?_
              refine RunL.ok (OpOk.idxN rfl ti97 rfl rdi.left.left.left.left.left.left.left.left.left rfl (by omega)) rfl ?_
              refine RunL.ok (OpOk.loadFl default rfl rfl ti97 rfl rdi.left.left.left.left.left.left.left.left.left (fun _ => rfl) rfl (by omega)) rfl ?_
              refine RunL.alloc ti97 rfl (fun bz1 => ?_)
              refine RunL.storeAll ti97 rfl rfl rfl (ones rfl) rfl rfl ?_
              refine RunL.nil ?_
              refine Run.seq ?_
              refine Run.region ?_
              refine RunL.ok (OpOk.move rfl) rfl ?_
              refine RunL.ok (OpOk.loadS rfl rfl ti97 rfl Blk.pts rfl) rfl ?_
              refine RunL.know (fun w s => (s.conv (frl (frl rfl))).ownRd0) (fun rdz2 => ?_)
              refine RunL.mem (frc (frl (frl rfl)) rfl) ?_
              refine RunL.call cal63 rfl (s63a (by omega) (by assumption) (by assumption) (by assumption) (by assumption) (by assumption)) rfl (fun vz3 Az3 hz3 => ?_)
              obtain ⟨z4, ⟨rfl, rfl⟩⟩ := hz3
              refine RunL.ok (OpOk.not rfl) rfl ?_
              refine RunL.nil ?_
              refine Run.condF rfl ?_
              refine Run.skip ?_
              refine Run.inBlock ?_
              refine Run.region ?_
              refine RunL.ok (OpOk.addN _ 1 rfl rfl rfl rfl (by omega)) rfl ?_
              refine RunL.ok (OpOk.move rfl) rfl ?_
              refine RunL.nil ?_
              refine Run.jump ((ih2 (k + 1, _, bk.set ((ps.getD i default).2.2.2.getD k default).1.toNat (bk.getD ((ps.getD i default).2.2.2.getD k default).1.toNat 0 + ((ps.getD i default).2.2.2.getD k default).2)) ⟨by dsimp only; omega, by dsimp only; rw [List.length_set]; exact hkl, set_in hki hc, hka⟩ (by dsimp only; omega))) ⟨rfl, rfl, rfl, rfl, rfl, rfl, rfl, rfl, rfl, rfl, rfl, trivial⟩ (Grew.of (Eq.trans (frc (frl (frl (frl rfl))) (frc rfl (frc (frl (frl rfl)) (frc (frl (frl rfl)) (frc (frl (frl rfl)) (frc (frl (frl rfl)) (frc (frl (frl rfl)) (frc (frl (frl rfl)) rfl)))))))) (congrArg (· * _) (congrArg (· * _) (congrArg (· * _) (congrArg (· * _) (congrArg (· * _) (congrArg (· * _) (congrArg (· * _) (congrArg (· * _) (asg (asg as1))))))))))) (Grew.refl _))
            · rw [if_neg hc] at hka
              rw [hka] at hp
              rw [hp]
              refine Run.seq ?_
              refine Run.region ?_
              refine RunL.ok (OpOk.asT (OpOk.lss rfl rfl) (by omega)) rfl ?_
              refine RunL.nil ?_
              refine Run.seq ?_
              refine Run.condT rfl ?_
              refine Run.skip ?_
              refine Run.seq ?_
              refine Run.block ?_
              refine Run.seq ?_
              refine Run.region ?_
              refine RunL.ok (OpOk.idxN rfl ti97 rfl rdi.left.left.left.left.left.left.left.left.left rfl (by omega)) rfl ?_
              refine RunL.ok (OpOk.loadFl default rfl rfl ti97 rfl rdi.left.left.left.left.left.left.left.left.left (fun _ => rfl) rfl (by omega)) rfl ?_
              refine RunL.alloc ti97 rfl (fun bz1 => ?_)
              refine RunL.storeAll ti97 rfl rfl rfl (ones rfl) rfl rfl ?_
              refine RunL.nil ?_
              refine Run.seq ?_
              refine Run.region ?_
              refine RunL.ok (OpOk.move rfl) rfl ?_
              refine RunL.ok (OpOk.loadS rfl rfl ti97 rfl Blk.pts rfl) rfl ?_
              refine RunL.know (fun w s => (s.conv (frl (frl rfl))).ownRd0) (fun rdz2 => ?_)
              refine RunL.mem (frc (frl (frl rfl)) rfl) ?_
              refine RunL.call cal63 rfl (s63b (by omega) (by assumption) (by assumption) (by assumption) (by assumption) (by assumption)) rfl (fun vz4 Az4 hz4 => ?_)
              obtain ⟨z5, ⟨rfl, rfl⟩⟩ := hz4
              refine RunL.ok (OpOk.not rfl) rfl ?_
              refine RunL.nil ?_
              refine Run.condT rfl ?_
              refine Run.seq ?_
              refine Run.region ?_
              refine RunL.ok (OpOk.assign rfl) rfl ?_
              refine RunL.nil ?_
              refine Run.ret1 Try.func34 rfl rfl ?_
              refine ⟨rfl, .inl ⟨by first | decide | (dsimp only; decide), ?_⟩⟩
              exact ⟨_, (Eq.trans (frc (frl (frl (frl (frl (frl rfl))))) (frc (frl (frl (frl (frl (frl rfl))))) (frc (frl (frl (frl (frl (frl rfl))))) (frc (frl (frl (frl (frl (frl rfl))))) (frc (frl (frl (frl (frl (frl rfl))))) rfl))))) (congrArg (· * _) (congrArg (· * _) (congrArg (· * _) (congrArg (· * _) (congrArg (· * _) (asg (asg (asg (asg (asg as1)))))))))))⟩
          · obtain rfl : k = (ps.getD i default).2.2.2.length := by omega
            clear ih2
            rw [List.drop_length] at hka
            simp only [addsO] at hka
            rw [hka] at hp
            refine Run.seq ?_
            refine Run.region ?_
            refine RunL.ok (OpOk.asF (OpOk.lss rfl rfl) (by omega)) rfl ?_
            refine RunL.nil ?_
            refine Run.seq ?_
            refine Run.condF rfl ?_
            refine Run.exit rfl ?_
            refine Run.region ?_
            refine RunL.ok (OpOk.move rfl) rfl ?_
            refine RunL.ok (OpOk.loadS rfl rfl ti112 rfl Blk.pts.left.left rfl) rfl ?_
            refine RunL.putS setT107 rfl rfl rfl rfl ?_
            refine RunL.nil ?_
            refine Run.inBlock ?_
            refine Run.region ?_
            refine RunL.ok (OpOk.addN _ 1 rfl rfl rfl rfl (by omega)) rfl ?_
            refine RunL.ok (OpOk.move rfl) rfl ?_
            refine RunL.nil ?_
            refine Run.jump ((ih (i + 1, _, bk, fr ++ [((ps.getD i default).1, (ps.getD i default).2.1)]) ⟨by dsimp only; omega, hkl, hki, hp⟩ (by dsimp only; omega))) ⟨rfl, rfl, rfl, rfl, rfl, rfl, rfl, trivial⟩ (Grew.of (Eq.trans (frc rfl (frc rfl (frc (frl rfl) (frc (frl rfl) (frc (frl rfl) (frc (frl rfl) (frc (frl rfl) rfl))))))) (congrArg (· * _) (congrArg (· * _) (congrArg (· * _) (congrArg (· * _) (congrArg (· * _) (congrArg (· * _) (congrArg (· * _) (asg as1))))))))) (Grew.refl _))
  · obtain rfl : i = ps.length := by omega
    clear ih
    rw [List.drop_length] at hp
    simp only [postF] at hp
    rw [hp]
    refine Run.seq ?_
    refine Run.region ?_
    refine RunL.ok (OpOk.asF (OpOk.lss rfl rfl) (by omega)) rfl ?_
    refine RunL.nil ?_
    refine Run.seq ?_
    refine Run.condF rfl ?_
    refine Run.exit rfl ?_
    refine Run.seq ?_
    refine Run.seq ?_
    refine Run.region ?_
    refine RunL.ok (OpOk.move rfl) rfl ?_
    refine RunL.ok (OpOk.lenR rfl rfl rd.left.left.left.left.left.left.left.left rfl) rfl ?_
    refine RunL.ok (OpOk.move rfl) rfl ?_
    refine RunL.nil ?_
    refine Run.block ?_
    refine Run.jump ((Run.loopJ (X := Nat × Asn × Value × List Po × List (Int × Int)) (fun x => [(65, .int .i64 (x.1 : Int)), (64, .int .i64 (ps.length : Int)), (63, u), (5, vx3), (0, .pointer (some ⟨p, 0, none⟩))]) (fun x => A * x.2.1 * pts p (.cells #[av, .map (some mb), x.2.2.1] 109 (0, 0)) * own 3 1 av nb (I (bal)) * setA mb (x.2.2.2.2) * own 63 3 x.2.2.1 (x.2.2.2.1).length (Fl encT63 (x.2.2.2.1)) * ownsP (x.2.2.2.1) * own 3 1 vx3 nb (I bl)) (fun x => x.1 ≤ ps.length ∧ x.2.2.2.1.map ct = L.map ct ++ (ps.take x.1).map ct ∧ x.2.2.2.2 = ks ++ (ps.take x.1).map keyP) (fun x => ps.length - x.1) (0, _, pv, L, ks) ⟨Nat.zero_le _, by simp, by simp⟩ (fun x hx ih => ?_))) ⟨rfl, rfl, rfl, rfl, rfl, trivial⟩ (Grew.of (Eq.trans (frc (frl rfl) (frc (frl rfl) (frc (frl rfl) (frc (frl rfl) (frc (frl rfl) (frc (frl rfl) rfl)))))) (congrArg (· * _) (congrArg (· * _) (congrArg (· * _) (congrArg (· * _) (congrArg (· * _) (congrArg (· * _) (asg as1)))))))) (Grew.refl _))
    obtain ⟨i, J2, pv2, M, kk⟩ := x
    simp only at hx ih ⊢
    obtain ⟨hi, hM, hkk⟩ := hx
    have hMl : M.length = L.length + min i ps.length := by have := congrArg List.length hM; simpa using this
    rcases Nat.lt_or_ge i ps.length with hlt | hge
    · have rdi : Rd w0 A (ps.getD i default).2.2.1.1 2 (ps.getD i default).2.2.2.length (Fl encT97 (ps.getD i default).2.2.2) := al.get hlt
      have hmi := hm _ (getD_mem hlt)
      have hone : ∀ w ∈ (Value.agg (encT63 (ps.getD i default)).toArray).cells.toList, w.oneCell' = true := fun w hw => OneC.one (enc := encT63) _ w hw
      refine Run.seq ?_
      refine Run.region ?_
      refine RunL.ok (OpOk.asT (OpOk.lss rfl rfl) (by omega)) rfl ?_
      refine RunL.nil ?_
      refine Run.seq ?_
      refine Run.condT rfl ?_
      refine Run.skip ?_
      refine Run.seq ?_
      refine Run.block ?_
      refine Run.seq ?_
      refine Run.region ?_
      refine RunL.ok (OpOk.idxN rfl ti63 rfl rd.left.left.left.left.left.left.left rfl (by omega)) rfl ?_
      refine RunL.ok (OpOk.loadFl default rfl rfl ti63 rfl rd.left.left.left.left.left.left.left (fun _ => rfl) rfl (by omega)) rfl ?_
      refine RunL.alloc ti63 rfl (fun bz1 => ?_)
      refine RunL.storeAll ti63 rfl rfl rfl (by assumption) rfl rfl ?_
      refine RunL.nil ?_
      refine Run.seq ?_
      refine Run.know (fun w s => (s.conv (frl (frl (frl rfl)))).ownRd0) (fun rdz2 => ?_)
      refine Run.know (fun w s => (s.conv (frl rfl)).ownRd0) (fun rdz3 => ?_)
      (apply Run.drawD [9] (by rfl) (sep_emp _).symm; case hchk => kernel_rfl)
      refine Sd.quiet 0 _ _ rfl rfl rfl rfl rfl (QOp.ok (fun X => OpOk.move rfl)) ?_
      refine Sd.quiet 1 _ _ rfl rfl rfl rfl rfl (QOp.ok (fun X => OpOk.nilOk rfl)) ?_
      refine Sd.quiet 2 _ _ rfl rfl rfl rfl rfl (QOp.ok (fun X => OpOk.fieldAddr fld109_1 rfl)) ?_
      refine Sd.quiet 3 _ _ rfl rfl rfl rfl rfl (QOp.ok (fun X => OpOk.load rfl rfl rfl (Blk.out Blk.pts.left.left.left.left.left.left.left.left _ _ (by first | rfl | assumption)))) ?_
      refine Sd.quiet 4 _ _ rfl rfl rfl rfl rfl (QOp.ok (fun X => OpOk.fieldAddr fld63_0 rfl)) ?_
      refine Sd.quiet 5 _ _ rfl rfl rfl rfl rfl (QOp.ok (fun X => OpOk.load rfl rfl rfl (Blk.out Blk.pts.left.left _ _ (by first | rfl | assumption)))) ?_
      refine Sd.quiet 6 _ _ rfl rfl rfl rfl rfl (QOp.ok (fun X => OpOk.fieldAddr fld63_1 rfl)) ?_
      refine Sd.quiet 7 _ _ rfl rfl rfl rfl rfl (QOp.ok (fun X => OpOk.load rfl rfl rfl (Blk.out Blk.pts.left.left _ _ (by first | rfl | assumption)))) ?_
      refine Sd.quiet 8 _ _ rfl rfl rfl rfl rfl (QOp.ok (fun X => OpOk.build (cells := #[.int (IntKind.i64) ((ps.getD i default).fst), .int (IntKind.i64) ((ps.getD i default).snd.fst)]) rfl (fun w => run_build w 112 _ _ (by rfl)))) ?_
      (apply Sd.tail; case hall => kernel_rfl)
      refine RunL.mem (fl2 (sep_emp _) (sep_emp _)) ?_
      refine RunL.putS setT107 rfl rfl rfl (frl (frl (frl (frl rfl)))) ?_
      refine RunL.nil ?_
      (apply Run.drawD [11] (by rfl) (Eq.trans (frc (frl (frl (frl (frl rfl)))) rfl) rfl); case hchk => kernel_rfl)
      refine Sd.quiet 0 _ _ rfl rfl rfl rfl rfl (QOp.ok (fun X => OpOk.move rfl)) ?_
      refine Sd.quiet 1 _ _ rfl rfl rfl rfl rfl (QOp.ok (fun X => OpOk.move rfl)) ?_
      refine Sd.quiet 2 _ _ rfl rfl rfl rfl rfl (QOp.ok (fun X => OpOk.nilOk rfl)) ?_
      refine Sd.quiet 3 _ _ rfl rfl rfl rfl rfl (QOp.ok (fun X => OpOk.fieldAddr fld109_2 rfl)) ?_
      refine Sd.quiet 4 _ _ rfl rfl rfl rfl rfl (QOp.ok (fun X => OpOk.load rfl rfl rfl (Blk.out Blk.pts.left.left.left.left.left.left.left _ _ (by first | rfl | assumption)))) ?_
      refine Sd.quiet 5 _ _ rfl rfl rfl rfl rfl (QOp.ok (fun X => OpOk.loadS rfl rfl ti63 rfl Blk.pts.left.left.left rfl)) ?_
      refine Sd.quiet 9 _ _ rfl rfl rfl rfl rfl (QOp.ok (fun X => OpOk.nilOk rfl)) ?_
      refine Sd.quiet 10 _ _ rfl rfl rfl rfl rfl (QOp.ok (fun X => OpOk.fieldAddr fld109_2 rfl)) ?_
      (refine Sd.exec 6 rfl rfl rfl rfl rfl ?hrest (by rfl) (fun Xz4 Kz4 hKz4 => ?_); case hrest => kernel_rfl)
      refine RunL.mem (fl2 (sep_emp _) rfl) ?_
      refine RunL.know (fun w s => (s.conv (frl (frl (frl (frl (frl rfl)))))).ownsP0) (fun alz5 => ?_)
      refine RunL.call cal64 rfl (s64 rdi.left.left.left.left.left.left.left.left.left (by assumption)) rfl (fun vz6 Az6 hz6 => ?_)
      obtain ⟨z7, ⟨z8, ⟨rfl, rfl⟩⟩⟩ := hz6
      refine RunL.know (fun w s => (s.conv rfl).ownRd0) (fun rdz9 => ?_)
      refine Sd.ret hKz4 (Eq.trans (frc (frl (frl rfl)) rfl) (gp2 rfl (asg rfl))) ⟨_, (emp_sep _).symm⟩ ?_
      (refine Sd.exec 7 rfl rfl rfl rfl rfl ?hrest (by rfl) (fun Xz10 Kz10 hKz10 => ?_); case hrest => kernel_rfl)
      refine RunL.mem (fl2 (flS rfl) rfl) ?_
      refine RunL.litFl (enc := encT63) [((ps.getD i default).fst, (ps.getD i default).snd.fst, z7, (ps.getD i default).snd.snd.snd)] rfl ti63 rfl (fun _ => rfl) rfl rfl (by decide) (by decide) rfl (fun vz11 rdz11 => ?_)
      refine RunL.know (fun w s => (s.conv rfl).ownRd0) (fun rdz12 => ?_)
      refine Sd.ret hKz10 (Eq.trans (frc (frl rfl) rfl) (gp2 rfl (asg (asg rfl)))) ⟨_, rfl⟩ ?_
      (refine Sd.exec 8 rfl rfl rfl rfl rfl ?hrest (by rfl) (fun Xz13 Kz13 hKz13 => ?_); case hrest => kernel_rfl)
      refine RunL.mem (fl2 (flS (flS rfl)) rfl) ?_
      refine RunL.appendF rfl ti63 rfl rfl rfl rfl (Rd.right rdz12).left rfl (by decide) (by omega) (by simp only [maxLen]; omega) rfl (fun vz14 rdz14 => ?_)
      refine RunL.know (fun w s => (s.conv rfl).ownRd0) (fun rdz15 => ?_)
      refine Sd.ret hKz13 (Eq.trans rfl (gp2 (sep_emp _).symm (asg (asg (asg rfl))))) ⟨_, rfl⟩ ?_
      (apply Sd.tail; case hall => kernel_rfl)
      refine RunL.mem (fl2 (flS (flS (flS rfl))) (sep_emp _)) ?_
      refine RunL.store ti50 rfl rfl (Rd.one rdz15) (frl (frl (frl (frl (frl (frl (frl (frl (frl rfl))))))))) (by exact Nat.le_of_ble_eq_true rfl) (.inl rfl) ?_
      refine RunL.nil ?_
      refine Run.inBlock ?_
      refine Run.region ?_
      refine RunL.ok (OpOk.addN _ 1 rfl rfl rfl rfl (by omega)) rfl ?_
      refine RunL.ok (OpOk.move rfl) rfl ?_
      refine RunL.nil ?_
      rw [show M.length + 1 = (M ++ [((ps.getD i default).1, (ps.getD i default).2.1, z7, (ps.getD i default).2.2.2)]).length by simp]
      refine Run.jump ((ih (i + 1, _, _, M ++ [((ps.getD i default).1, (ps.getD i default).2.1, z7, (ps.getD i default).2.2.2)], kk ++ [((ps.getD i default).1, (ps.getD i default).2.1)]) ⟨by dsimp only; omega, by dsimp only; rw [take_next hlt, List.map_append, List.map_append, hM]; simp [ct], by dsimp only; rw [take_next hlt, List.map_append, hkk]; simp [keyP]⟩ (by dsimp only; omega))) ⟨rfl, rfl, rfl, rfl, rfl, trivial⟩ (by simp only [ownsP_snoc, ← sep_assoc]; exact (Grew.of (Eq.trans (frc (frl (frl (frl (frl (frl (frl (frl rfl))))))) (frc (frl (frl (frl rfl))) (frc (frl (frl (frl (frl (frl (frl rfl)))))) (frc (frl rfl) (frc (frl (frl (frl rfl))) (frc (frl (frl (frl (frl rfl)))) (frc rfl rfl))))))) (congrArg (· * _) (congrArg (· * _) (congrArg (· * _) (congrArg (· * _) (congrArg (· * _) (congrArg (· * _) (congrArg (· * _) (asg (asg (asg as1))))))))))) (Grew.refl _)))
    · obtain rfl : i = ps.length := by omega
      clear ih
      rw [List.take_length] at hM hkk
      subst hkk
      refine Run.seq ?_
      refine Run.region ?_
      refine RunL.ok (OpOk.asF (OpOk.lss rfl rfl) (by omega)) rfl ?_
      refine RunL.nil ?_
      refine Run.seq ?_
      refine Run.condF rfl ?_
      refine Run.exit rfl ?_
      refine Run.seq ?_
      refine Run.region ?_
      refine RunL.ok (OpOk.move rfl) rfl ?_
      refine RunL.ok (OpOk.move rfl) rfl ?_
      refine RunL.ok (OpOk.nilOk rfl) rfl ?_
      refine RunL.ok (OpOk.fieldAddr fld109_0 rfl) rfl ?_
      refine RunL.know (fun w s => (s.conv rfl).ownRd0) (fun rdz1 => ?_)
      refine RunL.store ti106 rfl rfl (Rd.one rdz1) (frl (frl (frl (frl (frl rfl))))) (by exact Nat.le_of_ble_eq_true rfl) (.inl rfl) ?_
      refine RunL.nil ?_
      refine Run.seq ?_
      refine Run.region ?_
      refine RunL.ok (OpOk.assign rfl) rfl ?_
      refine RunL.nil ?_
      refine Run.ret1 Try.func34 rfl rfl ?_
      refine ⟨rfl, .inr ⟨by first | rfl | trivial, vx3, pv2, M, hM, ?_⟩⟩
      exact ⟨_, (Eq.trans (frc (frl (frl rfl)) (frc (frl (frl rfl)) (frc (frl (frl rfl)) (frc (frl rfl) (frc rfl rfl))))) (congrArg (· * _) (congrArg (· * _) (congrArg (· * _) (congrArg (· * _) (congrArg (· * _) (asg as1)))))))⟩
end
end Go.Proofs.Ytegbfnibjgpbpaa
