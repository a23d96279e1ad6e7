/- The reference's Get, walked. -/
import Derived.Test.YtlheianbmpgefaaTvF
namespace Go.Proofs.Ytlheianbmpgefaa
open Go Go.Proofs
set_option maxRecDepth 100000
set_option maxHeartbeats 4000000
set_option linter.unusedSimpArgs false
def CGet (w0 : World) (n : Nat) : Prop := ∀ (A : Asn) (u : Value) (b : List UInt8) (d : Nat) (f : Te) (e : Int), b.length ≤ n → d ≤ 4 → Rd w0 A u 1 b.length (B b) → b.length ≤ 140737488351232 → get b d 0 = (f, e) →
  Spec Try.prog w0 33 [u, .int .i64 (d : Int)] A (fun v' A' => ∃ v ys J, v' = .tuple #[v, .int .i64 e] ∧ strL ys = f ∧ A' = A * J * own 66 3 v ys.length (Fl encT66 ys) * ownsE ys)
theorem grown0 {A J : Asn} : ∃ X, A * J = A * X := ⟨J, rfl⟩
theorem grown1 {A M P : Asn} (h : ∃ X, M = A * X) : ∃ X, M * P = A * X := by
  obtain ⟨X, rfl⟩ := h
  exact ⟨X * P, sep_assoc _ _ _⟩
theorem err_leaf {A M : Asn} {e : Int} (h : ∃ X, M = A * X) : ∃ v ys J, Value.tuple #[.slice none 0 0, .int .i64 e] = .tuple #[v, .int .i64 e] ∧ strL ys = Te.nil ∧ M * own 66 3 (.slice none 0 0) 0 (Fl encT66 ([] : List Ee)) = A * J * own 66 3 v ys.length (Fl encT66 ys) * ownsE ys := by
  obtain ⟨X, rfl⟩ := h
  exact ⟨.slice none 0 0, [], X, rfl, rfl, by rw [ownsE_nil, sep_emp]; rfl⟩
section
variable {w0 : World} {A : Asn} {n : Nat}
theorem s49a {u : Value} {m : Nat} {b : List UInt8} {f : Te} {e : Int} (rd : Rd w0 A u 1 m (B b)) (hg : get b 0 0 = (f, e)) (hb : b.length ≤ 140737488351232) :
    Spec Try.prog w0 49 [u, .int .i64 0] A (fun v' A' => ∃ v ys J, v' = .tuple #[v, .int .i64 e] ∧ strL ys = f ∧ A' = A * J * own 66 3 v ys.length (Fl encT66 ys) * ownsE ys) :=
  s49 (d := 0) rd hg (getAll _) (Nat.le_refl _) (by decide) hb
theorem s32 {u : Value} {m : Nat} {b : List UInt8} {f : Te} {e : Int} (rd : Rd w0 A u 1 m (B b)) (hg : get b 0 0 = (f, e)) (hb : b.length ≤ 140737488351232) :
    Spec Try.prog w0 32 [u] A (fun v' A' => ∃ v ys J, v' = .tuple #[v, .int .i64 e] ∧ strL ys = f ∧ A' = A * J * own 66 3 v ys.length (Fl encT66 ys) * ownsE ys) := by
  refine Spec.of_run [(0, u)] Try.func32 rfl (Nat.le_of_ble_eq_true rfl) (by repeat (first | exact trivial | refine ⟨rfl, ?_⟩)) ?_
  refine Run.seq ?_
  refine Run.region ?_
  refine RunL.ok (OpOk.assign rfl) rfl ?_
  refine RunL.ok (OpOk.assign rfl) rfl ?_
  refine RunL.nil ?_
  refine Run.seq ?_
  refine Run.region ?_
  refine RunL.ok (OpOk.move rfl) rfl ?_
  refine RunL.call cal49 rfl (s49a rd (by assumption) (by assumption)) rfl (fun vx1 Ax1 hx1 => ?_)
  obtain ⟨x2, ⟨x3, ⟨x4, ⟨rfl, ⟨x5, rfl⟩⟩⟩⟩⟩ := hx1
  refine RunL.ok (OpOk.ext20 rfl) rfl ?_
  refine RunL.ok (OpOk.ext21 rfl) rfl ?_
  refine RunL.ok (OpOk.assign rfl) rfl ?_
  refine RunL.ok (OpOk.assign rfl) rfl ?_
  refine RunL.nil ?_
  refine Run.ret2 Try.func32 rfl rfl rfl ?_
  exact ⟨x2, x3, x4, rfl, x5, rfl⟩
theorem s33 {u : Value} {m d : Nat} {b : List UInt8} {f : Te} {e : Int} (rd : Rd w0 A u 1 m (B b)) (hg : get b d 0 = (f, e)) (hrec : CGet w0 n) (hn : b.length ≤ n) (hd : d ≤ 4) (hb : b.length ≤ 140737488351232) :
    Spec Try.prog w0 33 [u, .int .i64 (d : Int)] A (fun v' A' => ∃ v ys J, v' = .tuple #[v, .int .i64 e] ∧ strL ys = f ∧ A' = A * J * own 66 3 v ys.length (Fl encT66 ys) * ownsE ys) := by
  have hl : b.length = m := by simpa [B] using rd.len
  subst hl
  exact hrec A u b d f e hn hd rd hb hg
theorem refGetAll : ∀ n, CGet w0 n := fun n => by
  induction n using Nat.strongRecOn with
  | ind n hall =>
  intro A u b d f e hsz hd rd hb0 hg0
  refine Spec.of_run [(0, u), (1, .int .i64 (d : Int))] Try.func33 rfl (Nat.le_of_ble_eq_true rfl) (by repeat (first | exact trivial | refine ⟨rfl, ?_⟩)) ?_
  refine Run.seq ?_
  refine Run.region ?_
  refine RunL.ok (OpOk.assign rfl) rfl ?_
  refine RunL.ok (OpOk.assign rfl) rfl ?_
  refine RunL.nil ?_
  refine Run.seq ?_
  refine Run.region ?_
  refine RunL.ok (OpOk.assign rfl) rfl ?_
  refine RunL.nil ?_
  refine Run.seq ?_
  refine Run.region ?_
  refine RunL.ok (OpOk.assign rfl) rfl ?_
  refine RunL.nil ?_
  refine Run.seq ?_
  refine Run.block ?_
  refine Run.ent (Ent.ownNil' _ 66 3 (Fl encT66 ([] : List Ee)) rfl) ?_
  refine Run.mem (sep_emp _).symm ?_
  rw [show emp = ownsE [] from rfl]
  refine Run.jump ((Run.loopJ (X := Nat × Asn × Value × List Ee × Int) (fun x => [(7, .int .i64 (x.1 : Int)), (0, u), (1, .int .i64 (d : Int)), (6, x.2.2.1)]) (fun x => A * x.2.1 * own 66 3 x.2.2.1 x.2.2.2.1.length (Fl encT66 x.2.2.2.1) * ownsE x.2.2.2.1) (fun x => x.1 ≤ b.length ∧ get b d 0 = appR (strL x.2.2.2.1) (get (b.drop x.1) d x.2.2.2.2) ∧ (x.2.2.2.1.length : Int) ≤ x.2.2.2.2 ∧ x.2.2.2.2 ≤ 255 ∧ ((x.2.2.2.1.length = 0 ∧ x.2.2.2.2 = 0) ∨ (0 < x.2.2.2.1.length ∧ (x.2.2.2.1.getD (x.2.2.2.1.length - 1) default).1 = x.2.2.2.2 ∧ 0 < x.2.2.2.2))) (fun x => b.length - x.1) (0, _, .slice none 0 0, [], 0) ⟨Nat.zero_le _, (appR_nil _ (get_fst _ _ _ _)).symm, Int.le_refl _, by dsimp only; omega, .inl ⟨rfl, rfl⟩⟩ (fun x hx ih => ?_))) ⟨rfl, rfl, rfl, rfl, trivial⟩ (Grew.of (Eq.trans (frc rfl (frc rfl rfl)) (congrArg (· * _) (congrArg (· * _) as0))) (Grew.refl _))
  obtain ⟨at_, J, v6, ys, last⟩ := x
  simp only at hx ih ⊢
  obtain ⟨hat, hdr, hyl, hl1, hla⟩ := hx
  obtain ⟨o2, hoe2⟩ : ∃ o, ys.getD (ys.length - 1) default = o := ⟨_, rfl⟩
  rw [hoe2] at hla
  obtain ⟨t2, bv2, bs2, ev2, f2'⟩ := o2
  dsimp only at hla
  rw [hg0] at hdr
  cases hb : b.drop at_ with
  | nil =>
    rw [hb, get_nil, appR, if_pos rfl, appT_nil] at hdr
    have hbz : b.length = at_ := by
      have := congrArg List.length hb
      rw [List.length_drop, List.length_nil] at this
      omega
    clear ih
    obtain ⟨rfl, rfl⟩ := Prod.mk.inj hdr
    refine Run.seq ?_
    refine Run.seq ?_
    refine Run.region ?_
    refine RunL.ok (OpOk.move rfl) rfl ?_
    refine RunL.ok (OpOk.move rfl) rfl ?_
    refine RunL.ok (OpOk.lenR rfl rfl rd.left.left.left rfl) rfl ?_
    refine RunL.ok (OpOk.asF (OpOk.lss rfl rfl) (by omega)) rfl ?_
    refine RunL.nil ?_
    refine Run.condF rfl ?_
    refine Run.exit rfl ?_
    refine Run.seq ?_
    refine Run.region ?_
    refine RunL.ok (OpOk.move rfl) rfl ?_
    refine RunL.ok (OpOk.assign rfl) rfl ?_
    refine RunL.ok (OpOk.assign rfl) rfl ?_
    refine RunL.nil ?_
    refine Run.ret2 Try.func33 rfl rfl rfl ?_
    exact ⟨_, _, _, rfl, rfl, (congrArg (· * _) (congrArg (· * _) as1))⟩
  | cons t b1 =>
    have hb1 : b.length = at_ + b1.length + 1 := by
      have := congrArg List.length hb
      rw [List.length_drop, List.length_cons] at this
      omega
    have rw_t : b.getD at_ 0 = t := by
      have := congrArg (fun l => l.getD 0 (0 : UInt8)) hb
      simpa [List.getD_eq_getElem?_getD] using this
    have ht := t.toNat_lt
    rw [hb] at hdr
    rcases Decidable.em (d = 4) with h4 | h4
    · subst h4
      rw [get_deep (Nat.le_refl _), appR_err _ _ (by decide)] at hdr
      refine Run.seq ?_
      refine Run.seq ?_
      refine Run.region ?_
      refine RunL.ok (OpOk.move rfl) rfl ?_
      refine RunL.ok (OpOk.move rfl) rfl ?_
      refine RunL.ok (OpOk.lenR rfl rfl rd.left.left.left rfl) rfl ?_
      refine RunL.ok (OpOk.asT (OpOk.lss rfl rfl) (by omega)) rfl ?_
      refine RunL.nil ?_
      refine Run.condT rfl ?_
      refine Run.skip ?_
      refine Run.block ?_
      refine Run.seq ?_
      refine Run.region ?_
      refine RunL.alloc ti66 rfl (fun by1 => ?_)
      refine RunL.nil ?_
      refine Run.seq ?_
      refine Run.region ?_
      refine RunL.ok (OpOk.move rfl) rfl ?_
      refine RunL.ok (OpOk.move rfl) rfl ?_
      refine RunL.ok (OpOk.idx1N rfl ti5 rfl rd.left.left.left.left rfl (by omega)) rfl ?_
      refine RunL.ok (OpOk.load rfl rfl rfl (Rd.getBE (by assumption) rd.left.left.left.left (by omega))) rfl ?_
      refine RunL.ok (OpOk.convInt rfl rfl rfl (wrapI (by omega) (by omega))) rfl ?_
      refine RunL.ok (OpOk.fieldAddr fld66_0 rfl) rfl ?_
      refine RunL.store ti3 rfl rfl rfl rfl (by exact Nat.le_of_ble_eq_true rfl) (.inl rfl) ?_
      refine RunL.nil ?_
      refine Run.seq ?_
      refine Run.seq ?_
      refine Run.region ?_
      refine RunL.ok (OpOk.move rfl) rfl ?_
      refine RunL.ok (OpOk.asT (OpOk.gtr rfl rfl) (by omega)) rfl ?_
      refine RunL.nil ?_
      refine Run.condT rfl ?_
      refine Run.seq ?_
      refine Run.region ?_
      refine RunL.ok (OpOk.assign rfl) rfl ?_
      refine RunL.ok (OpOk.assign rfl) rfl ?_
      refine RunL.nil ?_
      refine Run.ent (Ent.ownNil' _ 66 3 (Fl encT66 []) rfl) ?_
      refine Run.ret2 Try.func33 rfl rfl rfl ?_
      obtain ⟨rfl, rfl⟩ := Prod.mk.inj hdr
      exact err_leaf (by repeat (first | exact grown0 | refine grown1 ?_))
    · rcases Decidable.em ((t.toNat : Int) ≤ last) with h5 | h5
      · rw [get_form (by omega) h5, appR_err _ _ (by decide)] at hdr
        rcases hla with ⟨hla1, hla2⟩ | ⟨hla1, hla2, hla3⟩
        · refine Run.seq ?_
          refine Run.seq ?_
          refine Run.region ?_
          refine RunL.ok (OpOk.move rfl) rfl ?_
          refine RunL.ok (OpOk.move rfl) rfl ?_
          refine RunL.ok (OpOk.lenR rfl rfl rd.left.left.left rfl) rfl ?_
          refine RunL.ok (OpOk.asT (OpOk.lss rfl rfl) (by omega)) rfl ?_
          refine RunL.nil ?_
          refine Run.condT rfl ?_
          refine Run.skip ?_
          refine Run.block ?_
          refine Run.seq ?_
          refine Run.region ?_
          refine RunL.alloc ti66 rfl (fun by1 => ?_)
          refine RunL.nil ?_
          refine Run.seq ?_
          refine Run.region ?_
          refine RunL.ok (OpOk.move rfl) rfl ?_
          refine RunL.ok (OpOk.move rfl) rfl ?_
          refine RunL.ok (OpOk.idx1N rfl ti5 rfl rd.left.left.left.left rfl (by omega)) rfl ?_
          refine RunL.ok (OpOk.load rfl rfl rfl (Rd.getBE (by assumption) rd.left.left.left.left (by omega))) rfl ?_
          refine RunL.ok (OpOk.convInt rfl rfl rfl (wrapI (by omega) (by omega))) rfl ?_
          refine RunL.ok (OpOk.fieldAddr fld66_0 rfl) rfl ?_
          refine RunL.store ti3 rfl rfl rfl rfl (by exact Nat.le_of_ble_eq_true rfl) (.inl rfl) ?_
          refine RunL.nil ?_
          refine Run.seq ?_
          refine Run.seq ?_
          refine Run.region ?_
          refine RunL.ok (OpOk.move rfl) rfl ?_
          refine RunL.ok (OpOk.asF (OpOk.gtr rfl rfl) (by omega)) rfl ?_
          refine RunL.nil ?_
          refine Run.condF rfl ?_
          refine Run.skip ?_
          refine Run.seq ?_
          refine Run.seq ?_
          refine Run.know (fun w s => (s.conv (frl (frl rfl))).ownRd0) (fun rdy2 => ?_)
          (apply Run.drawD [] (by rfl) (sep_emp _).symm; case hchk => kernel_rfl)
          refine Sd.quiet 0 _ _ rfl rfl rfl rfl rfl (QOp.ok (fun X => OpOk.fieldAddr fld66_0 rfl)) ?_
          refine Sd.quiet 1 _ _ rfl rfl rfl rfl rfl (QOp.ok (fun X => OpOk.load rfl rfl rfl (Blk.out Blk.pts.left.left _ _ (by first | rfl | assumption)))) ?_
          refine Sd.quiet 2 _ _ rfl rfl rfl rfl rfl (QOp.ok (fun X => OpOk.asT (OpOk.eql rfl rfl) (by omega))) ?_
          refine Sd.quiet 3 _ _ rfl rfl rfl rfl rfl (QOp.ok (fun X => OpOk.move rfl)) ?_
          refine Sd.skip 4 _ rfl rfl rfl rfl rfl ?_
          refine Sd.skip 5 _ rfl rfl rfl rfl rfl ?_
          refine Sd.skip 6 _ rfl rfl rfl rfl rfl ?_
          refine Sd.skip 7 _ rfl rfl rfl rfl rfl ?_
          refine Sd.skip 8 _ rfl rfl rfl rfl rfl ?_
          refine Sd.skip 9 _ rfl rfl rfl rfl rfl ?_
          refine Sd.skip 10 _ rfl rfl rfl rfl rfl ?_
          refine Sd.skip 11 _ rfl rfl rfl rfl rfl ?_
          refine Sd.skip 12 _ rfl rfl rfl rfl rfl ?_
          refine Sd.skip 13 _ rfl rfl rfl rfl rfl ?_
          refine Sd.skip 14 _ rfl rfl rfl rfl rfl ?_
          refine Sd.skip 15 _ rfl rfl rfl rfl rfl ?_
          refine Sd.skip 16 _ rfl rfl rfl rfl rfl ?_
          refine Sd.skip 17 _ rfl rfl rfl rfl rfl ?_
          refine Sd.skip 18 _ rfl rfl rfl rfl rfl ?_
          refine Sd.quiet 19 _ _ rfl rfl rfl rfl rfl (QOp.ok (fun X => OpOk.pickT rfl rfl)) ?_
          (apply Sd.tail; case hall => kernel_rfl)
          refine RunL.mem (fl2 (sep_emp _) (sep_emp _)) ?_
          refine RunL.nil ?_
          refine Run.condT rfl ?_
          refine Run.seq ?_
          refine Run.region ?_
          refine RunL.ok (OpOk.assign rfl) rfl ?_
          refine RunL.ok (OpOk.assign rfl) rfl ?_
          refine RunL.nil ?_
          refine Run.ent (Ent.ownNil' _ 66 3 (Fl encT66 []) rfl) ?_
          refine Run.ret2 Try.func33 rfl rfl rfl ?_
          obtain ⟨rfl, rfl⟩ := Prod.mk.inj hdr
          exact err_leaf (by repeat (first | exact grown0 | refine grown1 ?_))
        · refine Run.seq ?_
          refine Run.seq ?_
          refine Run.region ?_
          refine RunL.ok (OpOk.move rfl) rfl ?_
          refine RunL.ok (OpOk.move rfl) rfl ?_
          refine RunL.ok (OpOk.lenR rfl rfl rd.left.left.left rfl) rfl ?_
          refine RunL.ok (OpOk.asT (OpOk.lss rfl rfl) (by omega)) rfl ?_
          refine RunL.nil ?_
          refine Run.condT rfl ?_
          refine Run.skip ?_
          refine Run.block ?_
          refine Run.seq ?_
          refine Run.region ?_
          refine RunL.alloc ti66 rfl (fun by1 => ?_)
          refine RunL.nil ?_
          refine Run.seq ?_
          refine Run.region ?_
          refine RunL.ok (OpOk.move rfl) rfl ?_
          refine RunL.ok (OpOk.move rfl) rfl ?_
          refine RunL.ok (OpOk.idx1N rfl ti5 rfl rd.left.left.left.left rfl (by omega)) rfl ?_
          refine RunL.ok (OpOk.load rfl rfl rfl (Rd.getBE (by assumption) rd.left.left.left.left (by omega))) rfl ?_
          refine RunL.ok (OpOk.convInt rfl rfl rfl (wrapI (by omega) (by omega))) rfl ?_
          refine RunL.ok (OpOk.fieldAddr fld66_0 rfl) rfl ?_
          refine RunL.store ti3 rfl rfl rfl rfl (by exact Nat.le_of_ble_eq_true rfl) (.inl rfl) ?_
          refine RunL.nil ?_
          refine Run.seq ?_
          refine Run.seq ?_
          refine Run.region ?_
          refine RunL.ok (OpOk.move rfl) rfl ?_
          refine RunL.ok (OpOk.asF (OpOk.gtr rfl rfl) (by omega)) rfl ?_
          refine RunL.nil ?_
          refine Run.condF rfl ?_
          refine Run.skip ?_
          refine Run.seq ?_
          refine Run.seq ?_
          refine Run.know (fun w s => (s.conv (frl (frl rfl))).ownRd0) (fun rdy2 => ?_)
          (apply Run.drawD [] (by rfl) (sep_emp _).symm; case hchk => kernel_rfl)
          refine Sd.quiet 0 _ _ rfl rfl rfl rfl rfl (QOp.ok (fun X => OpOk.fieldAddr fld66_0 rfl)) ?_
          refine Sd.quiet 1 _ _ rfl rfl rfl rfl rfl (QOp.ok (fun X => OpOk.load rfl rfl rfl (Blk.out Blk.pts.left.left _ _ (by first | rfl | assumption)))) ?_
          refine Sd.quiet 2 _ _ rfl rfl rfl rfl rfl (QOp.ok (fun X => OpOk.eql rfl rfl)) ?_
          refine Sd.quiet 3 _ _ rfl rfl rfl rfl rfl (QOp.ok (fun X => OpOk.move rfl)) ?_
          refine Sd.splitD (fun y3 => ?_) (fun y3 => ?_)
          · refine Sd.skip 4 _ rfl rfl rfl rfl rfl ?_
            refine Sd.skip 5 _ rfl rfl rfl rfl rfl ?_
            refine Sd.skip 6 _ rfl rfl rfl rfl rfl ?_
            refine Sd.skip 7 _ rfl rfl rfl rfl rfl ?_
            refine Sd.skip 8 _ rfl rfl rfl rfl rfl ?_
            refine Sd.skip 9 _ rfl rfl rfl rfl rfl ?_
            refine Sd.skip 10 _ rfl rfl rfl rfl rfl ?_
            refine Sd.skip 11 _ rfl rfl rfl rfl rfl ?_
            refine Sd.skip 12 _ rfl rfl rfl rfl rfl ?_
            refine Sd.skip 13 _ rfl rfl rfl rfl rfl ?_
            refine Sd.skip 14 _ rfl rfl rfl rfl rfl ?_
            refine Sd.skip 15 _ rfl rfl rfl rfl rfl ?_
            refine Sd.skip 16 _ rfl rfl rfl rfl rfl ?_
            refine Sd.skip 17 _ rfl rfl rfl rfl rfl ?_
            refine Sd.skip 18 _ rfl rfl rfl rfl rfl ?_
            refine Sd.quiet 19 _ _ rfl rfl rfl rfl rfl (QOp.ok (fun X => OpOk.pickT rfl rfl)) ?_
            (apply Sd.tail; case hall => kernel_rfl)
            refine RunL.mem (fl2 (sep_emp _) (sep_emp _)) ?_
            refine RunL.nil ?_
            refine Run.condT rfl ?_
            refine Run.seq ?_
            refine Run.region ?_
            refine RunL.ok (OpOk.assign rfl) rfl ?_
            refine RunL.ok (OpOk.assign rfl) rfl ?_
            refine RunL.nil ?_
            refine Run.ent (Ent.ownNil' _ 66 3 (Fl encT66 []) rfl) ?_
            refine Run.ret2 Try.func33 rfl rfl rfl ?_
            obtain ⟨rfl, rfl⟩ := Prod.mk.inj hdr
            exact err_leaf (by repeat (first | exact grown0 | refine grown1 ?_))
          refine Sd.quiet 4 _ _ rfl rfl rfl rfl rfl (QOp.ok (fun X => OpOk.move rfl)) ?_
          refine Sd.quiet 5 _ _ rfl rfl rfl rfl rfl (QOp.ok (fun X => OpOk.lenR rfl rfl (Rd.right rdy2).left.left.left.left rfl)) ?_
          refine Sd.quiet 6 _ _ rfl rfl rfl rfl rfl (QOp.ok (fun X => OpOk.asT (OpOk.gtr rfl rfl) (by omega))) ?_
          refine Sd.quiet 7 _ _ rfl rfl rfl rfl rfl (QOp.ok (fun X => OpOk.move rfl)) ?_
          refine Sd.quiet 8 _ _ rfl rfl rfl rfl rfl (QOp.ok (fun X => OpOk.move rfl)) ?_
          refine Sd.quiet 9 _ _ rfl rfl rfl rfl rfl (QOp.ok (fun X => OpOk.move rfl)) ?_
          refine Sd.quiet 10 _ _ rfl rfl rfl rfl rfl (QOp.ok (fun X => OpOk.lenR rfl rfl (Rd.right rdy2).left.left.left.left rfl)) ?_
          refine Sd.quiet 11 _ _ rfl rfl rfl rfl rfl (QOp.ok (fun X => OpOk.subN _ 1 rfl rfl rfl rfl (by omega) (by omega))) ?_
          refine Sd.quiet 12 _ _ rfl rfl rfl rfl rfl (QOp.ok (fun X => OpOk.idxN rfl ti66 rfl (Rd.right rdy2).left.left.left.left rfl (by omega))) ?_
          refine Sd.quiet 13 _ _ rfl rfl rfl rfl rfl (QOp.ok (fun X => OpOk.fieldAddrA fld66_0 rfl)) ?_
          refine Sd.quiet 14 _ _ rfl rfl rfl rfl rfl (QOp.ok (fun X => OpOk.loadFl1E hoe2 rfl rfl rfl (Rd.right rdy2).left.left.left.left (fun _ => rfl) rfl (by omega) rfl)) ?_
          refine Sd.quiet 15 _ _ rfl rfl rfl rfl rfl (QOp.ok (fun X => OpOk.fieldAddr fld66_0 rfl)) ?_
          refine Sd.quiet 16 _ _ rfl rfl rfl rfl rfl (QOp.ok (fun X => OpOk.load rfl rfl rfl (Blk.out Blk.pts.left.left _ _ (by first | rfl | assumption)))) ?_
          refine Sd.quiet 17 _ _ rfl rfl rfl rfl rfl (QOp.ok (fun X => OpOk.asT (OpOk.geq rfl rfl) (by omega))) ?_
          refine Sd.quiet 18 _ _ rfl rfl rfl rfl rfl (QOp.ok (fun X => OpOk.pickT rfl rfl)) ?_
          refine Sd.quiet 19 _ _ rfl rfl rfl rfl rfl (QOp.ok (fun X => OpOk.pickF rfl rfl)) ?_
          (apply Sd.tail; case hall => kernel_rfl)
          refine RunL.mem (fl2 (sep_emp _) (sep_emp _)) ?_
          refine RunL.nil ?_
          refine Run.condT rfl ?_
          refine Run.seq ?_
          refine Run.region ?_
          refine RunL.ok (OpOk.assign rfl) rfl ?_
          refine RunL.ok (OpOk.assign rfl) rfl ?_
          refine RunL.nil ?_
          refine Run.ent (Ent.ownNil' _ 66 3 (Fl encT66 []) rfl) ?_
          refine Run.ret2 Try.func33 rfl rfl rfl ?_
          obtain ⟨rfl, rfl⟩ := Prod.mk.inj hdr
          exact err_leaf (by repeat (first | exact grown0 | refine grown1 ?_))
      · cases hbb : b1 with
        | nil =>
          rw [hbb, get_short1 (by omega) (by omega), appR_err _ _ (by decide)] at hdr
          have hbz : b.length = at_ + 1 := by rw [hb1, hbb]; rfl
          refine Run.seq ?_
          refine Run.seq ?_
          refine Run.region ?_
          refine RunL.ok (OpOk.move rfl) rfl ?_
          refine RunL.ok (OpOk.move rfl) rfl ?_
          refine RunL.ok (OpOk.lenR rfl rfl rd.left.left.left rfl) rfl ?_
          refine RunL.ok (OpOk.asT (OpOk.lss rfl rfl) (by omega)) rfl ?_
          refine RunL.nil ?_
          refine Run.condT rfl ?_
          refine Run.skip ?_
          refine Run.block ?_
          refine Run.seq ?_
          refine Run.region ?_
          refine RunL.alloc ti66 rfl (fun by1 => ?_)
          refine RunL.nil ?_
          refine Run.seq ?_
          refine Run.region ?_
          refine RunL.ok (OpOk.move rfl) rfl ?_
          refine RunL.ok (OpOk.move rfl) rfl ?_
          refine RunL.ok (OpOk.idx1N rfl ti5 rfl rd.left.left.left.left rfl (by omega)) rfl ?_
          refine RunL.ok (OpOk.load rfl rfl rfl (Rd.getBE (by assumption) rd.left.left.left.left (by omega))) rfl ?_
          refine RunL.ok (OpOk.convInt rfl rfl rfl (wrapI (by omega) (by omega))) rfl ?_
          refine RunL.ok (OpOk.fieldAddr fld66_0 rfl) rfl ?_
          refine RunL.store ti3 rfl rfl rfl rfl (by exact Nat.le_of_ble_eq_true rfl) (.inl rfl) ?_
          refine RunL.nil ?_
          refine Run.seq ?_
          refine Run.seq ?_
          refine Run.region ?_
          refine RunL.ok (OpOk.move rfl) rfl ?_
          refine RunL.ok (OpOk.asF (OpOk.gtr rfl rfl) (by omega)) rfl ?_
          refine RunL.nil ?_
          refine Run.condF rfl ?_
          refine Run.skip ?_
          refine Run.seq ?_
          refine Run.seq ?_
          refine Run.know (fun w s => (s.conv (frl (frl rfl))).ownRd0) (fun rdy2 => ?_)
          (apply Run.drawD [] (by rfl) (sep_emp _).symm; case hchk => kernel_rfl)
          refine Sd.quiet 0 _ _ rfl rfl rfl rfl rfl (QOp.ok (fun X => OpOk.fieldAddr fld66_0 rfl)) ?_
          refine Sd.quiet 1 _ _ rfl rfl rfl rfl rfl (QOp.ok (fun X => OpOk.load rfl rfl rfl (Blk.out Blk.pts.left.left _ _ (by first | rfl | assumption)))) ?_
          refine Sd.quiet 2 _ _ rfl rfl rfl rfl rfl (QOp.ok (fun X => OpOk.asF (OpOk.eql rfl rfl) (by omega))) ?_
          refine Sd.quiet 3 _ _ rfl rfl rfl rfl rfl (QOp.ok (fun X => OpOk.move rfl)) ?_
          refine Sd.quiet 4 _ _ rfl rfl rfl rfl rfl (QOp.ok (fun X => OpOk.move rfl)) ?_
          refine Sd.quiet 5 _ _ rfl rfl rfl rfl rfl (QOp.ok (fun X => OpOk.lenR rfl rfl (Rd.right rdy2).left.left.left.left rfl)) ?_
          refine Sd.quiet 6 _ _ rfl rfl rfl rfl rfl (QOp.ok (fun X => OpOk.gtr rfl rfl)) ?_
          refine Sd.quiet 7 _ _ rfl rfl rfl rfl rfl (QOp.ok (fun X => OpOk.move rfl)) ?_
          refine Sd.splitD (fun y3 => ?_) (fun y3 => ?_)
          · refine Sd.quiet 8 _ _ rfl rfl rfl rfl rfl (QOp.ok (fun X => OpOk.move rfl)) ?_
            refine Sd.quiet 9 _ _ rfl rfl rfl rfl rfl (QOp.ok (fun X => OpOk.move rfl)) ?_
            refine Sd.quiet 10 _ _ rfl rfl rfl rfl rfl (QOp.ok (fun X => OpOk.lenR rfl rfl (Rd.right rdy2).left.left.left.left rfl)) ?_
            refine Sd.quiet 11 _ _ rfl rfl rfl rfl rfl (QOp.ok (fun X => OpOk.subN _ 1 rfl rfl rfl rfl (by omega) (by omega))) ?_
            refine Sd.quiet 12 _ _ rfl rfl rfl rfl rfl (QOp.ok (fun X => OpOk.idxN rfl ti66 rfl (Rd.right rdy2).left.left.left.left rfl (by omega))) ?_
            refine Sd.quiet 13 _ _ rfl rfl rfl rfl rfl (QOp.ok (fun X => OpOk.fieldAddrA fld66_0 rfl)) ?_
            refine Sd.quiet 14 _ _ rfl rfl rfl rfl rfl (QOp.ok (fun X => OpOk.loadFl1E hoe2 rfl rfl rfl (Rd.right rdy2).left.left.left.left (fun _ => rfl) rfl (by omega) rfl)) ?_
            refine Sd.quiet 15 _ _ rfl rfl rfl rfl rfl (QOp.ok (fun X => OpOk.fieldAddr fld66_0 rfl)) ?_
            refine Sd.quiet 16 _ _ rfl rfl rfl rfl rfl (QOp.ok (fun X => OpOk.load rfl rfl rfl (Blk.out Blk.pts.left.left _ _ (by first | rfl | assumption)))) ?_
            refine Sd.quiet 17 _ _ rfl rfl rfl rfl rfl (QOp.ok (fun X => OpOk.asF (OpOk.geq rfl rfl) (by omega))) ?_
            refine Sd.quiet 18 _ _ rfl rfl rfl rfl rfl (QOp.ok (fun X => OpOk.pickT rfl rfl)) ?_
            refine Sd.quiet 19 _ _ rfl rfl rfl rfl rfl (QOp.ok (fun X => OpOk.pickF rfl rfl)) ?_
            (apply Sd.tail; case hall => kernel_rfl)
            refine RunL.mem (fl2 (sep_emp _) (sep_emp _)) ?_
            refine RunL.nil ?_
            refine Run.condF rfl ?_
            refine Run.skip ?_
            refine Run.seq ?_
            refine Run.seq ?_
            refine Run.region ?_
            refine RunL.ok (OpOk.move rfl) rfl ?_
            refine RunL.ok (OpOk.addN _ 1 rfl rfl rfl rfl (by omega)) rfl ?_
            refine RunL.ok (OpOk.move rfl) rfl ?_
            refine RunL.ok (OpOk.lenR rfl rfl rd.left.left.left.left rfl) rfl ?_
            refine RunL.ok (OpOk.asT (OpOk.geq rfl rfl) (by omega)) rfl ?_
            refine RunL.ok (OpOk.move rfl) rfl ?_
            refine RunL.off rfl rfl rfl rfl ?_
            refine RunL.off rfl rfl rfl rfl ?_
            refine RunL.off rfl rfl rfl rfl ?_
            refine RunL.off rfl rfl rfl rfl ?_
            refine RunL.off rfl rfl rfl rfl ?_
            refine RunL.off rfl rfl rfl rfl ?_
            refine RunL.off rfl rfl rfl rfl ?_
            refine RunL.off rfl rfl rfl rfl ?_
            refine RunL.off rfl rfl rfl rfl ?_
            refine RunL.off rfl rfl rfl rfl ?_
            refine RunL.off rfl rfl rfl rfl ?_
            refine RunL.off rfl rfl rfl rfl ?_
            refine RunL.ok (OpOk.pickT rfl rfl) rfl ?_
            refine RunL.nil ?_
            refine Run.condT rfl ?_
            refine Run.seq ?_
            refine Run.region ?_
            refine RunL.ok (OpOk.assign rfl) rfl ?_
            refine RunL.ok (OpOk.assign rfl) rfl ?_
            refine RunL.nil ?_
            refine Run.ent (Ent.ownNil' _ 66 3 (Fl encT66 []) rfl) ?_
            refine Run.ret2 Try.func33 rfl rfl rfl ?_
            obtain ⟨rfl, rfl⟩ := Prod.mk.inj hdr
            exact err_leaf (by repeat (first | exact grown0 | refine grown1 ?_))
          refine Sd.skip 8 _ rfl rfl rfl rfl rfl ?_
          refine Sd.skip 9 _ rfl rfl rfl rfl rfl ?_
          refine Sd.skip 10 _ rfl rfl rfl rfl rfl ?_
          refine Sd.skip 11 _ rfl rfl rfl rfl rfl ?_
          refine Sd.skip 12 _ rfl rfl rfl rfl rfl ?_
          refine Sd.skip 13 _ rfl rfl rfl rfl rfl ?_
          refine Sd.skip 14 _ rfl rfl rfl rfl rfl ?_
          refine Sd.skip 15 _ rfl rfl rfl rfl rfl ?_
          refine Sd.skip 16 _ rfl rfl rfl rfl rfl ?_
          refine Sd.skip 17 _ rfl rfl rfl rfl rfl ?_
          refine Sd.quiet 18 _ _ rfl rfl rfl rfl rfl (QOp.ok (fun X => OpOk.pickF rfl rfl)) ?_
          refine Sd.quiet 19 _ _ rfl rfl rfl rfl rfl (QOp.ok (fun X => OpOk.pickF rfl rfl)) ?_
          (apply Sd.tail; case hall => kernel_rfl)
          refine RunL.mem (fl2 (sep_emp _) (sep_emp _)) ?_
          refine RunL.nil ?_
          refine Run.condF rfl ?_
          refine Run.skip ?_
          refine Run.seq ?_
          refine Run.seq ?_
          refine Run.region ?_
          refine RunL.ok (OpOk.move rfl) rfl ?_
          refine RunL.ok (OpOk.addN _ 1 rfl rfl rfl rfl (by omega)) rfl ?_
          refine RunL.ok (OpOk.move rfl) rfl ?_
          refine RunL.ok (OpOk.lenR rfl rfl rd.left.left.left.left rfl) rfl ?_
          refine RunL.ok (OpOk.asT (OpOk.geq rfl rfl) (by omega)) rfl ?_
          refine RunL.ok (OpOk.move rfl) rfl ?_
          refine RunL.off rfl rfl rfl rfl ?_
          refine RunL.off rfl rfl rfl rfl ?_
          refine RunL.off rfl rfl rfl rfl ?_
          refine RunL.off rfl rfl rfl rfl ?_
          refine RunL.off rfl rfl rfl rfl ?_
          refine RunL.off rfl rfl rfl rfl ?_
          refine RunL.off rfl rfl rfl rfl ?_
          refine RunL.off rfl rfl rfl rfl ?_
          refine RunL.off rfl rfl rfl rfl ?_
          refine RunL.off rfl rfl rfl rfl ?_
          refine RunL.off rfl rfl rfl rfl ?_
          refine RunL.off rfl rfl rfl rfl ?_
          refine RunL.ok (OpOk.pickT rfl rfl) rfl ?_
          refine RunL.nil ?_
          refine Run.condT rfl ?_
          refine Run.seq ?_
          refine Run.region ?_
          refine RunL.ok (OpOk.assign rfl) rfl ?_
          refine RunL.ok (OpOk.assign rfl) rfl ?_
          refine RunL.nil ?_
          refine Run.ent (Ent.ownNil' _ 66 3 (Fl encT66 []) rfl) ?_
          refine Run.ret2 Try.func33 rfl rfl rfl ?_
          obtain ⟨rfl, rfl⟩ := Prod.mk.inj hdr
          exact err_leaf (by repeat (first | exact grown0 | refine grown1 ?_))
        | cons l b2 =>
          have hb2 : b.length = at_ + b2.length + 2 := by rw [hb1, hbb]; simp; omega
          have rw_l : b.getD (at_ + 1) 0 = l := by
            have := congrArg (fun l => l.getD 1 (0 : UInt8)) hb
            rw [hbb] at this
            simpa [List.getD_eq_getElem?_getD] using this
          have hlt := l.toNat_lt
          rw [hbb] at hdr
          rcases Nat.lt_or_ge b2.length l.toNat with h6 | h6
          · rw [get_short (by omega) (by omega) h6, appR_err _ _ (by decide)] at hdr
            refine Run.seq ?_
            refine Run.seq ?_
            refine Run.region ?_
            refine RunL.ok (OpOk.move rfl) rfl ?_
            refine RunL.ok (OpOk.move rfl) rfl ?_
            refine RunL.ok (OpOk.lenR rfl rfl rd.left.left.left rfl) rfl ?_
            refine RunL.ok (OpOk.asT (OpOk.lss rfl rfl) (by omega)) rfl ?_
            refine RunL.nil ?_
            refine Run.condT rfl ?_
            refine Run.skip ?_
            refine Run.block ?_
            refine Run.seq ?_
            refine Run.region ?_
            refine RunL.alloc ti66 rfl (fun by1 => ?_)
            refine RunL.nil ?_
            refine Run.seq ?_
            refine Run.region ?_
            refine RunL.ok (OpOk.move rfl) rfl ?_
            refine RunL.ok (OpOk.move rfl) rfl ?_
            refine RunL.ok (OpOk.idx1N rfl ti5 rfl rd.left.left.left.left rfl (by omega)) rfl ?_
            refine RunL.ok (OpOk.load rfl rfl rfl (Rd.getBE (by assumption) rd.left.left.left.left (by omega))) rfl ?_
            refine RunL.ok (OpOk.convInt rfl rfl rfl (wrapI (by omega) (by omega))) rfl ?_
            refine RunL.ok (OpOk.fieldAddr fld66_0 rfl) rfl ?_
            refine RunL.store ti3 rfl rfl rfl rfl (by exact Nat.le_of_ble_eq_true rfl) (.inl rfl) ?_
            refine RunL.nil ?_
            refine Run.seq ?_
            refine Run.seq ?_
            refine Run.region ?_
            refine RunL.ok (OpOk.move rfl) rfl ?_
            refine RunL.ok (OpOk.asF (OpOk.gtr rfl rfl) (by omega)) rfl ?_
            refine RunL.nil ?_
            refine Run.condF rfl ?_
            refine Run.skip ?_
            refine Run.seq ?_
            refine Run.seq ?_
            refine Run.know (fun w s => (s.conv (frl (frl rfl))).ownRd0) (fun rdy2 => ?_)
            (apply Run.drawD [] (by rfl) (sep_emp _).symm; case hchk => kernel_rfl)
            refine Sd.quiet 0 _ _ rfl rfl rfl rfl rfl (QOp.ok (fun X => OpOk.fieldAddr fld66_0 rfl)) ?_
            refine Sd.quiet 1 _ _ rfl rfl rfl rfl rfl (QOp.ok (fun X => OpOk.load rfl rfl rfl (Blk.out Blk.pts.left.left _ _ (by first | rfl | assumption)))) ?_
            refine Sd.quiet 2 _ _ rfl rfl rfl rfl rfl (QOp.ok (fun X => OpOk.asF (OpOk.eql rfl rfl) (by omega))) ?_
            refine Sd.quiet 3 _ _ rfl rfl rfl rfl rfl (QOp.ok (fun X => OpOk.move rfl)) ?_
            refine Sd.quiet 4 _ _ rfl rfl rfl rfl rfl (QOp.ok (fun X => OpOk.move rfl)) ?_
            refine Sd.quiet 5 _ _ rfl rfl rfl rfl rfl (QOp.ok (fun X => OpOk.lenR rfl rfl (Rd.right rdy2).left.left.left.left rfl)) ?_
            refine Sd.quiet 6 _ _ rfl rfl rfl rfl rfl (QOp.ok (fun X => OpOk.gtr rfl rfl)) ?_
            refine Sd.quiet 7 _ _ rfl rfl rfl rfl rfl (QOp.ok (fun X => OpOk.move rfl)) ?_
            refine Sd.splitD (fun y3 => ?_) (fun y3 => ?_)
            · refine Sd.quiet 8 _ _ rfl rfl rfl rfl rfl (QOp.ok (fun X => OpOk.move rfl)) ?_
              refine Sd.quiet 9 _ _ rfl rfl rfl rfl rfl (QOp.ok (fun X => OpOk.move rfl)) ?_
              refine Sd.quiet 10 _ _ rfl rfl rfl rfl rfl (QOp.ok (fun X => OpOk.lenR rfl rfl (Rd.right rdy2).left.left.left.left rfl)) ?_
              refine Sd.quiet 11 _ _ rfl rfl rfl rfl rfl (QOp.ok (fun X => OpOk.subN _ 1 rfl rfl rfl rfl (by omega) (by omega))) ?_
              refine Sd.quiet 12 _ _ rfl rfl rfl rfl rfl (QOp.ok (fun X => OpOk.idxN rfl ti66 rfl (Rd.right rdy2).left.left.left.left rfl (by omega))) ?_
              refine Sd.quiet 13 _ _ rfl rfl rfl rfl rfl (QOp.ok (fun X => OpOk.fieldAddrA fld66_0 rfl)) ?_
              refine Sd.quiet 14 _ _ rfl rfl rfl rfl rfl (QOp.ok (fun X => OpOk.loadFl1E hoe2 rfl rfl rfl (Rd.right rdy2).left.left.left.left (fun _ => rfl) rfl (by omega) rfl)) ?_
              refine Sd.quiet 15 _ _ rfl rfl rfl rfl rfl (QOp.ok (fun X => OpOk.fieldAddr fld66_0 rfl)) ?_
              refine Sd.quiet 16 _ _ rfl rfl rfl rfl rfl (QOp.ok (fun X => OpOk.load rfl rfl rfl (Blk.out Blk.pts.left.left _ _ (by first | rfl | assumption)))) ?_
              refine Sd.quiet 17 _ _ rfl rfl rfl rfl rfl (QOp.ok (fun X => OpOk.asF (OpOk.geq rfl rfl) (by omega))) ?_
              refine Sd.quiet 18 _ _ rfl rfl rfl rfl rfl (QOp.ok (fun X => OpOk.pickT rfl rfl)) ?_
              refine Sd.quiet 19 _ _ rfl rfl rfl rfl rfl (QOp.ok (fun X => OpOk.pickF rfl rfl)) ?_
              (apply Sd.tail; case hall => kernel_rfl)
              refine RunL.mem (fl2 (sep_emp _) (sep_emp _)) ?_
              refine RunL.nil ?_
              refine Run.condF rfl ?_
              refine Run.skip ?_
              refine Run.seq ?_
              refine Run.seq ?_
              refine Run.region ?_
              refine RunL.ok (OpOk.move rfl) rfl ?_
              refine RunL.ok (OpOk.addN _ 1 rfl rfl rfl rfl (by omega)) rfl ?_
              refine RunL.ok (OpOk.move rfl) rfl ?_
              refine RunL.ok (OpOk.lenR rfl rfl rd.left.left.left.left rfl) rfl ?_
              refine RunL.ok (OpOk.asF (OpOk.geq rfl rfl) (by omega)) rfl ?_
              refine RunL.ok (OpOk.move rfl) rfl ?_
              refine RunL.on rfl rfl ?_
              refine RunL.ok (OpOk.move rfl) rfl ?_
              refine RunL.on rfl rfl ?_
              refine RunL.ok (OpOk.addN _ 2 rfl rfl rfl rfl (by omega)) rfl ?_
              refine RunL.on rfl rfl ?_
              refine RunL.ok (OpOk.move rfl) rfl ?_
              refine RunL.on rfl rfl ?_
              refine RunL.ok (OpOk.move rfl) rfl ?_
              refine RunL.on rfl rfl ?_
              refine RunL.ok (OpOk.addN _ 1 rfl rfl rfl rfl (by omega)) rfl ?_
              refine RunL.on rfl rfl ?_
              refine RunL.ok (OpOk.idx1N rfl ti5 rfl rd.left.left.left.left rfl (by omega)) rfl ?_
              refine RunL.on rfl rfl ?_
              refine RunL.ok (OpOk.load rfl rfl rfl (Rd.getBE (by assumption) rd.left.left.left.left (by omega))) rfl ?_
              refine RunL.on rfl rfl ?_
              refine RunL.ok (OpOk.convInt rfl rfl rfl (wrapI (by omega) (by omega))) rfl ?_
              refine RunL.on rfl rfl ?_
              refine RunL.ok (OpOk.addN _ _ rfl rfl rfl rfl (by omega)) rfl ?_
              refine RunL.on rfl rfl ?_
              refine RunL.ok (OpOk.move rfl) rfl ?_
              refine RunL.on rfl rfl ?_
              refine RunL.ok (OpOk.lenR rfl rfl rd.left.left.left.left rfl) rfl ?_
              refine RunL.on rfl rfl ?_
              refine RunL.ok (OpOk.asT (OpOk.gtr rfl rfl) (by omega)) rfl ?_
              refine RunL.ok (OpOk.pickF rfl rfl) rfl ?_
              refine RunL.nil ?_
              refine Run.condT rfl ?_
              refine Run.seq ?_
              refine Run.region ?_
              refine RunL.ok (OpOk.assign rfl) rfl ?_
              refine RunL.ok (OpOk.assign rfl) rfl ?_
              refine RunL.nil ?_
              refine Run.ent (Ent.ownNil' _ 66 3 (Fl encT66 []) rfl) ?_
              refine Run.ret2 Try.func33 rfl rfl rfl ?_
              obtain ⟨rfl, rfl⟩ := Prod.mk.inj hdr
              exact err_leaf (by repeat (first | exact grown0 | refine grown1 ?_))
            refine Sd.skip 8 _ rfl rfl rfl rfl rfl ?_
            refine Sd.skip 9 _ rfl rfl rfl rfl rfl ?_
            refine Sd.skip 10 _ rfl rfl rfl rfl rfl ?_
            refine Sd.skip 11 _ rfl rfl rfl rfl rfl ?_
            refine Sd.skip 12 _ rfl rfl rfl rfl rfl ?_
            refine Sd.skip 13 _ rfl rfl rfl rfl rfl ?_
            refine Sd.skip 14 _ rfl rfl rfl rfl rfl ?_
            refine Sd.skip 15 _ rfl rfl rfl rfl rfl ?_
            refine Sd.skip 16 _ rfl rfl rfl rfl rfl ?_
            refine Sd.skip 17 _ rfl rfl rfl rfl rfl ?_
            refine Sd.quiet 18 _ _ rfl rfl rfl rfl rfl (QOp.ok (fun X => OpOk.pickF rfl rfl)) ?_
            refine Sd.quiet 19 _ _ rfl rfl rfl rfl rfl (QOp.ok (fun X => OpOk.pickF rfl rfl)) ?_
            (apply Sd.tail; case hall => kernel_rfl)
            refine RunL.mem (fl2 (sep_emp _) (sep_emp _)) ?_
            refine RunL.nil ?_
            refine Run.condF rfl ?_
            refine Run.skip ?_
            refine Run.seq ?_
            refine Run.seq ?_
            refine Run.region ?_
            refine RunL.ok (OpOk.move rfl) rfl ?_
            refine RunL.ok (OpOk.addN _ 1 rfl rfl rfl rfl (by omega)) rfl ?_
            refine RunL.ok (OpOk.move rfl) rfl ?_
            refine RunL.ok (OpOk.lenR rfl rfl rd.left.left.left.left rfl) rfl ?_
            refine RunL.ok (OpOk.asF (OpOk.geq rfl rfl) (by omega)) rfl ?_
            refine RunL.ok (OpOk.move rfl) rfl ?_
            refine RunL.on rfl rfl ?_
            refine RunL.ok (OpOk.move rfl) rfl ?_
            refine RunL.on rfl rfl ?_
            refine RunL.ok (OpOk.addN _ 2 rfl rfl rfl rfl (by omega)) rfl ?_
            refine RunL.on rfl rfl ?_
            refine RunL.ok (OpOk.move rfl) rfl ?_
            refine RunL.on rfl rfl ?_
            refine RunL.ok (OpOk.move rfl) rfl ?_
            refine RunL.on rfl rfl ?_
            refine RunL.ok (OpOk.addN _ 1 rfl rfl rfl rfl (by omega)) rfl ?_
            refine RunL.on rfl rfl ?_
            refine RunL.ok (OpOk.idx1N rfl ti5 rfl rd.left.left.left.left rfl (by omega)) rfl ?_
            refine RunL.on rfl rfl ?_
            refine RunL.ok (OpOk.load rfl rfl rfl (Rd.getBE (by assumption) rd.left.left.left.left (by omega))) rfl ?_
            refine RunL.on rfl rfl ?_
            refine RunL.ok (OpOk.convInt rfl rfl rfl (wrapI (by omega) (by omega))) rfl ?_
            refine RunL.on rfl rfl ?_
            refine RunL.ok (OpOk.addN _ _ rfl rfl rfl rfl (by omega)) rfl ?_
            refine RunL.on rfl rfl ?_
            refine RunL.ok (OpOk.move rfl) rfl ?_
            refine RunL.on rfl rfl ?_
            refine RunL.ok (OpOk.lenR rfl rfl rd.left.left.left.left rfl) rfl ?_
            refine RunL.on rfl rfl ?_
            refine RunL.ok (OpOk.asT (OpOk.gtr rfl rfl) (by omega)) rfl ?_
            refine RunL.ok (OpOk.pickF rfl rfl) rfl ?_
            refine RunL.nil ?_
            refine Run.condT rfl ?_
            refine Run.seq ?_
            refine Run.region ?_
            refine RunL.ok (OpOk.assign rfl) rfl ?_
            refine RunL.ok (OpOk.assign rfl) rfl ?_
            refine RunL.nil ?_
            refine Run.ent (Ent.ownNil' _ 66 3 (Fl encT66 []) rfl) ?_
            refine Run.ret2 Try.func33 rfl rfl rfl ?_
            obtain ⟨rfl, rfl⟩ := Prod.mk.inj hdr
            exact err_leaf (by repeat (first | exact grown0 | refine grown1 ?_))
          · have hdrop : b.drop (at_ + 2) = b2 := by
              rw [← List.drop_drop, hb, hbb]; rfl
            have htl : (b2.take l.toNat).length = l.toNat := by rw [List.length_take]; omega
            have hdl : (b2.drop l.toNat).length = b2.length - l.toNat := List.length_drop
            have hdn : b.drop (at_ + 2 + (b2.take l.toNat).length) = b2.drop l.toNat := by rw [← List.drop_drop, hdrop, htl]
            have rdB : Rd w0 A (cutV u (at_ + 2) (at_ + 2 + l.toNat) 1) 1 (b2.take l.toNat).length (B (b2.take l.toNat)) := by
              have h := Rd.cutB rd (i := at_ + 2) (j := at_ + 2 + l.toNat) (by omega) (by omega)
              rw [hdrop, show at_ + 2 + l.toNat - (at_ + 2) = l.toNat by omega] at h
              rw [htl]
              exact h
            rcases Decidable.em ((t.toNat : Int) < 128) with h7 | h7
            · rw [get_flat (by omega) (by omega) h6 h7, appR_cons] at hdr
              rcases hla with ⟨hla1, hla2⟩ | ⟨hla1, hla2, hla3⟩
              · refine Run.seq ?_
                refine Run.seq ?_
                refine Run.region ?_
                refine RunL.ok (OpOk.move rfl) rfl ?_
                refine RunL.ok (OpOk.move rfl) rfl ?_
                refine RunL.ok (OpOk.lenR rfl rfl rd.left.left.left rfl) rfl ?_
                refine RunL.ok (OpOk.asT (OpOk.lss rfl rfl) (by omega)) rfl ?_
                refine RunL.nil ?_
                refine Run.condT rfl ?_
                refine Run.skip ?_
                refine Run.block ?_
                refine Run.seq ?_
                refine Run.region ?_
                refine RunL.alloc ti66 rfl (fun by1 => ?_)
                refine RunL.nil ?_
                refine Run.seq ?_
                refine Run.region ?_
                refine RunL.ok (OpOk.move rfl) rfl ?_
                refine RunL.ok (OpOk.move rfl) rfl ?_
                refine RunL.ok (OpOk.idx1N rfl ti5 rfl rd.left.left.left.left rfl (by omega)) rfl ?_
                refine RunL.ok (OpOk.load rfl rfl rfl (Rd.getBE (by assumption) rd.left.left.left.left (by omega))) rfl ?_
                refine RunL.ok (OpOk.convInt rfl rfl rfl (wrapI (by omega) (by omega))) rfl ?_
                refine RunL.ok (OpOk.fieldAddr fld66_0 rfl) rfl ?_
                refine RunL.store ti3 rfl rfl rfl rfl (by exact Nat.le_of_ble_eq_true rfl) (.inl rfl) ?_
                refine RunL.nil ?_
                refine Run.seq ?_
                refine Run.seq ?_
                refine Run.region ?_
                refine RunL.ok (OpOk.move rfl) rfl ?_
                refine RunL.ok (OpOk.asF (OpOk.gtr rfl rfl) (by omega)) rfl ?_
                refine RunL.nil ?_
                refine Run.condF rfl ?_
                refine Run.skip ?_
                refine Run.seq ?_
                refine Run.seq ?_
                refine Run.know (fun w s => (s.conv (frl (frl rfl))).ownRd0) (fun rdy2 => ?_)
                (apply Run.drawD [] (by rfl) (sep_emp _).symm; case hchk => kernel_rfl)
                refine Sd.quiet 0 _ _ rfl rfl rfl rfl rfl (QOp.ok (fun X => OpOk.fieldAddr fld66_0 rfl)) ?_
                refine Sd.quiet 1 _ _ rfl rfl rfl rfl rfl (QOp.ok (fun X => OpOk.load rfl rfl rfl (Blk.out Blk.pts.left.left _ _ (by first | rfl | assumption)))) ?_
                refine Sd.quiet 2 _ _ rfl rfl rfl rfl rfl (QOp.ok (fun X => OpOk.asF (OpOk.eql rfl rfl) (by omega))) ?_
                refine Sd.quiet 3 _ _ rfl rfl rfl rfl rfl (QOp.ok (fun X => OpOk.move rfl)) ?_
                refine Sd.quiet 4 _ _ rfl rfl rfl rfl rfl (QOp.ok (fun X => OpOk.move rfl)) ?_
                refine Sd.quiet 5 _ _ rfl rfl rfl rfl rfl (QOp.ok (fun X => OpOk.lenR rfl rfl (Rd.right rdy2).left.left.left.left rfl)) ?_
                refine Sd.quiet 6 _ _ rfl rfl rfl rfl rfl (QOp.ok (fun X => OpOk.asF (OpOk.gtr rfl rfl) (by omega))) ?_
                refine Sd.quiet 7 _ _ rfl rfl rfl rfl rfl (QOp.ok (fun X => OpOk.move rfl)) ?_
                refine Sd.skip 8 _ rfl rfl rfl rfl rfl ?_
                refine Sd.skip 9 _ rfl rfl rfl rfl rfl ?_
                refine Sd.skip 10 _ rfl rfl rfl rfl rfl ?_
                refine Sd.skip 11 _ rfl rfl rfl rfl rfl ?_
                refine Sd.skip 12 _ rfl rfl rfl rfl rfl ?_
                refine Sd.skip 13 _ rfl rfl rfl rfl rfl ?_
                refine Sd.skip 14 _ rfl rfl rfl rfl rfl ?_
                refine Sd.skip 15 _ rfl rfl rfl rfl rfl ?_
                refine Sd.skip 16 _ rfl rfl rfl rfl rfl ?_
                refine Sd.skip 17 _ rfl rfl rfl rfl rfl ?_
                refine Sd.quiet 18 _ _ rfl rfl rfl rfl rfl (QOp.ok (fun X => OpOk.pickF rfl rfl)) ?_
                refine Sd.quiet 19 _ _ rfl rfl rfl rfl rfl (QOp.ok (fun X => OpOk.pickF rfl rfl)) ?_
                (apply Sd.tail; case hall => kernel_rfl)
                refine RunL.mem (fl2 (sep_emp _) (sep_emp _)) ?_
                refine RunL.nil ?_
                refine Run.condF rfl ?_
                refine Run.skip ?_
                refine Run.seq ?_
                refine Run.seq ?_
                refine Run.region ?_
                refine RunL.ok (OpOk.move rfl) rfl ?_
                refine RunL.ok (OpOk.addN _ 1 rfl rfl rfl rfl (by omega)) rfl ?_
                refine RunL.ok (OpOk.move rfl) rfl ?_
                refine RunL.ok (OpOk.lenR rfl rfl rd.left.left.left.left rfl) rfl ?_
                refine RunL.ok (OpOk.asF (OpOk.geq rfl rfl) (by omega)) rfl ?_
                refine RunL.ok (OpOk.move rfl) rfl ?_
                refine RunL.on rfl rfl ?_
                refine RunL.ok (OpOk.move rfl) rfl ?_
                refine RunL.on rfl rfl ?_
                refine RunL.ok (OpOk.addN _ 2 rfl rfl rfl rfl (by omega)) rfl ?_
                refine RunL.on rfl rfl ?_
                refine RunL.ok (OpOk.move rfl) rfl ?_
                refine RunL.on rfl rfl ?_
                refine RunL.ok (OpOk.move rfl) rfl ?_
                refine RunL.on rfl rfl ?_
                refine RunL.ok (OpOk.addN _ 1 rfl rfl rfl rfl (by omega)) rfl ?_
                refine RunL.on rfl rfl ?_
                refine RunL.ok (OpOk.idx1N rfl ti5 rfl rd.left.left.left.left rfl (by omega)) rfl ?_
                refine RunL.on rfl rfl ?_
                refine RunL.ok (OpOk.load rfl rfl rfl (Rd.getBE (by assumption) rd.left.left.left.left (by omega))) rfl ?_
                refine RunL.on rfl rfl ?_
                refine RunL.ok (OpOk.convInt rfl rfl rfl (wrapI (by omega) (by omega))) rfl ?_
                refine RunL.on rfl rfl ?_
                refine RunL.ok (OpOk.addN _ _ rfl rfl rfl rfl (by omega)) rfl ?_
                refine RunL.on rfl rfl ?_
                refine RunL.ok (OpOk.move rfl) rfl ?_
                refine RunL.on rfl rfl ?_
                refine RunL.ok (OpOk.lenR rfl rfl rd.left.left.left.left rfl) rfl ?_
                refine RunL.on rfl rfl ?_
                refine RunL.ok (OpOk.asF (OpOk.gtr rfl rfl) (by omega)) rfl ?_
                refine RunL.ok (OpOk.pickF rfl rfl) rfl ?_
                refine RunL.nil ?_
                refine Run.condF rfl ?_
                refine Run.skip ?_
                refine Run.seq ?_
                refine Run.region ?_
                refine RunL.ok (OpOk.move rfl) rfl ?_
                refine RunL.ok (OpOk.move rfl) rfl ?_
                refine RunL.ok (OpOk.addN _ 2 rfl rfl rfl rfl (by omega)) rfl ?_
                refine RunL.ok (OpOk.move rfl) rfl ?_
                refine RunL.ok (OpOk.addN _ 2 rfl rfl rfl rfl (by omega)) rfl ?_
                refine RunL.ok (OpOk.move rfl) rfl ?_
                refine RunL.ok (OpOk.move rfl) rfl ?_
                refine RunL.ok (OpOk.addN _ 1 rfl rfl rfl rfl (by omega)) rfl ?_
                refine RunL.ok (OpOk.idx1N rfl ti5 rfl rd.left.left.left.left rfl (by omega)) rfl ?_
                refine RunL.ok (OpOk.load rfl rfl rfl (Rd.getBE (by assumption) rd.left.left.left.left (by omega))) rfl ?_
                refine RunL.ok (OpOk.convInt rfl rfl rfl (wrapI (by omega) (by omega))) rfl ?_
                refine RunL.ok (OpOk.addN _ _ rfl rfl rfl rfl (by omega)) rfl ?_
                refine RunL.ok (OpOk.cut rfl ti5 rfl rd.left.left.left.left ⟨_, rfl⟩ ⟨_, rfl⟩ (by omega) (by omega)) rfl ?_
                refine RunL.ok (OpOk.assign rfl) rfl ?_
                refine RunL.nil ?_
                refine Run.seq ?_
                refine Run.seq ?_
                refine Run.region ?_
                refine RunL.ok (OpOk.fieldAddr fld66_0 rfl) rfl ?_
                refine RunL.ok (OpOk.load rfl rfl rfl (Blk.out Blk.pts _ _ (by first | rfl | assumption))) rfl ?_
                refine RunL.ok (OpOk.asT (OpOk.lss rfl rfl) (by omega)) rfl ?_
                refine RunL.nil ?_
                refine Run.condT rfl ?_
                refine Run.region ?_
                refine RunL.ok (OpOk.fieldAddr fld66_1 rfl) rfl ?_
                refine RunL.ok (OpOk.load rfl rfl rfl (Blk.out Blk.pts _ _ (by first | rfl | assumption))) rfl ?_
                refine RunL.ok (OpOk.move rfl) rfl ?_
                refine RunL.ent (Ent.ownNil' _ 5 1 (B []) rfl) ?_
                refine RunL.appendB0 rfl ti5 rfl rfl rfl rfl rdB.left.left.left.left.left (by omega) rfl (fun vy3 rdy3 => ?_)
                refine RunL.ok (OpOk.fieldAddr fld66_1 rfl) rfl ?_
                refine RunL.know (fun w s => (s.conv rfl).ownRd0) (fun rdy4 => ?_)
                refine RunL.store ti24 rfl rfl (Rd.one rdy4) (frl rfl) (by exact Nat.le_of_ble_eq_true rfl) (.inl rfl) ?_
                refine RunL.nil ?_
                refine Run.seq ?_
                refine Run.region ?_
                refine RunL.ok (OpOk.move rfl) rfl ?_
                refine RunL.ok (OpOk.loadS rfl rfl ti66 rfl Blk.pts rfl) rfl ?_
                have h9 : vy3.oneCell' = true := Rd.one rdy4
                rw [show Value.agg (((Value.agg #[.int .i64 0, .slice none 0 0, .slice none 0 0]).cells.setIfInBounds (0 + 0) (.int .i64 (t.toNat : Int))).toList.set (0 + 1) vy3).toArray = .agg (encT66 ((t.toNat : Int), ⟨vy3, h9⟩, b2.take l.toNat, nilV, Fo.nil)).toArray from rfl]
                refine RunL.litFl (enc := encT66) [(↑t.toNat, ⟨vy3, h9⟩, List.take l.toNat b2, nilV, Fo.nil)] rfl ti66 rfl (fun _ => rfl) rfl rfl (by decide) (by decide) rfl (fun vz1 rdz1 => ?_)
                refine RunL.know (fun w s => (s.conv rfl).ownRd0) (fun rdz3 => ?_)
                refine RunL.appendF rfl ti66 rfl rfl rfl (frl (frl (frl (frl rfl)))) (Rd.right rdz3) rfl (by decide) (by omega) (by simp only [maxLen]; omega) rfl (fun vz2 rdz2 => ?_)
                refine RunL.ok (OpOk.assign rfl) rfl ?_
                refine RunL.nil ?_
                refine Run.region ?_
                refine RunL.ok (OpOk.move rfl) rfl ?_
                refine RunL.ok (OpOk.addN _ 2 rfl rfl rfl rfl (by omega)) rfl ?_
                refine RunL.ok (OpOk.move rfl) rfl ?_
                refine RunL.ok (OpOk.lenR rfl rfl rdB.left.left.left.left.left.left rfl) rfl ?_
                refine RunL.ok (OpOk.addN _ _ rfl rfl rfl rfl (by omega)) rfl ?_
                refine RunL.ok (OpOk.assign rfl) rfl ?_
                refine RunL.nil ?_
                refine Run.inBlock ?_
                rw [show ys.length + 1 = (ys ++ [(((t.toNat : Int), ⟨vy3, h9⟩, b2.take l.toNat, nilV, Fo.nil) : Ee)]).length by simp]
                refine Run.ent (Ent.ownNil' _ 66 3 (Fl encT66 ([] : List Ee)) rfl) ?_
                refine Run.mem (sep_emp _).symm ?_
                rw [show emp = ownsE (top .nil) from rfl]
                have hgl : (ys ++ [(((t.toNat : Int), ⟨vy3, h9⟩, b2.take l.toNat, nilV, Fo.nil) : Ee)]).getD ((ys ++ [(((t.toNat : Int), ⟨vy3, h9⟩, b2.take l.toNat, nilV, Fo.nil) : Ee)]).length - 1) default = ((t.toNat : Int), ⟨vy3, h9⟩, b2.take l.toNat, nilV, Fo.nil) := by simp
                refine Run.jump ((ih (at_ + 2 + (b2.take l.toNat).length, _, _, ys ++ [(((t.toNat : Int), ⟨vy3, h9⟩, b2.take l.toNat, nilV, Fo.nil) : Ee)], (t.toNat : Int)) ⟨by dsimp only; omega, by dsimp only; rw [strL_append, hdn, hg0]; exact hdr, by simp; omega, by dsimp only; omega, .inr ⟨by simp, by rw [hgl], by dsimp only; omega⟩⟩ (by dsimp only; omega))) ⟨rfl, rfl, rfl, rfl, trivial⟩ (by simp only [ownsE_snoc, ← sep_assoc]; exact (Grew.of (Eq.trans (frc rfl (frc rfl (frc (frl (frl (frl rfl))) (frc (frl (frl (frl rfl))) rfl)))) (congrArg (· * _) (congrArg (· * _) (congrArg (· * _) (congrArg (· * _) (congrArg (· * _) (asg (asg as1)))))))) (Grew.refl _)))
              · refine Run.seq ?_
                refine Run.seq ?_
                refine Run.region ?_
                refine RunL.ok (OpOk.move rfl) rfl ?_
                refine RunL.ok (OpOk.move rfl) rfl ?_
                refine RunL.ok (OpOk.lenR rfl rfl rd.left.left.left rfl) rfl ?_
                refine RunL.ok (OpOk.asT (OpOk.lss rfl rfl) (by omega)) rfl ?_
                refine RunL.nil ?_
                refine Run.condT rfl ?_
                refine Run.skip ?_
                refine Run.block ?_
                refine Run.seq ?_
                refine Run.region ?_
                refine RunL.alloc ti66 rfl (fun by1 => ?_)
                refine RunL.nil ?_
                refine Run.seq ?_
                refine Run.region ?_
                refine RunL.ok (OpOk.move rfl) rfl ?_
                refine RunL.ok (OpOk.move rfl) rfl ?_
                refine RunL.ok (OpOk.idx1N rfl ti5 rfl rd.left.left.left.left rfl (by omega)) rfl ?_
                refine RunL.ok (OpOk.load rfl rfl rfl (Rd.getBE (by assumption) rd.left.left.left.left (by omega))) rfl ?_
                refine RunL.ok (OpOk.convInt rfl rfl rfl (wrapI (by omega) (by omega))) rfl ?_
                refine RunL.ok (OpOk.fieldAddr fld66_0 rfl) rfl ?_
                refine RunL.store ti3 rfl rfl rfl rfl (by exact Nat.le_of_ble_eq_true rfl) (.inl rfl) ?_
                refine RunL.nil ?_
                refine Run.seq ?_
                refine Run.seq ?_
                refine Run.region ?_
                refine RunL.ok (OpOk.move rfl) rfl ?_
                refine RunL.ok (OpOk.asF (OpOk.gtr rfl rfl) (by omega)) rfl ?_
                refine RunL.nil ?_
                refine Run.condF rfl ?_
                refine Run.skip ?_
                refine Run.seq ?_
                refine Run.seq ?_
                refine Run.know (fun w s => (s.conv (frl (frl rfl))).ownRd0) (fun rdy2 => ?_)
                (apply Run.drawD [] (by rfl) (sep_emp _).symm; case hchk => kernel_rfl)
                refine Sd.quiet 0 _ _ rfl rfl rfl rfl rfl (QOp.ok (fun X => OpOk.fieldAddr fld66_0 rfl)) ?_
                refine Sd.quiet 1 _ _ rfl rfl rfl rfl rfl (QOp.ok (fun X => OpOk.load rfl rfl rfl (Blk.out Blk.pts.left.left _ _ (by first | rfl | assumption)))) ?_
                refine Sd.quiet 2 _ _ rfl rfl rfl rfl rfl (QOp.ok (fun X => OpOk.asF (OpOk.eql rfl rfl) (by omega))) ?_
                refine Sd.quiet 3 _ _ rfl rfl rfl rfl rfl (QOp.ok (fun X => OpOk.move rfl)) ?_
                refine Sd.quiet 4 _ _ rfl rfl rfl rfl rfl (QOp.ok (fun X => OpOk.move rfl)) ?_
                refine Sd.quiet 5 _ _ rfl rfl rfl rfl rfl (QOp.ok (fun X => OpOk.lenR rfl rfl (Rd.right rdy2).left.left.left.left rfl)) ?_
                refine Sd.quiet 6 _ _ rfl rfl rfl rfl rfl (QOp.ok (fun X => OpOk.asT (OpOk.gtr rfl rfl) (by omega))) ?_
                refine Sd.quiet 7 _ _ rfl rfl rfl rfl rfl (QOp.ok (fun X => OpOk.move rfl)) ?_
                refine Sd.quiet 8 _ _ rfl rfl rfl rfl rfl (QOp.ok (fun X => OpOk.move rfl)) ?_
                refine Sd.quiet 9 _ _ rfl rfl rfl rfl rfl (QOp.ok (fun X => OpOk.move rfl)) ?_
                refine Sd.quiet 10 _ _ rfl rfl rfl rfl rfl (QOp.ok (fun X => OpOk.lenR rfl rfl (Rd.right rdy2).left.left.left.left rfl)) ?_
                refine Sd.quiet 11 _ _ rfl rfl rfl rfl rfl (QOp.ok (fun X => OpOk.subN _ 1 rfl rfl rfl rfl (by omega) (by omega))) ?_
                refine Sd.quiet 12 _ _ rfl rfl rfl rfl rfl (QOp.ok (fun X => OpOk.idxN rfl ti66 rfl (Rd.right rdy2).left.left.left.left rfl (by omega))) ?_
                refine Sd.quiet 13 _ _ rfl rfl rfl rfl rfl (QOp.ok (fun X => OpOk.fieldAddrA fld66_0 rfl)) ?_
                refine Sd.quiet 14 _ _ rfl rfl rfl rfl rfl (QOp.ok (fun X => OpOk.loadFl1E hoe2 rfl rfl rfl (Rd.right rdy2).left.left.left.left (fun _ => rfl) rfl (by omega) rfl)) ?_
                refine Sd.quiet 15 _ _ rfl rfl rfl rfl rfl (QOp.ok (fun X => OpOk.fieldAddr fld66_0 rfl)) ?_
                refine Sd.quiet 16 _ _ rfl rfl rfl rfl rfl (QOp.ok (fun X => OpOk.load rfl rfl rfl (Blk.out Blk.pts.left.left _ _ (by first | rfl | assumption)))) ?_
                refine Sd.quiet 17 _ _ rfl rfl rfl rfl rfl (QOp.ok (fun X => OpOk.asF (OpOk.geq rfl rfl) (by omega))) ?_
                refine Sd.quiet 18 _ _ rfl rfl rfl rfl rfl (QOp.ok (fun X => OpOk.pickT rfl rfl)) ?_
                refine Sd.quiet 19 _ _ rfl rfl rfl rfl rfl (QOp.ok (fun X => OpOk.pickF rfl rfl)) ?_
                (apply Sd.tail; case hall => kernel_rfl)
                refine RunL.mem (fl2 (sep_emp _) (sep_emp _)) ?_
                refine RunL.nil ?_
                refine Run.condF rfl ?_
                refine Run.skip ?_
                refine Run.seq ?_
                refine Run.seq ?_
                refine Run.region ?_
                refine RunL.ok (OpOk.move rfl) rfl ?_
                refine RunL.ok (OpOk.addN _ 1 rfl rfl rfl rfl (by omega)) rfl ?_
                refine RunL.ok (OpOk.move rfl) rfl ?_
                refine RunL.ok (OpOk.lenR rfl rfl rd.left.left.left.left rfl) rfl ?_
                refine RunL.ok (OpOk.asF (OpOk.geq rfl rfl) (by omega)) rfl ?_
                refine RunL.ok (OpOk.move rfl) rfl ?_
                refine RunL.on rfl rfl ?_
                refine RunL.ok (OpOk.move rfl) rfl ?_
                refine RunL.on rfl rfl ?_
                refine RunL.ok (OpOk.addN _ 2 rfl rfl rfl rfl (by omega)) rfl ?_
                refine RunL.on rfl rfl ?_
                refine RunL.ok (OpOk.move rfl) rfl ?_
                refine RunL.on rfl rfl ?_
                refine RunL.ok (OpOk.move rfl) rfl ?_
                refine RunL.on rfl rfl ?_
                refine RunL.ok (OpOk.addN _ 1 rfl rfl rfl rfl (by omega)) rfl ?_
                refine RunL.on rfl rfl ?_
                refine RunL.ok (OpOk.idx1N rfl ti5 rfl rd.left.left.left.left rfl (by omega)) rfl ?_
                refine RunL.on rfl rfl ?_
                refine RunL.ok (OpOk.load rfl rfl rfl (Rd.getBE (by assumption) rd.left.left.left.left (by omega))) rfl ?_
                refine RunL.on rfl rfl ?_
                refine RunL.ok (OpOk.convInt rfl rfl rfl (wrapI (by omega) (by omega))) rfl ?_
                refine RunL.on rfl rfl ?_
                refine RunL.ok (OpOk.addN _ _ rfl rfl rfl rfl (by omega)) rfl ?_
                refine RunL.on rfl rfl ?_
                refine RunL.ok (OpOk.move rfl) rfl ?_
                refine RunL.on rfl rfl ?_
                refine RunL.ok (OpOk.lenR rfl rfl rd.left.left.left.left rfl) rfl ?_
                refine RunL.on rfl rfl ?_
                refine RunL.ok (OpOk.asF (OpOk.gtr rfl rfl) (by omega)) rfl ?_
                refine RunL.ok (OpOk.pickF rfl rfl) rfl ?_
                refine RunL.nil ?_
                refine Run.condF rfl ?_
                refine Run.skip ?_
                refine Run.seq ?_
                refine Run.region ?_
                refine RunL.ok (OpOk.move rfl) rfl ?_
                refine RunL.ok (OpOk.move rfl) rfl ?_
                refine RunL.ok (OpOk.addN _ 2 rfl rfl rfl rfl (by omega)) rfl ?_
                refine RunL.ok (OpOk.move rfl) rfl ?_
                refine RunL.ok (OpOk.addN _ 2 rfl rfl rfl rfl (by omega)) rfl ?_
                refine RunL.ok (OpOk.move rfl) rfl ?_
                refine RunL.ok (OpOk.move rfl) rfl ?_
                refine RunL.ok (OpOk.addN _ 1 rfl rfl rfl rfl (by omega)) rfl ?_
                refine RunL.ok (OpOk.idx1N rfl ti5 rfl rd.left.left.left.left rfl (by omega)) rfl ?_
                refine RunL.ok (OpOk.load rfl rfl rfl (Rd.getBE (by assumption) rd.left.left.left.left (by omega))) rfl ?_
                refine RunL.ok (OpOk.convInt rfl rfl rfl (wrapI (by omega) (by omega))) rfl ?_
                refine RunL.ok (OpOk.addN _ _ rfl rfl rfl rfl (by omega)) rfl ?_
                refine RunL.ok (OpOk.cut rfl ti5 rfl rd.left.left.left.left ⟨_, rfl⟩ ⟨_, rfl⟩ (by omega) (by omega)) rfl ?_
                refine RunL.ok (OpOk.assign rfl) rfl ?_
                refine RunL.nil ?_
                refine Run.seq ?_
                refine Run.seq ?_
                refine Run.region ?_
                refine RunL.ok (OpOk.fieldAddr fld66_0 rfl) rfl ?_
                refine RunL.ok (OpOk.load rfl rfl rfl (Blk.out Blk.pts _ _ (by first | rfl | assumption))) rfl ?_
                refine RunL.ok (OpOk.asT (OpOk.lss rfl rfl) (by omega)) rfl ?_
                refine RunL.nil ?_
                refine Run.condT rfl ?_
                refine Run.region ?_
                refine RunL.ok (OpOk.fieldAddr fld66_1 rfl) rfl ?_
                refine RunL.ok (OpOk.load rfl rfl rfl (Blk.out Blk.pts _ _ (by first | rfl | assumption))) rfl ?_
                refine RunL.ok (OpOk.move rfl) rfl ?_
                refine RunL.ent (Ent.ownNil' _ 5 1 (B []) rfl) ?_
                refine RunL.appendB0 rfl ti5 rfl rfl rfl rfl rdB.left.left.left.left.left (by omega) rfl (fun vy3 rdy3 => ?_)
                refine RunL.ok (OpOk.fieldAddr fld66_1 rfl) rfl ?_
                refine RunL.know (fun w s => (s.conv rfl).ownRd0) (fun rdy4 => ?_)
                refine RunL.store ti24 rfl rfl (Rd.one rdy4) (frl rfl) (by exact Nat.le_of_ble_eq_true rfl) (.inl rfl) ?_
                refine RunL.nil ?_
                refine Run.seq ?_
                refine Run.region ?_
                refine RunL.ok (OpOk.move rfl) rfl ?_
                refine RunL.ok (OpOk.loadS rfl rfl ti66 rfl Blk.pts rfl) rfl ?_
                have h9 : vy3.oneCell' = true := Rd.one rdy4
                rw [show Value.agg (((Value.agg #[.int .i64 0, .slice none 0 0, .slice none 0 0]).cells.setIfInBounds (0 + 0) (.int .i64 (t.toNat : Int))).toList.set (0 + 1) vy3).toArray = .agg (encT66 ((t.toNat : Int), ⟨vy3, h9⟩, b2.take l.toNat, nilV, Fo.nil)).toArray from rfl]
                refine RunL.litFl (enc := encT66) [(↑t.toNat, ⟨vy3, h9⟩, List.take l.toNat b2, nilV, Fo.nil)] rfl ti66 rfl (fun _ => rfl) rfl rfl (by decide) (by decide) rfl (fun vz1 rdz1 => ?_)
                refine RunL.know (fun w s => (s.conv rfl).ownRd0) (fun rdz3 => ?_)
                refine RunL.appendF rfl ti66 rfl rfl rfl (frl (frl (frl (frl rfl)))) (Rd.right rdz3) rfl (by decide) (by omega) (by simp only [maxLen]; omega) rfl (fun vz2 rdz2 => ?_)
                refine RunL.ok (OpOk.assign rfl) rfl ?_
                refine RunL.nil ?_
                refine Run.region ?_
                refine RunL.ok (OpOk.move rfl) rfl ?_
                refine RunL.ok (OpOk.addN _ 2 rfl rfl rfl rfl (by omega)) rfl ?_
                refine RunL.ok (OpOk.move rfl) rfl ?_
                refine RunL.ok (OpOk.lenR rfl rfl rdB.left.left.left.left.left.left rfl) rfl ?_
                refine RunL.ok (OpOk.addN _ _ rfl rfl rfl rfl (by omega)) rfl ?_
                refine RunL.ok (OpOk.assign rfl) rfl ?_
                refine RunL.nil ?_
                refine Run.inBlock ?_
                rw [show ys.length + 1 = (ys ++ [(((t.toNat : Int), ⟨vy3, h9⟩, b2.take l.toNat, nilV, Fo.nil) : Ee)]).length by simp]
                refine Run.ent (Ent.ownNil' _ 66 3 (Fl encT66 ([] : List Ee)) rfl) ?_
                refine Run.mem (sep_emp _).symm ?_
                rw [show emp = ownsE (top .nil) from rfl]
                have hgl : (ys ++ [(((t.toNat : Int), ⟨vy3, h9⟩, b2.take l.toNat, nilV, Fo.nil) : Ee)]).getD ((ys ++ [(((t.toNat : Int), ⟨vy3, h9⟩, b2.take l.toNat, nilV, Fo.nil) : Ee)]).length - 1) default = ((t.toNat : Int), ⟨vy3, h9⟩, b2.take l.toNat, nilV, Fo.nil) := by simp
                refine Run.jump ((ih (at_ + 2 + (b2.take l.toNat).length, _, _, ys ++ [(((t.toNat : Int), ⟨vy3, h9⟩, b2.take l.toNat, nilV, Fo.nil) : Ee)], (t.toNat : Int)) ⟨by dsimp only; omega, by dsimp only; rw [strL_append, hdn, hg0]; exact hdr, by simp; omega, by dsimp only; omega, .inr ⟨by simp, by rw [hgl], by dsimp only; omega⟩⟩ (by dsimp only; omega))) ⟨rfl, rfl, rfl, rfl, trivial⟩ (by simp only [ownsE_snoc, ← sep_assoc]; exact (Grew.of (Eq.trans (frc rfl (frc rfl (frc (frl (frl (frl rfl))) (frc (frl (frl (frl rfl))) rfl)))) (congrArg (· * _) (congrArg (· * _) (congrArg (· * _) (congrArg (· * _) (congrArg (· * _) (asg (asg as1)))))))) (Grew.refl _)))
            · rw [get_built (by omega) (by omega) h6 h7] at hdr
              have hrec : CGet w0 (n - 1) := hall (n - 1) (by omega)
              rcases hs : get (b2.take l.toNat) (d + 1) 0 with ⟨f2, e2⟩
              rw [hs] at hdr
              dsimp only at hdr
              rcases Decidable.em (e2 = 0) with he2 | he2
              · subst he2
                rw [if_pos rfl, appR_cons] at hdr
                rcases hla with ⟨hla1, hla2⟩ | ⟨hla1, hla2, hla3⟩
                · refine Run.seq ?_
                  refine Run.seq ?_
                  refine Run.region ?_
                  refine RunL.ok (OpOk.move rfl) rfl ?_
                  refine RunL.ok (OpOk.move rfl) rfl ?_
                  refine RunL.ok (OpOk.lenR rfl rfl rd.left.left.left rfl) rfl ?_
                  refine RunL.ok (OpOk.asT (OpOk.lss rfl rfl) (by omega)) rfl ?_
                  refine RunL.nil ?_
                  refine Run.condT rfl ?_
                  refine Run.skip ?_
                  refine Run.block ?_
                  refine Run.seq ?_
                  refine Run.region ?_
                  refine RunL.alloc ti66 rfl (fun by1 => ?_)
                  refine RunL.nil ?_
                  refine Run.seq ?_
                  refine Run.region ?_
                  refine RunL.ok (OpOk.move rfl) rfl ?_
                  refine RunL.ok (OpOk.move rfl) rfl ?_
                  refine RunL.ok (OpOk.idx1N rfl ti5 rfl rd.left.left.left.left rfl (by omega)) rfl ?_
                  refine RunL.ok (OpOk.load rfl rfl rfl (Rd.getBE (by assumption) rd.left.left.left.left (by omega))) rfl ?_
                  refine RunL.ok (OpOk.convInt rfl rfl rfl (wrapI (by omega) (by omega))) rfl ?_
                  refine RunL.ok (OpOk.fieldAddr fld66_0 rfl) rfl ?_
                  refine RunL.store ti3 rfl rfl rfl rfl (by exact Nat.le_of_ble_eq_true rfl) (.inl rfl) ?_
                  refine RunL.nil ?_
                  refine Run.seq ?_
                  refine Run.seq ?_
                  refine Run.region ?_
                  refine RunL.ok (OpOk.move rfl) rfl ?_
                  refine RunL.ok (OpOk.asF (OpOk.gtr rfl rfl) (by omega)) rfl ?_
                  refine RunL.nil ?_
                  refine Run.condF rfl ?_
                  refine Run.skip ?_
                  refine Run.seq ?_
                  refine Run.seq ?_
                  refine Run.know (fun w s => (s.conv (frl (frl rfl))).ownRd0) (fun rdy2 => ?_)
                  (apply Run.drawD [] (by rfl) (sep_emp _).symm; case hchk => kernel_rfl)
                  refine Sd.quiet 0 _ _ rfl rfl rfl rfl rfl (QOp.ok (fun X => OpOk.fieldAddr fld66_0 rfl)) ?_
                  refine Sd.quiet 1 _ _ rfl rfl rfl rfl rfl (QOp.ok (fun X => OpOk.load rfl rfl rfl (Blk.out Blk.pts.left.left _ _ (by first | rfl | assumption)))) ?_
                  refine Sd.quiet 2 _ _ rfl rfl rfl rfl rfl (QOp.ok (fun X => OpOk.asF (OpOk.eql rfl rfl) (by omega))) ?_
                  refine Sd.quiet 3 _ _ rfl rfl rfl rfl rfl (QOp.ok (fun X => OpOk.move rfl)) ?_
                  refine Sd.quiet 4 _ _ rfl rfl rfl rfl rfl (QOp.ok (fun X => OpOk.move rfl)) ?_
                  refine Sd.quiet 5 _ _ rfl rfl rfl rfl rfl (QOp.ok (fun X => OpOk.lenR rfl rfl (Rd.right rdy2).left.left.left.left rfl)) ?_
                  refine Sd.quiet 6 _ _ rfl rfl rfl rfl rfl (QOp.ok (fun X => OpOk.asF (OpOk.gtr rfl rfl) (by omega))) ?_
                  refine Sd.quiet 7 _ _ rfl rfl rfl rfl rfl (QOp.ok (fun X => OpOk.move rfl)) ?_
                  refine Sd.skip 8 _ rfl rfl rfl rfl rfl ?_
                  refine Sd.skip 9 _ rfl rfl rfl rfl rfl ?_
                  refine Sd.skip 10 _ rfl rfl rfl rfl rfl ?_
                  refine Sd.skip 11 _ rfl rfl rfl rfl rfl ?_
                  refine Sd.skip 12 _ rfl rfl rfl rfl rfl ?_
                  refine Sd.skip 13 _ rfl rfl rfl rfl rfl ?_
                  refine Sd.skip 14 _ rfl rfl rfl rfl rfl ?_
                  refine Sd.skip 15 _ rfl rfl rfl rfl rfl ?_
                  refine Sd.skip 16 _ rfl rfl rfl rfl rfl ?_
                  refine Sd.skip 17 _ rfl rfl rfl rfl rfl ?_
                  refine Sd.quiet 18 _ _ rfl rfl rfl rfl rfl (QOp.ok (fun X => OpOk.pickF rfl rfl)) ?_
                  refine Sd.quiet 19 _ _ rfl rfl rfl rfl rfl (QOp.ok (fun X => OpOk.pickF rfl rfl)) ?_
                  (apply Sd.tail; case hall => kernel_rfl)
                  refine RunL.mem (fl2 (sep_emp _) (sep_emp _)) ?_
                  refine RunL.nil ?_
                  refine Run.condF rfl ?_
                  refine Run.skip ?_
                  refine Run.seq ?_
                  refine Run.seq ?_
                  refine Run.region ?_
                  refine RunL.ok (OpOk.move rfl) rfl ?_
                  refine RunL.ok (OpOk.addN _ 1 rfl rfl rfl rfl (by omega)) rfl ?_
                  refine RunL.ok (OpOk.move rfl) rfl ?_
                  refine RunL.ok (OpOk.lenR rfl rfl rd.left.left.left.left rfl) rfl ?_
                  refine RunL.ok (OpOk.asF (OpOk.geq rfl rfl) (by omega)) rfl ?_
                  refine RunL.ok (OpOk.move rfl) rfl ?_
                  refine RunL.on rfl rfl ?_
                  refine RunL.ok (OpOk.move rfl) rfl ?_
                  refine RunL.on rfl rfl ?_
                  refine RunL.ok (OpOk.addN _ 2 rfl rfl rfl rfl (by omega)) rfl ?_
                  refine RunL.on rfl rfl ?_
                  refine RunL.ok (OpOk.move rfl) rfl ?_
                  refine RunL.on rfl rfl ?_
                  refine RunL.ok (OpOk.move rfl) rfl ?_
                  refine RunL.on rfl rfl ?_
                  refine RunL.ok (OpOk.addN _ 1 rfl rfl rfl rfl (by omega)) rfl ?_
                  refine RunL.on rfl rfl ?_
                  refine RunL.ok (OpOk.idx1N rfl ti5 rfl rd.left.left.left.left rfl (by omega)) rfl ?_
                  refine RunL.on rfl rfl ?_
                  refine RunL.ok (OpOk.load rfl rfl rfl (Rd.getBE (by assumption) rd.left.left.left.left (by omega))) rfl ?_
                  refine RunL.on rfl rfl ?_
                  refine RunL.ok (OpOk.convInt rfl rfl rfl (wrapI (by omega) (by omega))) rfl ?_
                  refine RunL.on rfl rfl ?_
                  refine RunL.ok (OpOk.addN _ _ rfl rfl rfl rfl (by omega)) rfl ?_
                  refine RunL.on rfl rfl ?_
                  refine RunL.ok (OpOk.move rfl) rfl ?_
                  refine RunL.on rfl rfl ?_
                  refine RunL.ok (OpOk.lenR rfl rfl rd.left.left.left.left rfl) rfl ?_
                  refine RunL.on rfl rfl ?_
                  refine RunL.ok (OpOk.asF (OpOk.gtr rfl rfl) (by omega)) rfl ?_
                  refine RunL.ok (OpOk.pickF rfl rfl) rfl ?_
                  refine RunL.nil ?_
                  refine Run.condF rfl ?_
                  refine Run.skip ?_
                  refine Run.seq ?_
                  refine Run.region ?_
                  refine RunL.ok (OpOk.move rfl) rfl ?_
                  refine RunL.ok (OpOk.move rfl) rfl ?_
                  refine RunL.ok (OpOk.addN _ 2 rfl rfl rfl rfl (by omega)) rfl ?_
                  refine RunL.ok (OpOk.move rfl) rfl ?_
                  refine RunL.ok (OpOk.addN _ 2 rfl rfl rfl rfl (by omega)) rfl ?_
                  refine RunL.ok (OpOk.move rfl) rfl ?_
                  refine RunL.ok (OpOk.move rfl) rfl ?_
                  refine RunL.ok (OpOk.addN _ 1 rfl rfl rfl rfl (by omega)) rfl ?_
                  refine RunL.ok (OpOk.idx1N rfl ti5 rfl rd.left.left.left.left rfl (by omega)) rfl ?_
                  refine RunL.ok (OpOk.load rfl rfl rfl (Rd.getBE (by assumption) rd.left.left.left.left (by omega))) rfl ?_
                  refine RunL.ok (OpOk.convInt rfl rfl rfl (wrapI (by omega) (by omega))) rfl ?_
                  refine RunL.ok (OpOk.addN _ _ rfl rfl rfl rfl (by omega)) rfl ?_
                  refine RunL.ok (OpOk.cut rfl ti5 rfl rd.left.left.left.left ⟨_, rfl⟩ ⟨_, rfl⟩ (by omega) (by omega)) rfl ?_
                  refine RunL.ok (OpOk.assign rfl) rfl ?_
                  refine RunL.nil ?_
                  refine Run.seq ?_
                  refine Run.seq ?_
                  refine Run.region ?_
                  refine RunL.ok (OpOk.fieldAddr fld66_0 rfl) rfl ?_
                  refine RunL.ok (OpOk.load rfl rfl rfl (Blk.out Blk.pts _ _ (by first | rfl | assumption))) rfl ?_
                  refine RunL.ok (OpOk.asF (OpOk.lss rfl rfl) (by omega)) rfl ?_
                  refine RunL.nil ?_
                  refine Run.condF rfl ?_
                  refine Run.seq ?_
                  refine Run.region ?_
                  refine RunL.ok (OpOk.move rfl) rfl ?_
                  refine RunL.ok (OpOk.move rfl) rfl ?_
                  refine RunL.ok (OpOk.addN _ 1 rfl rfl rfl rfl (by omega)) rfl ?_
                  refine RunL.know (fun w s => (s.conv (frl rfl)).ownsE0) (fun aly3 => ?_)
                  refine RunL.call cal33 rfl (s33 rdB.left.left.left.left (by assumption) (by assumption) (by omega) (by omega) (by omega)) rfl (fun vy4 Ay4 hy4 => ?_)
                  obtain ⟨y5, ⟨y6, ⟨y7, ⟨rfl, ⟨y8, rfl⟩⟩⟩⟩⟩ := hy4
                  refine RunL.ok (OpOk.move rfl) rfl ?_
                  refine RunL.ok (OpOk.ext20 rfl) rfl ?_
                  refine RunL.ok (OpOk.ext21 rfl) rfl ?_
                  refine RunL.ok (OpOk.assign rfl) rfl ?_
                  refine RunL.ok (OpOk.assign rfl) rfl ?_
                  refine RunL.nil ?_
                  refine Run.seq ?_
                  refine Run.seq ?_
                  refine Run.region ?_
                  refine RunL.ok (OpOk.move rfl) rfl ?_
                  refine RunL.ok (OpOk.as (c := false) (OpOk.neq rfl rfl) (by rw [decide_eq_true (by omega)]; rfl)) rfl ?_
                  refine RunL.nil ?_
                  refine Run.condF rfl ?_
                  refine Run.skip ?_
                  refine Run.region ?_
                  refine RunL.ok (OpOk.move rfl) rfl ?_
                  refine RunL.ok (OpOk.fieldAddr fld66_2 rfl) rfl ?_
                  refine RunL.know (fun w s => (s.conv (frl rfl)).ownRd0) (fun rdy9 => ?_)
                  refine RunL.store ti50 rfl rfl (Rd.one rdy9) (frl (frl (frl rfl))) (by exact Nat.le_of_ble_eq_true rfl) (.inl rfl) ?_
                  refine RunL.nil ?_
                  refine Run.seq ?_
                  refine Run.region ?_
                  refine RunL.ok (OpOk.move rfl) rfl ?_
                  refine RunL.ok (OpOk.loadS rfl rfl ti66 rfl Blk.pts rfl) rfl ?_
                  obtain ⟨fo, rfl⟩ : ∃ fo, y6 = top fo := ⟨untop y6, (top_untop _).symm⟩
                  have h9 : y5.oneCell' = true := Rd.one rdy9
                  rw [strL_top] at y8
                  rw [show Value.agg (((Value.agg #[.int .i64 0, .slice none 0 0, .slice none 0 0]).cells.setIfInBounds (0 + 0) (.int .i64 (t.toNat : Int))).toList.set (0 + 2) y5).toArray = .agg (encT66 ((t.toNat : Int), nilV, [], ⟨y5, h9⟩, fo)).toArray from rfl]
                  refine RunL.litFl (enc := encT66) [(↑t.toNat, nilV, [], ⟨y5, h9⟩, fo)] rfl ti66 rfl (fun _ => rfl) rfl rfl (by decide) (by decide) rfl (fun vz1 rdz1 => ?_)
                  refine RunL.know (fun w s => (s.conv rfl).ownRd0) (fun rdz3 => ?_)
                  refine RunL.appendF rfl ti66 rfl rfl rfl (frl (frl (frl (frl (frl (frl rfl)))))) (Rd.right rdz3) rfl (by decide) (by omega) (by simp only [maxLen]; omega) rfl (fun vz2 rdz2 => ?_)
                  refine RunL.ok (OpOk.assign rfl) rfl ?_
                  refine RunL.nil ?_
                  refine Run.region ?_
                  refine RunL.ok (OpOk.move rfl) rfl ?_
                  refine RunL.ok (OpOk.addN _ 2 rfl rfl rfl rfl (by omega)) rfl ?_
                  refine RunL.ok (OpOk.move rfl) rfl ?_
                  refine RunL.ok (OpOk.lenR rfl rfl rdB.left.left.left.left.left.left.left.left rfl) rfl ?_
                  refine RunL.ok (OpOk.addN _ _ rfl rfl rfl rfl (by omega)) rfl ?_
                  refine RunL.ok (OpOk.assign rfl) rfl ?_
                  refine RunL.nil ?_
                  refine Run.inBlock ?_
                  rw [show ys.length + 1 = (ys ++ [(((t.toNat : Int), nilV, [], ⟨y5, h9⟩, fo) : Ee)]).length by simp]
                  refine Run.ent (Ent.ownNil' _ 5 1 (B []) rfl) ?_
                  have hgl : (ys ++ [(((t.toNat : Int), nilV, [], ⟨y5, h9⟩, fo) : Ee)]).getD ((ys ++ [(((t.toNat : Int), nilV, [], ⟨y5, h9⟩, fo) : Ee)]).length - 1) default = ((t.toNat : Int), nilV, [], ⟨y5, h9⟩, fo) := by simp
                  refine Run.jump ((ih (at_ + 2 + (b2.take l.toNat).length, _, _, ys ++ [(((t.toNat : Int), nilV, [], ⟨y5, h9⟩, fo) : Ee)], (t.toNat : Int)) ⟨by dsimp only; omega, by dsimp only; rw [strL_append, hdn, hg0, strL, y8]; exact hdr, by simp; omega, by dsimp only; omega, .inr ⟨by simp, by rw [hgl], by dsimp only; omega⟩⟩ (by dsimp only; omega))) ⟨rfl, rfl, rfl, rfl, trivial⟩ (by simp only [ownsE_snoc, ← sep_assoc]; exact (Grew.of (Eq.trans (frc (frl (frl (frl (frl rfl)))) (frc (frl (frl (frl (frl rfl)))) (frc rfl (frc (frl (frl (frl (frl rfl)))) rfl)))) (congrArg (· * _) (congrArg (· * _) (congrArg (· * _) (congrArg (· * _) (congrArg (· * _) (asg (asg (asg as1))))))))) (Grew.refl _)))
                · refine Run.seq ?_
                  refine Run.seq ?_
                  refine Run.region ?_
                  refine RunL.ok (OpOk.move rfl) rfl ?_
                  refine RunL.ok (OpOk.move rfl) rfl ?_
                  refine RunL.ok (OpOk.lenR rfl rfl rd.left.left.left rfl) rfl ?_
                  refine RunL.ok (OpOk.asT (OpOk.lss rfl rfl) (by omega)) rfl ?_
                  refine RunL.nil ?_
                  refine Run.condT rfl ?_
                  refine Run.skip ?_
                  refine Run.block ?_
                  refine Run.seq ?_
                  refine Run.region ?_
                  refine RunL.alloc ti66 rfl (fun by1 => ?_)
                  refine RunL.nil ?_
                  refine Run.seq ?_
                  refine Run.region ?_
                  refine RunL.ok (OpOk.move rfl) rfl ?_
                  refine RunL.ok (OpOk.move rfl) rfl ?_
                  refine RunL.ok (OpOk.idx1N rfl ti5 rfl rd.left.left.left.left rfl (by omega)) rfl ?_
                  refine RunL.ok (OpOk.load rfl rfl rfl (Rd.getBE (by assumption) rd.left.left.left.left (by omega))) rfl ?_
                  refine RunL.ok (OpOk.convInt rfl rfl rfl (wrapI (by omega) (by omega))) rfl ?_
                  refine RunL.ok (OpOk.fieldAddr fld66_0 rfl) rfl ?_
                  refine RunL.store ti3 rfl rfl rfl rfl (by exact Nat.le_of_ble_eq_true rfl) (.inl rfl) ?_
                  refine RunL.nil ?_
                  refine Run.seq ?_
                  refine Run.seq ?_
                  refine Run.region ?_
                  refine RunL.ok (OpOk.move rfl) rfl ?_
                  refine RunL.ok (OpOk.asF (OpOk.gtr rfl rfl) (by omega)) rfl ?_
                  refine RunL.nil ?_
                  refine Run.condF rfl ?_
                  refine Run.skip ?_
                  refine Run.seq ?_
                  refine Run.seq ?_
                  refine Run.know (fun w s => (s.conv (frl (frl rfl))).ownRd0) (fun rdy2 => ?_)
                  (apply Run.drawD [] (by rfl) (sep_emp _).symm; case hchk => kernel_rfl)
                  refine Sd.quiet 0 _ _ rfl rfl rfl rfl rfl (QOp.ok (fun X => OpOk.fieldAddr fld66_0 rfl)) ?_
                  refine Sd.quiet 1 _ _ rfl rfl rfl rfl rfl (QOp.ok (fun X => OpOk.load rfl rfl rfl (Blk.out Blk.pts.left.left _ _ (by first | rfl | assumption)))) ?_
                  refine Sd.quiet 2 _ _ rfl rfl rfl rfl rfl (QOp.ok (fun X => OpOk.asF (OpOk.eql rfl rfl) (by omega))) ?_
                  refine Sd.quiet 3 _ _ rfl rfl rfl rfl rfl (QOp.ok (fun X => OpOk.move rfl)) ?_
                  refine Sd.quiet 4 _ _ rfl rfl rfl rfl rfl (QOp.ok (fun X => OpOk.move rfl)) ?_
                  refine Sd.quiet 5 _ _ rfl rfl rfl rfl rfl (QOp.ok (fun X => OpOk.lenR rfl rfl (Rd.right rdy2).left.left.left.left rfl)) ?_
                  refine Sd.quiet 6 _ _ rfl rfl rfl rfl rfl (QOp.ok (fun X => OpOk.asT (OpOk.gtr rfl rfl) (by omega))) ?_
                  refine Sd.quiet 7 _ _ rfl rfl rfl rfl rfl (QOp.ok (fun X => OpOk.move rfl)) ?_
                  refine Sd.quiet 8 _ _ rfl rfl rfl rfl rfl (QOp.ok (fun X => OpOk.move rfl)) ?_
                  refine Sd.quiet 9 _ _ rfl rfl rfl rfl rfl (QOp.ok (fun X => OpOk.move rfl)) ?_
                  refine Sd.quiet 10 _ _ rfl rfl rfl rfl rfl (QOp.ok (fun X => OpOk.lenR rfl rfl (Rd.right rdy2).left.left.left.left rfl)) ?_
                  refine Sd.quiet 11 _ _ rfl rfl rfl rfl rfl (QOp.ok (fun X => OpOk.subN _ 1 rfl rfl rfl rfl (by omega) (by omega))) ?_
                  refine Sd.quiet 12 _ _ rfl rfl rfl rfl rfl (QOp.ok (fun X => OpOk.idxN rfl ti66 rfl (Rd.right rdy2).left.left.left.left rfl (by omega))) ?_
                  refine Sd.quiet 13 _ _ rfl rfl rfl rfl rfl (QOp.ok (fun X => OpOk.fieldAddrA fld66_0 rfl)) ?_
                  refine Sd.quiet 14 _ _ rfl rfl rfl rfl rfl (QOp.ok (fun X => OpOk.loadFl1E hoe2 rfl rfl rfl (Rd.right rdy2).left.left.left.left (fun _ => rfl) rfl (by omega) rfl)) ?_
                  refine Sd.quiet 15 _ _ rfl rfl rfl rfl rfl (QOp.ok (fun X => OpOk.fieldAddr fld66_0 rfl)) ?_
                  refine Sd.quiet 16 _ _ rfl rfl rfl rfl rfl (QOp.ok (fun X => OpOk.load rfl rfl rfl (Blk.out Blk.pts.left.left _ _ (by first | rfl | assumption)))) ?_
                  refine Sd.quiet 17 _ _ rfl rfl rfl rfl rfl (QOp.ok (fun X => OpOk.asF (OpOk.geq rfl rfl) (by omega))) ?_
                  refine Sd.quiet 18 _ _ rfl rfl rfl rfl rfl (QOp.ok (fun X => OpOk.pickT rfl rfl)) ?_
                  refine Sd.quiet 19 _ _ rfl rfl rfl rfl rfl (QOp.ok (fun X => OpOk.pickF rfl rfl)) ?_
                  (apply Sd.tail; case hall => kernel_rfl)
                  refine RunL.mem (fl2 (sep_emp _) (sep_emp _)) ?_
                  refine RunL.nil ?_
                  refine Run.condF rfl ?_
                  refine Run.skip ?_
                  refine Run.seq ?_
                  refine Run.seq ?_
                  refine Run.region ?_
                  refine RunL.ok (OpOk.move rfl) rfl ?_
                  refine RunL.ok (OpOk.addN _ 1 rfl rfl rfl rfl (by omega)) rfl ?_
                  refine RunL.ok (OpOk.move rfl) rfl ?_
                  refine RunL.ok (OpOk.lenR rfl rfl rd.left.left.left.left rfl) rfl ?_
                  refine RunL.ok (OpOk.asF (OpOk.geq rfl rfl) (by omega)) rfl ?_
                  refine RunL.ok (OpOk.move rfl) rfl ?_
                  refine RunL.on rfl rfl ?_
                  refine RunL.ok (OpOk.move rfl) rfl ?_
                  refine RunL.on rfl rfl ?_
                  refine RunL.ok (OpOk.addN _ 2 rfl rfl rfl rfl (by omega)) rfl ?_
                  refine RunL.on rfl rfl ?_
                  refine RunL.ok (OpOk.move rfl) rfl ?_
                  refine RunL.on rfl rfl ?_
                  refine RunL.ok (OpOk.move rfl) rfl ?_
                  refine RunL.on rfl rfl ?_
                  refine RunL.ok (OpOk.addN _ 1 rfl rfl rfl rfl (by omega)) rfl ?_
                  refine RunL.on rfl rfl ?_
                  refine RunL.ok (OpOk.idx1N rfl ti5 rfl rd.left.left.left.left rfl (by omega)) rfl ?_
                  refine RunL.on rfl rfl ?_
                  refine RunL.ok (OpOk.load rfl rfl rfl (Rd.getBE (by assumption) rd.left.left.left.left (by omega))) rfl ?_
                  refine RunL.on rfl rfl ?_
                  refine RunL.ok (OpOk.convInt rfl rfl rfl (wrapI (by omega) (by omega))) rfl ?_
                  refine RunL.on rfl rfl ?_
                  refine RunL.ok (OpOk.addN _ _ rfl rfl rfl rfl (by omega)) rfl ?_
                  refine RunL.on rfl rfl ?_
                  refine RunL.ok (OpOk.move rfl) rfl ?_
                  refine RunL.on rfl rfl ?_
                  refine RunL.ok (OpOk.lenR rfl rfl rd.left.left.left.left rfl) rfl ?_
                  refine RunL.on rfl rfl ?_
                  refine RunL.ok (OpOk.asF (OpOk.gtr rfl rfl) (by omega)) rfl ?_
                  refine RunL.ok (OpOk.pickF rfl rfl) rfl ?_
                  refine RunL.nil ?_
                  refine Run.condF rfl ?_
                  refine Run.skip ?_
                  refine Run.seq ?_
                  refine Run.region ?_
                  refine RunL.ok (OpOk.move rfl) rfl ?_
                  refine RunL.ok (OpOk.move rfl) rfl ?_
                  refine RunL.ok (OpOk.addN _ 2 rfl rfl rfl rfl (by omega)) rfl ?_
                  refine RunL.ok (OpOk.move rfl) rfl ?_
                  refine RunL.ok (OpOk.addN _ 2 rfl rfl rfl rfl (by omega)) rfl ?_
                  refine RunL.ok (OpOk.move rfl) rfl ?_
                  refine RunL.ok (OpOk.move rfl) rfl ?_
                  refine RunL.ok (OpOk.addN _ 1 rfl rfl rfl rfl (by omega)) rfl ?_
                  refine RunL.ok (OpOk.idx1N rfl ti5 rfl rd.left.left.left.left rfl (by omega)) rfl ?_
                  refine RunL.ok (OpOk.load rfl rfl rfl (Rd.getBE (by assumption) rd.left.left.left.left (by omega))) rfl ?_
                  refine RunL.ok (OpOk.convInt rfl rfl rfl (wrapI (by omega) (by omega))) rfl ?_
                  refine RunL.ok (OpOk.addN _ _ rfl rfl rfl rfl (by omega)) rfl ?_
                  refine RunL.ok (OpOk.cut rfl ti5 rfl rd.left.left.left.left ⟨_, rfl⟩ ⟨_, rfl⟩ (by omega) (by omega)) rfl ?_
                  refine RunL.ok (OpOk.assign rfl) rfl ?_
                  refine RunL.nil ?_
                  refine Run.seq ?_
                  refine Run.seq ?_
                  refine Run.region ?_
                  refine RunL.ok (OpOk.fieldAddr fld66_0 rfl) rfl ?_
                  refine RunL.ok (OpOk.load rfl rfl rfl (Blk.out Blk.pts _ _ (by first | rfl | assumption))) rfl ?_
                  refine RunL.ok (OpOk.asF (OpOk.lss rfl rfl) (by omega)) rfl ?_
                  refine RunL.nil ?_
                  refine Run.condF rfl ?_
                  refine Run.seq ?_
                  refine Run.region ?_
                  refine RunL.ok (OpOk.move rfl) rfl ?_
                  refine RunL.ok (OpOk.move rfl) rfl ?_
                  refine RunL.ok (OpOk.addN _ 1 rfl rfl rfl rfl (by omega)) rfl ?_
                  refine RunL.know (fun w s => (s.conv (frl rfl)).ownsE0) (fun aly3 => ?_)
                  refine RunL.call cal33 rfl (s33 rdB.left.left.left.left (by assumption) (by assumption) (by omega) (by omega) (by omega)) rfl (fun vy4 Ay4 hy4 => ?_)
                  obtain ⟨y5, ⟨y6, ⟨y7, ⟨rfl, ⟨y8, rfl⟩⟩⟩⟩⟩ := hy4
                  refine RunL.ok (OpOk.move rfl) rfl ?_
                  refine RunL.ok (OpOk.ext20 rfl) rfl ?_
                  refine RunL.ok (OpOk.ext21 rfl) rfl ?_
                  refine RunL.ok (OpOk.assign rfl) rfl ?_
                  refine RunL.ok (OpOk.assign rfl) rfl ?_
                  refine RunL.nil ?_
                  refine Run.seq ?_
                  refine Run.seq ?_
                  refine Run.region ?_
                  refine RunL.ok (OpOk.move rfl) rfl ?_
                  refine RunL.ok (OpOk.as (c := false) (OpOk.neq rfl rfl) (by rw [decide_eq_true (by omega)]; rfl)) rfl ?_
                  refine RunL.nil ?_
                  refine Run.condF rfl ?_
                  refine Run.skip ?_
                  refine Run.region ?_
                  refine RunL.ok (OpOk.move rfl) rfl ?_
                  refine RunL.ok (OpOk.fieldAddr fld66_2 rfl) rfl ?_
                  refine RunL.know (fun w s => (s.conv (frl rfl)).ownRd0) (fun rdy9 => ?_)
                  refine RunL.store ti50 rfl rfl (Rd.one rdy9) (frl (frl (frl rfl))) (by exact Nat.le_of_ble_eq_true rfl) (.inl rfl) ?_
                  refine RunL.nil ?_
                  refine Run.seq ?_
                  refine Run.region ?_
                  refine RunL.ok (OpOk.move rfl) rfl ?_
                  refine RunL.ok (OpOk.loadS rfl rfl ti66 rfl Blk.pts rfl) rfl ?_
                  obtain ⟨fo, rfl⟩ : ∃ fo, y6 = top fo := ⟨untop y6, (top_untop _).symm⟩
                  have h9 : y5.oneCell' = true := Rd.one rdy9
                  rw [strL_top] at y8
                  rw [show Value.agg (((Value.agg #[.int .i64 0, .slice none 0 0, .slice none 0 0]).cells.setIfInBounds (0 + 0) (.int .i64 (t.toNat : Int))).toList.set (0 + 2) y5).toArray = .agg (encT66 ((t.toNat : Int), nilV, [], ⟨y5, h9⟩, fo)).toArray from rfl]
                  refine RunL.litFl (enc := encT66) [(↑t.toNat, nilV, [], ⟨y5, h9⟩, fo)] rfl ti66 rfl (fun _ => rfl) rfl rfl (by decide) (by decide) rfl (fun vz1 rdz1 => ?_)
                  refine RunL.know (fun w s => (s.conv rfl).ownRd0) (fun rdz3 => ?_)
                  refine RunL.appendF rfl ti66 rfl rfl rfl (frl (frl (frl (frl (frl (frl rfl)))))) (Rd.right rdz3) rfl (by decide) (by omega) (by simp only [maxLen]; omega) rfl (fun vz2 rdz2 => ?_)
                  refine RunL.ok (OpOk.assign rfl) rfl ?_
                  refine RunL.nil ?_
                  refine Run.region ?_
                  refine RunL.ok (OpOk.move rfl) rfl ?_
                  refine RunL.ok (OpOk.addN _ 2 rfl rfl rfl rfl (by omega)) rfl ?_
                  refine RunL.ok (OpOk.move rfl) rfl ?_
                  refine RunL.ok (OpOk.lenR rfl rfl rdB.left.left.left.left.left.left.left.left rfl) rfl ?_
                  refine RunL.ok (OpOk.addN _ _ rfl rfl rfl rfl (by omega)) rfl ?_
                  refine RunL.ok (OpOk.assign rfl) rfl ?_
                  refine RunL.nil ?_
                  refine Run.inBlock ?_
                  rw [show ys.length + 1 = (ys ++ [(((t.toNat : Int), nilV, [], ⟨y5, h9⟩, fo) : Ee)]).length by simp]
                  refine Run.ent (Ent.ownNil' _ 5 1 (B []) rfl) ?_
                  have hgl : (ys ++ [(((t.toNat : Int), nilV, [], ⟨y5, h9⟩, fo) : Ee)]).getD ((ys ++ [(((t.toNat : Int), nilV, [], ⟨y5, h9⟩, fo) : Ee)]).length - 1) default = ((t.toNat : Int), nilV, [], ⟨y5, h9⟩, fo) := by simp
                  refine Run.jump ((ih (at_ + 2 + (b2.take l.toNat).length, _, _, ys ++ [(((t.toNat : Int), nilV, [], ⟨y5, h9⟩, fo) : Ee)], (t.toNat : Int)) ⟨by dsimp only; omega, by dsimp only; rw [strL_append, hdn, hg0, strL, y8]; exact hdr, by simp; omega, by dsimp only; omega, .inr ⟨by simp, by rw [hgl], by dsimp only; omega⟩⟩ (by dsimp only; omega))) ⟨rfl, rfl, rfl, rfl, trivial⟩ (by simp only [ownsE_snoc, ← sep_assoc]; exact (Grew.of (Eq.trans (frc (frl (frl (frl (frl rfl)))) (frc (frl (frl (frl (frl rfl)))) (frc rfl (frc (frl (frl (frl (frl rfl)))) rfl)))) (congrArg (· * _) (congrArg (· * _) (congrArg (· * _) (congrArg (· * _) (congrArg (· * _) (asg (asg (asg as1))))))))) (Grew.refl _)))
              · rw [if_neg he2, appR_err _ _ he2] at hdr
                refine Run.seq ?_
                refine Run.seq ?_
                refine Run.region ?_
                refine RunL.ok (OpOk.move rfl) rfl ?_
                refine RunL.ok (OpOk.move rfl) rfl ?_
                refine RunL.ok (OpOk.lenR rfl rfl rd.left.left.left rfl) rfl ?_
                refine RunL.ok (OpOk.asT (OpOk.lss rfl rfl) (by omega)) rfl ?_
                refine RunL.nil ?_
                refine Run.condT rfl ?_
                refine Run.skip ?_
                refine Run.block ?_
                refine Run.seq ?_
                refine Run.region ?_
                refine RunL.alloc ti66 rfl (fun by1 => ?_)
                refine RunL.nil ?_
                refine Run.seq ?_
                refine Run.region ?_
                refine RunL.ok (OpOk.move rfl) rfl ?_
                refine RunL.ok (OpOk.move rfl) rfl ?_
                refine RunL.ok (OpOk.idx1N rfl ti5 rfl rd.left.left.left.left rfl (by omega)) rfl ?_
                refine RunL.ok (OpOk.load rfl rfl rfl (Rd.getBE (by assumption) rd.left.left.left.left (by omega))) rfl ?_
                refine RunL.ok (OpOk.convInt rfl rfl rfl (wrapI (by omega) (by omega))) rfl ?_
                refine RunL.ok (OpOk.fieldAddr fld66_0 rfl) rfl ?_
                refine RunL.store ti3 rfl rfl rfl rfl (by exact Nat.le_of_ble_eq_true rfl) (.inl rfl) ?_
                refine RunL.nil ?_
                refine Run.seq ?_
                refine Run.seq ?_
                refine Run.region ?_
                refine RunL.ok (OpOk.move rfl) rfl ?_
                refine RunL.ok (OpOk.asF (OpOk.gtr rfl rfl) (by omega)) rfl ?_
                refine RunL.nil ?_
                refine Run.condF rfl ?_
                refine Run.skip ?_
                refine Run.seq ?_
                refine Run.seq ?_
                refine Run.know (fun w s => (s.conv (frl (frl rfl))).ownRd0) (fun rdy2 => ?_)
                (apply Run.drawD [] (by rfl) (sep_emp _).symm; case hchk => kernel_rfl)
                refine Sd.quiet 0 _ _ rfl rfl rfl rfl rfl (QOp.ok (fun X => OpOk.fieldAddr fld66_0 rfl)) ?_
                refine Sd.quiet 1 _ _ rfl rfl rfl rfl rfl (QOp.ok (fun X => OpOk.load rfl rfl rfl (Blk.out Blk.pts.left.left _ _ (by first | rfl | assumption)))) ?_
                refine Sd.quiet 2 _ _ rfl rfl rfl rfl rfl (QOp.ok (fun X => OpOk.asF (OpOk.eql rfl rfl) (by omega))) ?_
                refine Sd.quiet 3 _ _ rfl rfl rfl rfl rfl (QOp.ok (fun X => OpOk.move rfl)) ?_
                refine Sd.quiet 4 _ _ rfl rfl rfl rfl rfl (QOp.ok (fun X => OpOk.move rfl)) ?_
                refine Sd.quiet 5 _ _ rfl rfl rfl rfl rfl (QOp.ok (fun X => OpOk.lenR rfl rfl (Rd.right rdy2).left.left.left.left rfl)) ?_
                refine Sd.quiet 6 _ _ rfl rfl rfl rfl rfl (QOp.ok (fun X => OpOk.gtr rfl rfl)) ?_
                refine Sd.quiet 7 _ _ rfl rfl rfl rfl rfl (QOp.ok (fun X => OpOk.move rfl)) ?_
                refine Sd.splitD (fun y3 => ?_) (fun y3 => ?_)
                · refine Sd.quiet 8 _ _ rfl rfl rfl rfl rfl (QOp.ok (fun X => OpOk.move rfl)) ?_
                  refine Sd.quiet 9 _ _ rfl rfl rfl rfl rfl (QOp.ok (fun X => OpOk.move rfl)) ?_
                  refine Sd.quiet 10 _ _ rfl rfl rfl rfl rfl (QOp.ok (fun X => OpOk.lenR rfl rfl (Rd.right rdy2).left.left.left.left rfl)) ?_
                  refine Sd.quiet 11 _ _ rfl rfl rfl rfl rfl (QOp.ok (fun X => OpOk.subN _ 1 rfl rfl rfl rfl (by omega) (by omega))) ?_
                  refine Sd.quiet 12 _ _ rfl rfl rfl rfl rfl (QOp.ok (fun X => OpOk.idxN rfl ti66 rfl (Rd.right rdy2).left.left.left.left rfl (by omega))) ?_
                  refine Sd.quiet 13 _ _ rfl rfl rfl rfl rfl (QOp.ok (fun X => OpOk.fieldAddrA fld66_0 rfl)) ?_
                  refine Sd.quiet 14 _ _ rfl rfl rfl rfl rfl (QOp.ok (fun X => OpOk.loadFl1E hoe2 rfl rfl rfl (Rd.right rdy2).left.left.left.left (fun _ => rfl) rfl (by omega) rfl)) ?_
                  refine Sd.quiet 15 _ _ rfl rfl rfl rfl rfl (QOp.ok (fun X => OpOk.fieldAddr fld66_0 rfl)) ?_
                  refine Sd.quiet 16 _ _ rfl rfl rfl rfl rfl (QOp.ok (fun X => OpOk.load rfl rfl rfl (Blk.out Blk.pts.left.left _ _ (by first | rfl | assumption)))) ?_
                  refine Sd.quiet 17 _ _ rfl rfl rfl rfl rfl (QOp.ok (fun X => OpOk.asF (OpOk.geq rfl rfl) (by omega))) ?_
                  refine Sd.quiet 18 _ _ rfl rfl rfl rfl rfl (QOp.ok (fun X => OpOk.pickT rfl rfl)) ?_
                  refine Sd.quiet 19 _ _ rfl rfl rfl rfl rfl (QOp.ok (fun X => OpOk.pickF rfl rfl)) ?_
                  (apply Sd.tail; case hall => kernel_rfl)
                  refine RunL.mem (fl2 (sep_emp _) (sep_emp _)) ?_
                  refine RunL.nil ?_
                  refine Run.condF rfl ?_
                  refine Run.skip ?_
                  refine Run.seq ?_
                  refine Run.seq ?_
                  refine Run.region ?_
                  refine RunL.ok (OpOk.move rfl) rfl ?_
                  refine RunL.ok (OpOk.addN _ 1 rfl rfl rfl rfl (by omega)) rfl ?_
                  refine RunL.ok (OpOk.move rfl) rfl ?_
                  refine RunL.ok (OpOk.lenR rfl rfl rd.left.left.left.left rfl) rfl ?_
                  refine RunL.ok (OpOk.asF (OpOk.geq rfl rfl) (by omega)) rfl ?_
                  refine RunL.ok (OpOk.move rfl) rfl ?_
                  refine RunL.on rfl rfl ?_
                  refine RunL.ok (OpOk.move rfl) rfl ?_
                  refine RunL.on rfl rfl ?_
                  refine RunL.ok (OpOk.addN _ 2 rfl rfl rfl rfl (by omega)) rfl ?_
                  refine RunL.on rfl rfl ?_
                  refine RunL.ok (OpOk.move rfl) rfl ?_
                  refine RunL.on rfl rfl ?_
                  refine RunL.ok (OpOk.move rfl) rfl ?_
                  refine RunL.on rfl rfl ?_
                  refine RunL.ok (OpOk.addN _ 1 rfl rfl rfl rfl (by omega)) rfl ?_
                  refine RunL.on rfl rfl ?_
                  refine RunL.ok (OpOk.idx1N rfl ti5 rfl rd.left.left.left.left rfl (by omega)) rfl ?_
                  refine RunL.on rfl rfl ?_
                  refine RunL.ok (OpOk.load rfl rfl rfl (Rd.getBE (by assumption) rd.left.left.left.left (by omega))) rfl ?_
                  refine RunL.on rfl rfl ?_
                  refine RunL.ok (OpOk.convInt rfl rfl rfl (wrapI (by omega) (by omega))) rfl ?_
                  refine RunL.on rfl rfl ?_
                  refine RunL.ok (OpOk.addN _ _ rfl rfl rfl rfl (by omega)) rfl ?_
                  refine RunL.on rfl rfl ?_
                  refine RunL.ok (OpOk.move rfl) rfl ?_
                  refine RunL.on rfl rfl ?_
                  refine RunL.ok (OpOk.lenR rfl rfl rd.left.left.left.left rfl) rfl ?_
                  refine RunL.on rfl rfl ?_
                  refine RunL.ok (OpOk.asF (OpOk.gtr rfl rfl) (by omega)) rfl ?_
                  refine RunL.ok (OpOk.pickF rfl rfl) rfl ?_
                  refine RunL.nil ?_
                  refine Run.condF rfl ?_
                  refine Run.skip ?_
                  refine Run.seq ?_
                  refine Run.region ?_
                  refine RunL.ok (OpOk.move rfl) rfl ?_
                  refine RunL.ok (OpOk.move rfl) rfl ?_
                  refine RunL.ok (OpOk.addN _ 2 rfl rfl rfl rfl (by omega)) rfl ?_
                  refine RunL.ok (OpOk.move rfl) rfl ?_
                  refine RunL.ok (OpOk.addN _ 2 rfl rfl rfl rfl (by omega)) rfl ?_
                  refine RunL.ok (OpOk.move rfl) rfl ?_
                  refine RunL.ok (OpOk.move rfl) rfl ?_
                  refine RunL.ok (OpOk.addN _ 1 rfl rfl rfl rfl (by omega)) rfl ?_
                  refine RunL.ok (OpOk.idx1N rfl ti5 rfl rd.left.left.left.left rfl (by omega)) rfl ?_
                  refine RunL.ok (OpOk.load rfl rfl rfl (Rd.getBE (by assumption) rd.left.left.left.left (by omega))) rfl ?_
                  refine RunL.ok (OpOk.convInt rfl rfl rfl (wrapI (by omega) (by omega))) rfl ?_
                  refine RunL.ok (OpOk.addN _ _ rfl rfl rfl rfl (by omega)) rfl ?_
                  refine RunL.ok (OpOk.cut rfl ti5 rfl rd.left.left.left.left ⟨_, rfl⟩ ⟨_, rfl⟩ (by omega) (by omega)) rfl ?_
                  refine RunL.ok (OpOk.assign rfl) rfl ?_
                  refine RunL.nil ?_
                  refine Run.seq ?_
                  refine Run.seq ?_
                  refine Run.region ?_
                  refine RunL.ok (OpOk.fieldAddr fld66_0 rfl) rfl ?_
                  refine RunL.ok (OpOk.load rfl rfl rfl (Blk.out Blk.pts _ _ (by first | rfl | assumption))) rfl ?_
                  refine RunL.ok (OpOk.asF (OpOk.lss rfl rfl) (by omega)) rfl ?_
                  refine RunL.nil ?_
                  refine Run.condF rfl ?_
                  refine Run.seq ?_
                  refine Run.region ?_
                  refine RunL.ok (OpOk.move rfl) rfl ?_
                  refine RunL.ok (OpOk.move rfl) rfl ?_
                  refine RunL.ok (OpOk.addN _ 1 rfl rfl rfl rfl (by omega)) rfl ?_
                  refine RunL.know (fun w s => (s.conv (frl rfl)).ownsE0) (fun aly4 => ?_)
                  refine RunL.call cal33 rfl (s33 rdB.left.left.left.left (by assumption) (by assumption) (by omega) (by omega) (by omega)) rfl (fun vy5 Ay5 hy5 => ?_)
                  obtain ⟨y6, ⟨y7, ⟨y8, ⟨rfl, ⟨y9, rfl⟩⟩⟩⟩⟩ := hy5
                  refine RunL.ok (OpOk.move rfl) rfl ?_
                  refine RunL.ok (OpOk.ext20 rfl) rfl ?_
                  refine RunL.ok (OpOk.ext21 rfl) rfl ?_
                  refine RunL.ok (OpOk.assign rfl) rfl ?_
                  refine RunL.ok (OpOk.assign rfl) rfl ?_
                  refine RunL.nil ?_
                  refine Run.seq ?_
                  refine Run.seq ?_
                  refine Run.region ?_
                  refine RunL.ok (OpOk.move rfl) rfl ?_
                  refine RunL.ok (OpOk.as (c := true) (OpOk.neq rfl rfl) (by rw [decide_eq_false (by omega)]; rfl)) rfl ?_
                  refine RunL.nil ?_
                  refine Run.condT rfl ?_
                  refine Run.seq ?_
                  refine Run.region ?_
                  refine RunL.ok (OpOk.move rfl) rfl ?_
                  refine RunL.ok (OpOk.assign rfl) rfl ?_
                  refine RunL.ok (OpOk.assign rfl) rfl ?_
                  refine RunL.nil ?_
                  refine Run.ent (Ent.ownNil' _ 66 3 (Fl encT66 []) rfl) ?_
                  refine Run.ret2 Try.func33 rfl rfl rfl ?_
                  obtain ⟨rfl, rfl⟩ := Prod.mk.inj hdr
                  exact err_leaf (by repeat (first | exact grown0 | refine grown1 ?_))
                refine Sd.skip 8 _ rfl rfl rfl rfl rfl ?_
                refine Sd.skip 9 _ rfl rfl rfl rfl rfl ?_
                refine Sd.skip 10 _ rfl rfl rfl rfl rfl ?_
                refine Sd.skip 11 _ rfl rfl rfl rfl rfl ?_
                refine Sd.skip 12 _ rfl rfl rfl rfl rfl ?_
                refine Sd.skip 13 _ rfl rfl rfl rfl rfl ?_
                refine Sd.skip 14 _ rfl rfl rfl rfl rfl ?_
                refine Sd.skip 15 _ rfl rfl rfl rfl rfl ?_
                refine Sd.skip 16 _ rfl rfl rfl rfl rfl ?_
                refine Sd.skip 17 _ rfl rfl rfl rfl rfl ?_
                refine Sd.quiet 18 _ _ rfl rfl rfl rfl rfl (QOp.ok (fun X => OpOk.pickF rfl rfl)) ?_
                refine Sd.quiet 19 _ _ rfl rfl rfl rfl rfl (QOp.ok (fun X => OpOk.pickF rfl rfl)) ?_
                (apply Sd.tail; case hall => kernel_rfl)
                refine RunL.mem (fl2 (sep_emp _) (sep_emp _)) ?_
                refine RunL.nil ?_
                refine Run.condF rfl ?_
                refine Run.skip ?_
                refine Run.seq ?_
                refine Run.seq ?_
                refine Run.region ?_
                refine RunL.ok (OpOk.move rfl) rfl ?_
                refine RunL.ok (OpOk.addN _ 1 rfl rfl rfl rfl (by omega)) rfl ?_
                refine RunL.ok (OpOk.move rfl) rfl ?_
                refine RunL.ok (OpOk.lenR rfl rfl rd.left.left.left.left rfl) rfl ?_
                refine RunL.ok (OpOk.asF (OpOk.geq rfl rfl) (by omega)) rfl ?_
                refine RunL.ok (OpOk.move rfl) rfl ?_
                refine RunL.on rfl rfl ?_
                refine RunL.ok (OpOk.move rfl) rfl ?_
                refine RunL.on rfl rfl ?_
                refine RunL.ok (OpOk.addN _ 2 rfl rfl rfl rfl (by omega)) rfl ?_
                refine RunL.on rfl rfl ?_
                refine RunL.ok (OpOk.move rfl) rfl ?_
                refine RunL.on rfl rfl ?_
                refine RunL.ok (OpOk.move rfl) rfl ?_
                refine RunL.on rfl rfl ?_
                refine RunL.ok (OpOk.addN _ 1 rfl rfl rfl rfl (by omega)) rfl ?_
                refine RunL.on rfl rfl ?_
                refine RunL.ok (OpOk.idx1N rfl ti5 rfl rd.left.left.left.left rfl (by omega)) rfl ?_
                refine RunL.on rfl rfl ?_
                refine RunL.ok (OpOk.load rfl rfl rfl (Rd.getBE (by assumption) rd.left.left.left.left (by omega))) rfl ?_
                refine RunL.on rfl rfl ?_
                refine RunL.ok (OpOk.convInt rfl rfl rfl (wrapI (by omega) (by omega))) rfl ?_
                refine RunL.on rfl rfl ?_
                refine RunL.ok (OpOk.addN _ _ rfl rfl rfl rfl (by omega)) rfl ?_
                refine RunL.on rfl rfl ?_
                refine RunL.ok (OpOk.move rfl) rfl ?_
                refine RunL.on rfl rfl ?_
                refine RunL.ok (OpOk.lenR rfl rfl rd.left.left.left.left rfl) rfl ?_
                refine RunL.on rfl rfl ?_
                refine RunL.ok (OpOk.asF (OpOk.gtr rfl rfl) (by omega)) rfl ?_
                refine RunL.ok (OpOk.pickF rfl rfl) rfl ?_
                refine RunL.nil ?_
                refine Run.condF rfl ?_
                refine Run.skip ?_
                refine Run.seq ?_
                refine Run.region ?_
                refine RunL.ok (OpOk.move rfl) rfl ?_
                refine RunL.ok (OpOk.move rfl) rfl ?_
                refine RunL.ok (OpOk.addN _ 2 rfl rfl rfl rfl (by omega)) rfl ?_
                refine RunL.ok (OpOk.move rfl) rfl ?_
                refine RunL.ok (OpOk.addN _ 2 rfl rfl rfl rfl (by omega)) rfl ?_
                refine RunL.ok (OpOk.move rfl) rfl ?_
                refine RunL.ok (OpOk.move rfl) rfl ?_
                refine RunL.ok (OpOk.addN _ 1 rfl rfl rfl rfl (by omega)) rfl ?_
                refine RunL.ok (OpOk.idx1N rfl ti5 rfl rd.left.left.left.left rfl (by omega)) rfl ?_
                refine RunL.ok (OpOk.load rfl rfl rfl (Rd.getBE (by assumption) rd.left.left.left.left (by omega))) rfl ?_
                refine RunL.ok (OpOk.convInt rfl rfl rfl (wrapI (by omega) (by omega))) rfl ?_
                refine RunL.ok (OpOk.addN _ _ rfl rfl rfl rfl (by omega)) rfl ?_
                refine RunL.ok (OpOk.cut rfl ti5 rfl rd.left.left.left.left ⟨_, rfl⟩ ⟨_, rfl⟩ (by omega) (by omega)) rfl ?_
                refine RunL.ok (OpOk.assign rfl) rfl ?_
                refine RunL.nil ?_
                refine Run.seq ?_
                refine Run.seq ?_
                refine Run.region ?_
                refine RunL.ok (OpOk.fieldAddr fld66_0 rfl) rfl ?_
                refine RunL.ok (OpOk.load rfl rfl rfl (Blk.out Blk.pts _ _ (by first | rfl | assumption))) rfl ?_
                refine RunL.ok (OpOk.asF (OpOk.lss rfl rfl) (by omega)) rfl ?_
                refine RunL.nil ?_
                refine Run.condF rfl ?_
                refine Run.seq ?_
                refine Run.region ?_
                refine RunL.ok (OpOk.move rfl) rfl ?_
                refine RunL.ok (OpOk.move rfl) rfl ?_
                refine RunL.ok (OpOk.addN _ 1 rfl rfl rfl rfl (by omega)) rfl ?_
                refine RunL.know (fun w s => (s.conv (frl rfl)).ownsE0) (fun aly10 => ?_)
                refine RunL.call cal33 rfl (s33 rdB.left.left.left.left (by assumption) (by assumption) (by omega) (by omega) (by omega)) rfl (fun vy11 Ay11 hy11 => ?_)
                obtain ⟨y12, ⟨y13, ⟨y14, ⟨rfl, ⟨y15, rfl⟩⟩⟩⟩⟩ := hy11
                refine RunL.ok (OpOk.move rfl) rfl ?_
                refine RunL.ok (OpOk.ext20 rfl) rfl ?_
                refine RunL.ok (OpOk.ext21 rfl) rfl ?_
                refine RunL.ok (OpOk.assign rfl) rfl ?_
                refine RunL.ok (OpOk.assign rfl) rfl ?_
                refine RunL.nil ?_
                refine Run.seq ?_
                refine Run.seq ?_
                refine Run.region ?_
                refine RunL.ok (OpOk.move rfl) rfl ?_
                refine RunL.ok (OpOk.as (c := true) (OpOk.neq rfl rfl) (by rw [decide_eq_false (by omega)]; rfl)) rfl ?_
                refine RunL.nil ?_
                refine Run.condT rfl ?_
                refine Run.seq ?_
                refine Run.region ?_
                refine RunL.ok (OpOk.move rfl) rfl ?_
                refine RunL.ok (OpOk.assign rfl) rfl ?_
                refine RunL.ok (OpOk.assign rfl) rfl ?_
                refine RunL.nil ?_
                refine Run.ent (Ent.ownNil' _ 66 3 (Fl encT66 []) rfl) ?_
                refine Run.ret2 Try.func33 rfl rfl rfl ?_
                obtain ⟨rfl, rfl⟩ := Prod.mk.inj hdr
                exact err_leaf (by repeat (first | exact grown0 | refine grown1 ?_))
end
end Go.Proofs.Ytlheianbmpgefaa
