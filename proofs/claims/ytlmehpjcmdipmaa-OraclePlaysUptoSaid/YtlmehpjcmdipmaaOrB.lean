/- The oracle's questions; its list. -/
import Derived.Test.YtlmehpjcmdipmaaOrA
namespace Go.Proofs.Ytlmehpjcmdipmaa
open Go Go.Proofs
set_option maxRecDepth 100000
set_option maxHeartbeats 4000000
set_option linter.unusedSimpArgs false
theorem newT34 (A : Asn) (p : Nat) : Ent (A * pts p (.cells (Value.agg #[.map none, .slice none 0 0]).cells 34 (0, 0))) (A * pts p (.cells #[(Value.map none), (Value.slice none 0 0)] 34 (0, 0)) * omap (Value.map none) ((List.nil : List Me)) * own 85 6 (Value.slice none 0 0) ((List.nil : List Me)).length (Fl encT85 (mintF 0 ((List.nil : List Me))))) := by
  have e : own 85 6 (Value.slice none 0 0) (List.length ([] : List Me)) (Fl encT85 (mintF 0 ([] : List Me))) = emp := own_nil_eq 85 6
  rw [omap_nil, e, sep_emp, sep_emp]
  exact Ent.refl _
section
variable {w0 : World} {A : Asn} {p : Nat} {mv av : Value} {l : List Me}
theorem s39 : Spec Try.prog w0 39 [.pointer (some ⟨p, 0, none⟩)] (A * pts p (.cells #[mv, av] 34 (0, 0)) * omap mv (l) * own 85 6 av (l).length (Fl encT85 (mintF 0 (l)))) (fun v' A' => v' = .int .i64 (l.length : Int) ∧ A' = A * pts p (.cells #[mv, av] 34 (0, 0)) * omap mv (l) * own 85 6 av (l).length (Fl encT85 (mintF 0 (l)))) := by
  refine Spec.of_run [(0, .pointer (some ⟨p, 0, none⟩))] Try.func39 rfl (Nat.le_of_ble_eq_true rfl) (by repeat (first | exact trivial | refine ⟨rfl, ?_⟩)) ?_
  refine Run.seq ?_
  refine Run.region ?_
  refine RunL.ok (OpOk.assign rfl) rfl ?_
  refine RunL.nil ?_
  refine Run.seq ?_
  refine Run.region ?_
  refine RunL.ok (OpOk.move rfl) rfl ?_
  refine RunL.ok (OpOk.nilOk rfl) rfl ?_
  refine RunL.ok (OpOk.fieldAddr fld34_1 rfl) rfl ?_
  refine RunL.ok (OpOk.load rfl rfl rfl (Blk.out Blk.pts.left.left _ _ (by first | rfl | assumption))) rfl ?_
  refine RunL.know (fun w s => (s.conv rfl).ownRd0) (fun rdx1 => ?_)
  refine RunL.ok (OpOk.lenR rfl rfl (Rd.right rdx1) rfl) rfl ?_
  refine RunL.ok (OpOk.assign rfl) rfl ?_
  refine RunL.nil ?_
  refine Run.ret1 Try.func39 rfl rfl ?_
  exact ⟨rfl, rfl⟩
theorem holds_a {t : Int} {k : K4} {u : Value} (ht : t < 1 ∨ (l.length : Int) < t) :
    Spec Try.prog w0 15 [.pointer (some ⟨p, 0, none⟩), .int .i64 t, .agg #[.int .i64 k.1, .int .i64 k.2.1, .int .i64 k.2.2.1, .int .i64 k.2.2.2], u] (A * pts p (.cells #[mv, av] 34 (0, 0)) * omap mv (l) * own 85 6 av (l).length (Fl encT85 (mintF 0 (l)))) (fun v' A' => v' = .bool false ∧ ∃ J, A' = A * J * pts p (.cells #[mv, av] 34 (0, 0)) * omap mv (l) * own 85 6 av (l).length (Fl encT85 (mintF 0 (l)))) := by
  refine Spec.of_run [(0, .pointer (some ⟨p, 0, none⟩)), (1, .int .i64 t), (2, .agg #[.int .i64 k.1, .int .i64 k.2.1, .int .i64 k.2.2.1, .int .i64 k.2.2.2]), (3, u)] Try.func15 rfl (Nat.le_of_ble_eq_true rfl) (by repeat (first | exact trivial | refine ⟨rfl, ?_⟩)) ?_
  refine Run.seq ?_
  refine Run.region ?_
  refine RunL.box rfl rfl (fun bx1 => ?_)
  refine RunL.ok (OpOk.assign rfl) rfl ?_
  refine RunL.nil ?_
  refine Run.seq ?_
  refine Run.seq ?_
  refine Run.region ?_
  refine RunL.ok (OpOk.move rfl) rfl ?_
  refine RunL.ok (OpOk.lss rfl rfl) rfl ?_
  refine RunL.ok (OpOk.move rfl) rfl ?_
  refine RunL.splitD (t := 12) rfl (fun x2 => ?_) (fun x2 => ?_)
  · refine RunL.off rfl rfl rfl rfl ?_
    refine RunL.off rfl rfl rfl rfl ?_
    refine RunL.off rfl rfl rfl rfl ?_
    refine RunL.off rfl rfl rfl rfl ?_
    refine RunL.off rfl rfl rfl rfl ?_
    refine RunL.off rfl rfl rfl rfl ?_
    refine RunL.off rfl rfl rfl rfl ?_
    refine RunL.ok (OpOk.pickT rfl rfl) rfl ?_
    refine RunL.nil ?_
    refine Run.condT rfl ?_
    refine Run.seq ?_
    refine Run.region ?_
    refine RunL.ok (OpOk.assign rfl) rfl ?_
    refine RunL.nil ?_
    refine Run.ret1 Try.func15 rfl rfl ?_
    refine ⟨rfl, ?_⟩
    exact ⟨_, (Eq.trans (frc (frl rfl) (frc (frl rfl) (frc (frl rfl) rfl))) (congrArg (· * _) (congrArg (· * _) (congrArg (· * _) as1))))⟩
  refine RunL.on rfl rfl ?_
  refine RunL.ok (OpOk.move rfl) rfl ?_
  refine RunL.on rfl rfl ?_
  refine RunL.ok (OpOk.move rfl) rfl ?_
  refine RunL.on rfl rfl ?_
  refine RunL.ok (OpOk.nilOk rfl) rfl ?_
  refine RunL.on rfl rfl ?_
  refine RunL.ok (OpOk.fieldAddr fld34_1 rfl) rfl ?_
  refine RunL.on rfl rfl ?_
  refine RunL.ok (OpOk.load rfl rfl rfl (Blk.out Blk.pts.left.left.left _ _ (by first | rfl | assumption))) rfl ?_
  refine RunL.on rfl rfl ?_
  refine RunL.know (fun w s => (s.conv (frl rfl)).ownRd0) (fun rdx3 => ?_)
  refine RunL.ok (OpOk.lenR rfl rfl (Rd.right rdx3).left rfl) rfl ?_
  refine RunL.on rfl rfl ?_
  refine RunL.ok (OpOk.asT (OpOk.gtr rfl rfl) (by omega)) rfl ?_
  refine RunL.ok (OpOk.pickF rfl rfl) rfl ?_
  refine RunL.nil ?_
  refine Run.condT rfl ?_
  refine Run.seq ?_
  refine Run.region ?_
  refine RunL.ok (OpOk.assign rfl) rfl ?_
  refine RunL.nil ?_
  refine Run.ret1 Try.func15 rfl rfl ?_
  refine ⟨rfl, ?_⟩
  exact ⟨_, (Eq.trans (frc (frl rfl) (frc (frl rfl) (frc (frl rfl) rfl))) (congrArg (· * _) (congrArg (· * _) (congrArg (· * _) as1))))⟩
theorem holds_b {t : Int} {k : K4} {u : Value} {m : Nat} {ls : List (Value × List UInt8)} (rd : Rd w0 A u 1 m (Fl encV ls)) (al : Alls (GB w0) A ls) (h1 : 1 ≤ t) (h2 : t ≤ (l.length : Int)) (hl : l.length ≤ 1048576) (hb : (flatB ls).length ≤ 140737488355328) :
    Spec Try.prog w0 15 [.pointer (some ⟨p, 0, none⟩), .int .i64 t, .agg #[.int .i64 k.1, .int .i64 k.2.1, .int .i64 k.2.2.1, .int .i64 k.2.2.2], u] (A * pts p (.cells #[mv, av] 34 (0, 0)) * omap mv (l) * own 85 6 av (l).length (Fl encT85 (mintF 0 (l)))) (fun v' A' => v' = .bool (decide (l.getD (t - 1).toNat default = (k, flatB ls))) ∧ ∃ J, A' = A * J * pts p (.cells #[mv, av] 34 (0, 0)) * omap mv (l) * own 85 6 av (l).length (Fl encT85 (mintF 0 (l)))) := by
  obtain ⟨j, hj⟩ : ∃ j : Nat, t = ((j + 1 : Nat) : Int) := ⟨(t - 1).toNat, by omega⟩
  subst hj
  have hlt : j < l.length := by omega
  have hml := mintF_length l 0
  rw [show (((j + 1 : Nat) : Int) - 1).toNat = j by omega]
  have hmg : (mintF 0 l).getD j default = (((j + 1 : Nat) : Int), (l.getD j default).1, (l.getD j default).2) := by
    have := mintF_get l 0 j hlt
    rwa [Nat.zero_add] at this
  refine Spec.of_run [(0, .pointer (some ⟨p, 0, none⟩)), (1, .int .i64 ((j + 1 : Nat) : Int)), (2, .agg #[.int .i64 k.1, .int .i64 k.2.1, .int .i64 k.2.2.1, .int .i64 k.2.2.2]), (3, u)] Try.func15 rfl (Nat.le_of_ble_eq_true rfl) (by repeat (first | exact trivial | refine ⟨rfl, ?_⟩)) ?_
  rcases Decidable.em ((l.getD j default).1 = k) with e1 | e1
  · rcases Decidable.em ((l.getD j default).2 = flatB ls) with e2 | e2
    · have e : l.getD j default = (k, flatB ls) := Prod.ext e1 e2
      refine Run.seq ?_
      refine Run.region ?_
      refine RunL.box rfl rfl (fun bx1 => ?_)
      refine RunL.ok (OpOk.assign rfl) rfl ?_
      refine RunL.nil ?_
      refine Run.seq ?_
      refine Run.seq ?_
      refine Run.region ?_
      refine RunL.ok (OpOk.move rfl) rfl ?_
      refine RunL.ok (OpOk.asF (OpOk.lss rfl rfl) (by omega)) rfl ?_
      refine RunL.ok (OpOk.move rfl) rfl ?_
      refine RunL.on rfl rfl ?_
      refine RunL.ok (OpOk.move rfl) rfl ?_
      refine RunL.on rfl rfl ?_
      refine RunL.ok (OpOk.move rfl) rfl ?_
      refine RunL.on rfl rfl ?_
      refine RunL.ok (OpOk.nilOk rfl) rfl ?_
      refine RunL.on rfl rfl ?_
      refine RunL.ok (OpOk.fieldAddr fld34_1 rfl) rfl ?_
      refine RunL.on rfl rfl ?_
      refine RunL.ok (OpOk.load rfl rfl rfl (Blk.out Blk.pts.left.left.left _ _ (by first | rfl | assumption))) rfl ?_
      refine RunL.on rfl rfl ?_
      refine RunL.know (fun w s => (s.conv (frl rfl)).ownRd0) (fun rdx2 => ?_)
      refine RunL.ok (OpOk.lenR rfl rfl (Rd.right rdx2).left rfl) rfl ?_
      refine RunL.on rfl rfl ?_
      refine RunL.ok (OpOk.asF (OpOk.gtr rfl rfl) (by omega)) rfl ?_
      refine RunL.ok (OpOk.pickF rfl rfl) rfl ?_
      refine RunL.nil ?_
      refine Run.condF rfl ?_
      refine Run.skip ?_
      refine Run.seq ?_
      refine Run.region ?_
      refine RunL.ok (OpOk.move rfl) rfl ?_
      refine RunL.ok (OpOk.nilOk rfl) rfl ?_
      refine RunL.ok (OpOk.fieldAddr fld34_1 rfl) rfl ?_
      refine RunL.ok (OpOk.load rfl rfl rfl (Blk.out Blk.pts.left.left.left _ _ (by first | rfl | assumption))) rfl ?_
      refine RunL.ok (OpOk.move rfl) rfl ?_
      refine RunL.ok (OpOk.subN _ 1 rfl rfl rfl rfl (by omega) (by omega)) rfl ?_
      refine RunL.ok (OpOk.idxN rfl ti85 rfl (Rd.right rdx2).left rfl (by omega)) rfl ?_
      refine RunL.ok (OpOk.loadFlE (by assumption) rfl rfl ti85 rfl (Rd.right rdx2).left (fun _ => rfl) rfl (by omega)) rfl ?_
      refine RunL.alloc ti85 rfl (fun bx3 => ?_)
      refine RunL.storeAll ti85 rfl rfl rfl (ones rfl) rfl rfl ?_
      refine RunL.nil ?_
      refine Run.seq ?_
      refine Run.drop [8] ?_
      (apply Run.drawD [] (by rfl) (sep_emp _).symm; case hchk => kernel_rfl)
      refine Sd.quiet 0 _ _ rfl rfl rfl rfl rfl (QOp.ok (fun X => OpOk.fieldAddr fld85_1 rfl)) ?_
      refine Sd.quiet 1 _ _ rfl rfl rfl rfl rfl (QOp.ok (fun X => OpOk.loadSub rfl rfl ti25 rfl Blk.pts.left.left rfl rfl)) ?_
      refine Sd.quiet 2 _ _ rfl rfl rfl rfl rfl (QOp.ok (fun X => OpOk.loadS rfl rfl ti25 rfl Blk.pts.left.left.left rfl)) ?_
      refine Sd.quiet 3 _ _ rfl rfl rfl rfl rfl (QOp.ok (fun X => OpOk.eqlK4 (p := ((↑(j + 1), (l.getD j default).fst, (l.getD j default).snd).snd.fst.fst, (↑(j + 1), (l.getD j default).fst, (l.getD j default).snd).snd.fst.snd.fst, (↑(j + 1), (l.getD j default).fst, (l.getD j default).snd).snd.fst.snd.snd.fst, (↑(j + 1), (l.getD j default).fst, (l.getD j default).snd).snd.fst.snd.snd.snd)) (q := (k.fst, k.snd.fst, k.snd.snd.fst, k.snd.snd.snd)) four25 rfl rfl)) ?_
      refine Sd.quiet 4 _ _ rfl rfl rfl rfl rfl (QOp.ok (fun X => OpOk.move rfl)) ?_
      refine Sd.splitBT (decide_eq_true (by first | omega | with_reducible rfl | assumption)) ?_
      refine Sd.quiet 5 _ _ rfl rfl rfl rfl rfl (QOp.ok (fun X => OpOk.fieldAddr fld85_2 rfl)) ?_
      refine Sd.quiet 6 _ _ rfl rfl rfl rfl rfl (QOp.ok (fun X => OpOk.load rfl rfl rfl (Blk.out Blk.pts.left.left _ _ (by first | rfl | assumption)))) ?_
      refine Sd.quiet 7 _ _ rfl rfl rfl rfl rfl (QOp.ok (fun X => OpOk.move rfl)) ?_
      (refine Sd.exec 8 rfl rfl rfl rfl rfl ?hrest (by rfl) (fun Xx4 Kx4 hKx4 => ?_); case hrest => kernel_rfl)
      refine RunL.mem (fl2 (sep_emp _) (sep_emp _)) ?_
      refine RunL.call cal40 rfl (s40 rd.left.left.left.left.left.left al.left.left.left.left.left.left (by assumption)) rfl (fun vx5 Ax5 hx5 => ?_)
      obtain rfl := hx5
      refine RunL.know (fun w s => (s.conv rfl).ownRd0) (fun rdx6 => ?_)
      refine Sd.ret hKx4 (Eq.trans rfl (gp2 (sep_emp _).symm rfl)) ⟨_, (emp_sep _).symm⟩ ?_
      refine Sd.quiet 9 _ _ rfl rfl rfl rfl rfl (QOp.ok (fun X => OpOk.strOf rfl rfl rfl rfl (Rd.right rdx6).left)) ?_
      refine Sd.quiet 10 _ _ rfl rfl rfl rfl rfl (QOp.ok (fun X => OpOk.asT (OpOk.eqlSS rfl rfl) (by omega))) ?_
      refine Sd.quiet 11 _ _ rfl rfl rfl rfl rfl (QOp.ok (fun X => OpOk.pickT rfl rfl)) ?_
      refine Sd.quiet 12 _ _ rfl rfl rfl rfl rfl (QOp.ok (fun X => OpOk.assign rfl)) ?_
      (apply Sd.tail; case hall => kernel_rfl)
      refine RunL.mem (fl2 rfl (sep_emp _)) ?_
      refine RunL.nil ?_
      refine Run.ret1 Try.func15 rfl rfl ?_
      refine ⟨by rw [decide_eq_true e], ?_⟩
      exact ⟨_, (Eq.trans (frc (frl (frl (frl rfl))) (frc (frl (frl (frl rfl))) (frc (frl (frl (frl rfl))) rfl))) (congrArg (· * _) (congrArg (· * _) (congrArg (· * _) (asg (asg as1))))))⟩
    · have e : ¬ l.getD j default = (k, flatB ls) := fun h => e2 (by rw [h])
      refine Run.seq ?_
      refine Run.region ?_
      refine RunL.box rfl rfl (fun bx1 => ?_)
      refine RunL.ok (OpOk.assign rfl) rfl ?_
      refine RunL.nil ?_
      refine Run.seq ?_
      refine Run.seq ?_
      refine Run.region ?_
      refine RunL.ok (OpOk.move rfl) rfl ?_
      refine RunL.ok (OpOk.asF (OpOk.lss rfl rfl) (by omega)) rfl ?_
      refine RunL.ok (OpOk.move rfl) rfl ?_
      refine RunL.on rfl rfl ?_
      refine RunL.ok (OpOk.move rfl) rfl ?_
      refine RunL.on rfl rfl ?_
      refine RunL.ok (OpOk.move rfl) rfl ?_
      refine RunL.on rfl rfl ?_
      refine RunL.ok (OpOk.nilOk rfl) rfl ?_
      refine RunL.on rfl rfl ?_
      refine RunL.ok (OpOk.fieldAddr fld34_1 rfl) rfl ?_
      refine RunL.on rfl rfl ?_
      refine RunL.ok (OpOk.load rfl rfl rfl (Blk.out Blk.pts.left.left.left _ _ (by first | rfl | assumption))) rfl ?_
      refine RunL.on rfl rfl ?_
      refine RunL.know (fun w s => (s.conv (frl rfl)).ownRd0) (fun rdx2 => ?_)
      refine RunL.ok (OpOk.lenR rfl rfl (Rd.right rdx2).left rfl) rfl ?_
      refine RunL.on rfl rfl ?_
      refine RunL.ok (OpOk.asF (OpOk.gtr rfl rfl) (by omega)) rfl ?_
      refine RunL.ok (OpOk.pickF rfl rfl) rfl ?_
      refine RunL.nil ?_
      refine Run.condF rfl ?_
      refine Run.skip ?_
      refine Run.seq ?_
      refine Run.region ?_
      refine RunL.ok (OpOk.move rfl) rfl ?_
      refine RunL.ok (OpOk.nilOk rfl) rfl ?_
      refine RunL.ok (OpOk.fieldAddr fld34_1 rfl) rfl ?_
      refine RunL.ok (OpOk.load rfl rfl rfl (Blk.out Blk.pts.left.left.left _ _ (by first | rfl | assumption))) rfl ?_
      refine RunL.ok (OpOk.move rfl) rfl ?_
      refine RunL.ok (OpOk.subN _ 1 rfl rfl rfl rfl (by omega) (by omega)) rfl ?_
      refine RunL.ok (OpOk.idxN rfl ti85 rfl (Rd.right rdx2).left rfl (by omega)) rfl ?_
      refine RunL.ok (OpOk.loadFlE (by assumption) rfl rfl ti85 rfl (Rd.right rdx2).left (fun _ => rfl) rfl (by omega)) rfl ?_
      refine RunL.alloc ti85 rfl (fun bx3 => ?_)
      refine RunL.storeAll ti85 rfl rfl rfl (ones rfl) rfl rfl ?_
      refine RunL.nil ?_
      refine Run.seq ?_
      refine Run.drop [8] ?_
      (apply Run.drawD [] (by rfl) (sep_emp _).symm; case hchk => kernel_rfl)
      refine Sd.quiet 0 _ _ rfl rfl rfl rfl rfl (QOp.ok (fun X => OpOk.fieldAddr fld85_1 rfl)) ?_
      refine Sd.quiet 1 _ _ rfl rfl rfl rfl rfl (QOp.ok (fun X => OpOk.loadSub rfl rfl ti25 rfl Blk.pts.left.left rfl rfl)) ?_
      refine Sd.quiet 2 _ _ rfl rfl rfl rfl rfl (QOp.ok (fun X => OpOk.loadS rfl rfl ti25 rfl Blk.pts.left.left.left rfl)) ?_
      refine Sd.quiet 3 _ _ rfl rfl rfl rfl rfl (QOp.ok (fun X => OpOk.eqlK4 (p := ((↑(j + 1), (l.getD j default).fst, (l.getD j default).snd).snd.fst.fst, (↑(j + 1), (l.getD j default).fst, (l.getD j default).snd).snd.fst.snd.fst, (↑(j + 1), (l.getD j default).fst, (l.getD j default).snd).snd.fst.snd.snd.fst, (↑(j + 1), (l.getD j default).fst, (l.getD j default).snd).snd.fst.snd.snd.snd)) (q := (k.fst, k.snd.fst, k.snd.snd.fst, k.snd.snd.snd)) four25 rfl rfl)) ?_
      refine Sd.quiet 4 _ _ rfl rfl rfl rfl rfl (QOp.ok (fun X => OpOk.move rfl)) ?_
      refine Sd.splitBT (decide_eq_true (by first | omega | with_reducible rfl | assumption)) ?_
      refine Sd.quiet 5 _ _ rfl rfl rfl rfl rfl (QOp.ok (fun X => OpOk.fieldAddr fld85_2 rfl)) ?_
      refine Sd.quiet 6 _ _ rfl rfl rfl rfl rfl (QOp.ok (fun X => OpOk.load rfl rfl rfl (Blk.out Blk.pts.left.left _ _ (by first | rfl | assumption)))) ?_
      refine Sd.quiet 7 _ _ rfl rfl rfl rfl rfl (QOp.ok (fun X => OpOk.move rfl)) ?_
      (refine Sd.exec 8 rfl rfl rfl rfl rfl ?hrest (by rfl) (fun Xx4 Kx4 hKx4 => ?_); case hrest => kernel_rfl)
      refine RunL.mem (fl2 (sep_emp _) (sep_emp _)) ?_
      refine RunL.call cal40 rfl (s40 rd.left.left.left.left.left.left al.left.left.left.left.left.left (by assumption)) rfl (fun vx5 Ax5 hx5 => ?_)
      obtain rfl := hx5
      refine RunL.know (fun w s => (s.conv rfl).ownRd0) (fun rdx6 => ?_)
      refine Sd.ret hKx4 (Eq.trans rfl (gp2 (sep_emp _).symm rfl)) ⟨_, (emp_sep _).symm⟩ ?_
      refine Sd.quiet 9 _ _ rfl rfl rfl rfl rfl (QOp.ok (fun X => OpOk.strOf rfl rfl rfl rfl (Rd.right rdx6).left)) ?_
      refine Sd.quiet 10 _ _ rfl rfl rfl rfl rfl (QOp.ok (fun X => OpOk.asF (OpOk.eqlSS rfl rfl) (by omega))) ?_
      refine Sd.quiet 11 _ _ rfl rfl rfl rfl rfl (QOp.ok (fun X => OpOk.pickT rfl rfl)) ?_
      refine Sd.quiet 12 _ _ rfl rfl rfl rfl rfl (QOp.ok (fun X => OpOk.assign rfl)) ?_
      (apply Sd.tail; case hall => kernel_rfl)
      refine RunL.mem (fl2 rfl (sep_emp _)) ?_
      refine RunL.nil ?_
      refine Run.ret1 Try.func15 rfl rfl ?_
      refine ⟨by rw [decide_eq_false e], ?_⟩
      exact ⟨_, (Eq.trans (frc (frl (frl (frl rfl))) (frc (frl (frl (frl rfl))) (frc (frl (frl (frl rfl))) rfl))) (congrArg (· * _) (congrArg (· * _) (congrArg (· * _) (asg (asg as1))))))⟩
  · have e : ¬ l.getD j default = (k, flatB ls) := fun h => e1 (by rw [h])
    refine Run.seq ?_
    refine Run.region ?_
    refine RunL.box rfl rfl (fun bx1 => ?_)
    refine RunL.ok (OpOk.assign rfl) rfl ?_
    refine RunL.nil ?_
    refine Run.seq ?_
    refine Run.seq ?_
    refine Run.region ?_
    refine RunL.ok (OpOk.move rfl) rfl ?_
    refine RunL.ok (OpOk.asF (OpOk.lss rfl rfl) (by omega)) rfl ?_
    refine RunL.ok (OpOk.move rfl) rfl ?_
    refine RunL.on rfl rfl ?_
    refine RunL.ok (OpOk.move rfl) rfl ?_
    refine RunL.on rfl rfl ?_
    refine RunL.ok (OpOk.move rfl) rfl ?_
    refine RunL.on rfl rfl ?_
    refine RunL.ok (OpOk.nilOk rfl) rfl ?_
    refine RunL.on rfl rfl ?_
    refine RunL.ok (OpOk.fieldAddr fld34_1 rfl) rfl ?_
    refine RunL.on rfl rfl ?_
    refine RunL.ok (OpOk.load rfl rfl rfl (Blk.out Blk.pts.left.left.left _ _ (by first | rfl | assumption))) rfl ?_
    refine RunL.on rfl rfl ?_
    refine RunL.know (fun w s => (s.conv (frl rfl)).ownRd0) (fun rdx2 => ?_)
    refine RunL.ok (OpOk.lenR rfl rfl (Rd.right rdx2).left rfl) rfl ?_
    refine RunL.on rfl rfl ?_
    refine RunL.ok (OpOk.asF (OpOk.gtr rfl rfl) (by omega)) rfl ?_
    refine RunL.ok (OpOk.pickF rfl rfl) rfl ?_
    refine RunL.nil ?_
    refine Run.condF rfl ?_
    refine Run.skip ?_
    refine Run.seq ?_
    refine Run.region ?_
    refine RunL.ok (OpOk.move rfl) rfl ?_
    refine RunL.ok (OpOk.nilOk rfl) rfl ?_
    refine RunL.ok (OpOk.fieldAddr fld34_1 rfl) rfl ?_
    refine RunL.ok (OpOk.load rfl rfl rfl (Blk.out Blk.pts.left.left.left _ _ (by first | rfl | assumption))) rfl ?_
    refine RunL.ok (OpOk.move rfl) rfl ?_
    refine RunL.ok (OpOk.subN _ 1 rfl rfl rfl rfl (by omega) (by omega)) rfl ?_
    refine RunL.ok (OpOk.idxN rfl ti85 rfl (Rd.right rdx2).left rfl (by omega)) rfl ?_
    refine RunL.ok (OpOk.loadFlE (by assumption) rfl rfl ti85 rfl (Rd.right rdx2).left (fun _ => rfl) rfl (by omega)) rfl ?_
    refine RunL.alloc ti85 rfl (fun bx3 => ?_)
    refine RunL.storeAll ti85 rfl rfl rfl (ones rfl) rfl rfl ?_
    refine RunL.nil ?_
    refine Run.seq ?_
    refine Run.drop [8] ?_
    (apply Run.drawD [] (by rfl) (sep_emp _).symm; case hchk => kernel_rfl)
    refine Sd.quiet 0 _ _ rfl rfl rfl rfl rfl (QOp.ok (fun X => OpOk.fieldAddr fld85_1 rfl)) ?_
    refine Sd.quiet 1 _ _ rfl rfl rfl rfl rfl (QOp.ok (fun X => OpOk.loadSub rfl rfl ti25 rfl Blk.pts.left.left rfl rfl)) ?_
    refine Sd.quiet 2 _ _ rfl rfl rfl rfl rfl (QOp.ok (fun X => OpOk.loadS rfl rfl ti25 rfl Blk.pts.left.left.left rfl)) ?_
    refine Sd.quiet 3 _ _ rfl rfl rfl rfl rfl (QOp.ok (fun X => OpOk.eqlK4 (p := ((↑(j + 1), (l.getD j default).fst, (l.getD j default).snd).snd.fst.fst, (↑(j + 1), (l.getD j default).fst, (l.getD j default).snd).snd.fst.snd.fst, (↑(j + 1), (l.getD j default).fst, (l.getD j default).snd).snd.fst.snd.snd.fst, (↑(j + 1), (l.getD j default).fst, (l.getD j default).snd).snd.fst.snd.snd.snd)) (q := (k.fst, k.snd.fst, k.snd.snd.fst, k.snd.snd.snd)) four25 rfl rfl)) ?_
    refine Sd.quiet 4 _ _ rfl rfl rfl rfl rfl (QOp.ok (fun X => OpOk.move rfl)) ?_
    refine Sd.splitBF (decide_eq_false (by first | omega | assumption)) ?_
    refine Sd.skip 5 _ rfl rfl rfl rfl rfl ?_
    refine Sd.skip 6 _ rfl rfl rfl rfl rfl ?_
    refine Sd.skip 7 _ rfl rfl rfl rfl rfl ?_
    refine Sd.skip 8 _ rfl rfl rfl rfl rfl ?_
    refine Sd.skip 9 _ rfl rfl rfl rfl rfl ?_
    refine Sd.skip 10 _ rfl rfl rfl rfl rfl ?_
    refine Sd.quiet 11 _ _ rfl rfl rfl rfl rfl (QOp.ok (fun X => OpOk.pickF rfl rfl)) ?_
    refine Sd.quiet 12 _ _ rfl rfl rfl rfl rfl (QOp.ok (fun X => OpOk.assign rfl)) ?_
    (apply Sd.tail; case hall => kernel_rfl)
    refine RunL.mem (fl2 (sep_emp _) (sep_emp _)) ?_
    refine RunL.nil ?_
    refine Run.ret1 Try.func15 rfl rfl ?_
    refine ⟨by rw [decide_eq_false e], ?_⟩
    exact ⟨_, (Eq.trans (frc (frl (frl rfl)) (frc (frl (frl rfl)) (frc (frl (frl rfl)) rfl))) (congrArg (· * _) (congrArg (· * _) (congrArg (· * _) (asg as1)))))⟩
theorem s15a {t a b c d : Int} {u : Value} (ht : t < 1 ∨ (l.length : Int) < t) :
    Spec Try.prog w0 15 [.pointer (some ⟨p, 0, none⟩), .int .i64 t, .agg #[.int .i64 a, .int .i64 b, .int .i64 c, .int .i64 d], u] (A * pts p (.cells #[mv, av] 34 (0, 0)) * omap mv (l) * own 85 6 av (l).length (Fl encT85 (mintF 0 (l)))) (fun v' A' => v' = .bool false ∧ ∃ J, A' = A * J * pts p (.cells #[mv, av] 34 (0, 0)) * omap mv (l) * own 85 6 av (l).length (Fl encT85 (mintF 0 (l)))) :=
  holds_a (k := (a, b, c, d)) ht
theorem s15c {t a b c d : Int} {u : Value} {m : Nat} {ls : List (Value × List UInt8)} (rd : Rd w0 A u 1 m (Fl encV ls)) (al : Alls (GB w0) A ls) (h1 : 1 ≤ t) (h2 : t ≤ (l.length : Int)) (hl : l.length ≤ 1048576) (hb : (flatB ls).length ≤ 140737488355328) :
    Spec Try.prog w0 15 [.pointer (some ⟨p, 0, none⟩), .int .i64 t, .agg #[.int .i64 a, .int .i64 b, .int .i64 c, .int .i64 d], u] (A * pts p (.cells #[mv, av] 34 (0, 0)) * omap mv (l) * own 85 6 av (l).length (Fl encT85 (mintF 0 (l)))) (fun v' A' => v' = .bool (decide (l.getD (t - 1).toNat default = ((a, b, c, d), flatB ls))) ∧ ∃ J, A' = A * J * pts p (.cells #[mv, av] 34 (0, 0)) * omap mv (l) * own 85 6 av (l).length (Fl encT85 (mintF 0 (l)))) :=
  holds_b (k := (a, b, c, d)) rd al h1 h2 hl hb
theorem flatB_one (v : Value) (bs : List UInt8) : flatB [(v, bs)] = bs := by simp [flatB]
theorem s15b {t a b c d : Int} {u v : Value} {m : Nat} {bs : List UInt8} (rd : Rd w0 A u 1 m (Fl encV [(v, bs)])) (al : Alls (GB w0) A [(v, bs)]) (h1 : 1 ≤ t) (h2 : t ≤ (l.length : Int)) (hl : l.length ≤ 1048576) (hb : bs.length ≤ 140737488355328) :
    Spec Try.prog w0 15 [.pointer (some ⟨p, 0, none⟩), .int .i64 t, .agg #[.int .i64 a, .int .i64 b, .int .i64 c, .int .i64 d], u] (A * pts p (.cells #[mv, av] 34 (0, 0)) * omap mv (l) * own 85 6 av (l).length (Fl encT85 (mintF 0 (l)))) (fun v' A' => v' = .bool (decide (l.getD (t - 1).toNat default = ((a, b, c, d), bs))) ∧ ∃ J, A' = A * J * pts p (.cells #[mv, av] 34 (0, 0)) * omap mv (l) * own 85 6 av (l).length (Fl encT85 (mintF 0 (l)))) := by
  have h := holds_b (k := (a, b, c, d)) (p := p) (mv := mv) (av := av) rd al h1 h2 hl (by rwa [flatB_one])
  rwa [flatB_one] at h
theorem s16 {u : Value} {m : Nat} {ls : List (Value × List UInt8)} (rd : Rd w0 A u 1 m (Fl encV ls)) (al : Alls (GB w0) A ls) (hb : (flatB ls).length ≤ 140737488355328) :
    Spec Try.prog w0 16 [u] A (fun v' A' => v' = S (flatB ls) ∧ A' = A) := by
  have hl := rd.lenFl (fun _ => rfl) (by decide)
  subst hl
  have hmax := rd.max
  refine Spec.of_run [(0, u)] Try.func16 rfl (Nat.le_of_ble_eq_true rfl) (by repeat (first | exact trivial | refine ⟨rfl, ?_⟩)) ?_
  refine Run.seq ?_
  refine Run.region ?_
  refine RunL.ok (OpOk.assign rfl) rfl ?_
  refine RunL.nil ?_
  refine Run.seq ?_
  refine Run.region ?_
  refine RunL.ok (OpOk.assign rfl) rfl ?_
  refine RunL.nil ?_
  refine Run.seq ?_
  refine Run.seq ?_
  refine Run.region ?_
  refine RunL.ok (OpOk.assign rfl) rfl ?_
  refine RunL.nil ?_
  refine Run.block ?_
  refine Run.jump ((Run.loopJ (X := Nat) (fun i => [(0, u), (3, S (flatB (ls.take i))), (4, .int .i64 i)]) (fun _ => A) (fun i => i ≤ ls.length) (fun i => ls.length - i) 0 (Nat.zero_le _) (fun i hi ih => ?_))) ⟨rfl, rfl, rfl, trivial⟩ ((Grew.refl _))
  have hf := flatB_le ls i
  rcases Nat.lt_or_ge i ls.length with hlt | hge
  · have hf2 := flatB_le ls (i + 1)
    have hft := congrArg List.length (flatB_take hlt)
    rw [List.length_append] at hft
    have rdi : Rd w0 A (ls.getD i default).1 1 (ls.getD i default).2.length (B (ls.getD i default).2) := al.get hlt
    have hv := Fl_V ls i hlt
    refine Run.seq ?_
    refine Run.seq ?_
    refine Run.region ?_
    refine RunL.ok (OpOk.move rfl) rfl ?_
    refine RunL.ok (OpOk.move rfl) rfl ?_
    refine RunL.ok (OpOk.lenR rfl rfl rd rfl) rfl ?_
    refine RunL.ok (OpOk.asT (OpOk.lss rfl rfl) (by omega)) rfl ?_
    refine RunL.nil ?_
    refine Run.condT rfl ?_
    refine Run.skip ?_
    refine Run.seq ?_
    refine Run.block ?_
    refine Run.region ?_
    refine RunL.ok (OpOk.move rfl) rfl ?_
    refine RunL.ok (OpOk.move rfl) rfl ?_
    refine RunL.ok (OpOk.move rfl) rfl ?_
    refine RunL.ok (OpOk.idx1N rfl ti37 rfl rd rfl (by omega)) rfl ?_
    refine RunL.ok (OpOk.load rfl rfl rfl (Rd.cell rd (by first | assumption | rfl))) rfl ?_
    refine RunL.ok (OpOk.strOf rfl rfl rfl rfl rdi) rfl ?_
    refine RunL.ok (OpOk.addSS rfl rfl (by omega)) rfl ?_
    refine RunL.ok (OpOk.assign rfl) rfl ?_
    refine RunL.nil ?_
    refine Run.inBlock ?_
    refine Run.region ?_
    refine RunL.ok (OpOk.move rfl) rfl ?_
    refine RunL.ok (OpOk.addN _ 1 rfl rfl rfl rfl (by omega)) rfl ?_
    refine RunL.ok (OpOk.assign rfl) rfl ?_
    refine RunL.nil ?_
    rw [← flatB_take hlt]
    refine Run.jump ((ih (i + 1) (by omega) (by omega))) ⟨rfl, rfl, rfl, trivial⟩ ((Grew.refl _))
  · obtain rfl : i = ls.length := by omega
    clear ih
    rw [List.take_length]
    refine Run.seq ?_
    refine Run.seq ?_
    refine Run.region ?_
    refine RunL.ok (OpOk.move rfl) rfl ?_
    refine RunL.ok (OpOk.move rfl) rfl ?_
    refine RunL.ok (OpOk.lenR rfl rfl rd rfl) rfl ?_
    refine RunL.ok (OpOk.asF (OpOk.lss rfl rfl) (by omega)) rfl ?_
    refine RunL.nil ?_
    refine Run.condF rfl ?_
    refine Run.exit rfl ?_
    refine Run.seq ?_
    refine Run.region ?_
    refine RunL.ok (OpOk.move rfl) rfl ?_
    refine RunL.ok (OpOk.assign rfl) rfl ?_
    refine RunL.nil ?_
    refine Run.ret1 Try.func16 rfl rfl ?_
    exact ⟨rfl, rfl⟩
theorem s13 : Spec Try.prog w0 13 [] A (fun v' A' => ∃ J, v' = .bool true ∧ A' = A * J) := by
  refine Spec.of_run [] Try.func13 rfl (Nat.le_of_ble_eq_true rfl) (by repeat (first | exact trivial | refine ⟨rfl, ?_⟩)) ?_
  refine Run.seq ?_
  refine Run.region ?_
  refine RunL.ok (OpOk.assign rfl) rfl ?_
  refine RunL.nil ?_
  refine Run.seq ?_
  refine Run.region ?_
  refine RunL.ok (OpOk.build rfl (fun w => run_build w 34 _ _ (by rfl))) rfl ?_
  refine RunL.box rfl rfl (fun bx1 => ?_)
  refine RunL.ent (newT34 _ _) ?_
  refine RunL.ok (OpOk.assign rfl) rfl ?_
  refine RunL.nil ?_
  refine Run.seq ?_
  refine Run.region ?_
  refine RunL.ok (OpOk.build (cells := #[.int (IntKind.i64) (1), .int (IntKind.i64) (0), .int (IntKind.i64) (0), .int (IntKind.i64) (1)]) rfl (fun w => run_build w 25 _ _ (by rfl))) rfl ?_
  refine RunL.alloc ti25 rfl (fun bx2 => ?_)
  refine RunL.storeAll ti25 rfl rfl rfl (ones rfl) rfl rfl ?_
  refine RunL.nil ?_
  refine Run.seq ?_
  refine Run.region ?_
  refine RunL.ok (OpOk.move rfl) rfl ?_
  refine RunL.ok (OpOk.loadS rfl rfl ti25 rfl Blk.pts rfl) rfl ?_
  refine RunL.litB (xs := [97, 98]) rfl ti5 rfl rfl rfl (by decide) rfl (fun vx3 rdx3 => ?_)
  refine RunL.mark0 rfl rfl rfl rfl (by first | decide | omega) rfl (fun Jx4 rdx4 => ?_)
  have alx5 : Alls (GB w0) _ [(vx3, [97, 98])] := (Alls.cons (GB.of rdx4) Alls.nil)
  refine RunL.litV (ls := [(vx3, [97, 98])]) (Alls.right alx5) rfl ti37 rfl rfl rfl (by decide) rfl (fun vx5 rdx5 => ?_)
  refine RunL.know (fun w s => (s.conv rfl).ownRd0) (fun rdx6 => ?_)
  refine RunL.mem (frc (frl (frl (frl rfl))) (frc (frl (frl (frl rfl))) (frc (frl (frl (frl rfl))) rfl))) ?_
  refine RunL.call cal14 rfl (s14a (Rd.right rdx6) (Alls.right alx5).left rfl (by simp [flatB]) (by decide)) rfl (fun vx7 Ax7 hx7 => ?_)
  obtain ⟨rfl, ⟨x8, ⟨x9, ⟨x10, rfl⟩⟩⟩⟩ := hx7
  refine RunL.ok (OpOk.assign rfl) rfl ?_
  refine RunL.nil ?_
  refine Run.seq ?_
  refine Run.region ?_
  refine RunL.ok (OpOk.move rfl) rfl ?_
  refine RunL.ok (OpOk.loadS rfl rfl ti25 rfl Blk.pts.left.left.left.left.left.left rfl) rfl ?_
  refine RunL.litB (xs := [97]) rfl ti5 rfl rfl rfl (by decide) rfl (fun vx11 rdx11 => ?_)
  refine RunL.mark0 rfl rfl rfl rfl (by first | decide | omega) rfl (fun Jx12 rdx12 => ?_)
  refine RunL.litB (xs := [98]) rfl ti5 rfl rfl rfl (by decide) rfl (fun vx13 rdx13 => ?_)
  refine RunL.mark0 rfl rfl rfl rfl (by first | decide | omega) rfl (fun Jx14 rdx14 => ?_)
  have alx15 : Alls (GB w0) _ [(vx11, [97]), (vx13, [98])] := (Alls.cons (GB.of rdx12.left) (Alls.cons (GB.of (Rd.right rdx14)) Alls.nil))
  refine RunL.litV (ls := [(vx11, [97]), (vx13, [98])]) (Alls.conv alx15.left.left.left.left.left.left.left.left ((frc (frl (frl rfl)) (frc (frl (frl rfl)) (frc (frl (frl rfl)) (frc (frl (frl rfl)) (frc (frl (frl rfl)) (frc (frl (frl rfl)) (frc (frl (frl rfl)) (frc (frl (sep_comm _ _)) rfl)))))))) : _ = _).symm) rfl ti37 rfl rfl rfl (by decide) rfl (fun vx15 rdx15 => ?_)
  refine RunL.know (fun w s => (s.conv rfl).ownRd0) (fun rdx16 => ?_)
  refine RunL.mem (frc (frl (frl (frl rfl))) (frc (frl (frl (frl rfl))) (frc (frl (frl (frl rfl))) rfl))) ?_
  have h21 : atF 0 ([] ++ [(((1, 0, 0, 1) : K4), flatB [(vx3, [97, 98])])]) ((1, 0, 0, 1), flatB [(vx11, [97]), (vx13, [98])]) = 1 := rfl
  have h22 : atF 0 ([] ++ [(((1, 0, 0, 1) : K4), flatB [(vx3, [97, 98])])]) ((1, 0, 0, 1), flatB [(vx11, [97]), (vx13, [98])]) ≠ 0 := by rw [h21]; decide
  refine RunL.call cal14 rfl (s14b (Rd.right rdx16) (Alls.conv alx15.left.left.left.left.left.left ((frc rfl (frc (frl (frl rfl)) (frc (frl (frl rfl)) (frc (frl (frl rfl)) (frc (frl (frl rfl)) (frc (frl (sep_comm _ _)) rfl)))))) : _ = _).symm) (by assumption) (by simp [flatB]) (by simp)) rfl (fun vy2 Ay2 hy2 => ?_)
  obtain ⟨rfl, ⟨y3, rfl⟩⟩ := hy2
  refine RunL.ok (OpOk.assign rfl) rfl ?_
  refine RunL.nil ?_
  refine Run.seq ?_
  refine Run.region ?_
  refine RunL.ok (OpOk.move rfl) rfl ?_
  refine RunL.ok (OpOk.eql rfl rfl) rfl ?_
  refine RunL.ok (OpOk.move rfl) rfl ?_
  refine RunL.on rfl rfl ?_
  refine RunL.ok (OpOk.move rfl) rfl ?_
  refine RunL.on rfl rfl ?_
  refine RunL.ok (OpOk.asT (OpOk.eql rfl rfl) (by omega)) rfl ?_
  refine RunL.ok (OpOk.pickT rfl rfl) rfl ?_
  refine RunL.ok (OpOk.move rfl) rfl ?_
  refine RunL.on rfl rfl ?_
  refine RunL.ok (OpOk.move rfl) rfl ?_
  refine RunL.on rfl rfl ?_
  refine RunL.ok (OpOk.build (cells := #[.int (IntKind.i64) (1), .int (IntKind.i64) (0), .int (IntKind.i64) (0), .int (IntKind.i64) (2)]) rfl (fun w => run_build w 25 _ _ (by rfl))) rfl ?_
  refine RunL.on rfl rfl ?_
  refine RunL.litB (xs := [97, 98]) rfl ti5 rfl rfl rfl (by decide) rfl (fun vy4 rdy4 => ?_)
  refine RunL.on rfl rfl ?_
  refine RunL.mark0 rfl rfl rfl rfl (by first | decide | omega) rfl (fun Jy5 rdy5 => ?_)
  refine RunL.on rfl rfl ?_
  have aly6 : Alls (GB w0) _ [(vy4, [97, 98])] := (Alls.cons (GB.of rdy5) Alls.nil)
  refine RunL.litV (ls := [(vy4, [97, 98])]) (Alls.right aly6) rfl ti37 rfl rfl rfl (by decide) rfl (fun vy6 rdy6 => ?_)
  refine RunL.on rfl rfl ?_
  refine RunL.know (fun w s => (s.conv rfl).ownRd0) (fun rdy7 => ?_)
  refine RunL.mem (frc (frl (frl rfl)) (frc (frl (frl rfl)) (frc (frl (frl rfl)) rfl))) ?_
  refine RunL.call cal14 rfl (s14a (Rd.right rdy7) (Alls.right aly6).left rfl (by simp [flatB]) (by simp)) rfl (fun vy8 Ay8 hy8 => ?_)
  obtain ⟨rfl, ⟨y9, ⟨y10, ⟨y11, rfl⟩⟩⟩⟩ := hy8
  refine RunL.on rfl rfl ?_
  refine RunL.ok (OpOk.eql rfl rfl) rfl ?_
  refine RunL.ok (OpOk.pickT rfl rfl) rfl ?_
  refine RunL.ok (OpOk.move rfl) rfl ?_
  refine RunL.on rfl rfl ?_
  refine RunL.ok (OpOk.move rfl) rfl ?_
  refine RunL.on rfl rfl ?_
  refine RunL.ok (OpOk.loadS rfl rfl ti25 rfl Blk.pts.left.left.left.left.left.left.left.left.left.left.left.left.left rfl) rfl ?_
  refine RunL.on rfl rfl ?_
  refine RunL.litB (xs := [97, 98]) rfl ti5 rfl rfl rfl (by decide) rfl (fun vy12 rdy12 => ?_)
  refine RunL.on rfl rfl ?_
  refine RunL.mark0 rfl rfl rfl rfl (by first | decide | omega) rfl (fun Jy13 rdy13 => ?_)
  refine RunL.on rfl rfl ?_
  have aly14 : Alls (GB w0) _ [(vy12, [97, 98])] := (Alls.cons (GB.of rdy13) Alls.nil)
  refine RunL.litV (ls := [(vy12, [97, 98])]) (Alls.right aly14) rfl ti37 rfl rfl rfl (by decide) rfl (fun vy14 rdy14 => ?_)
  refine RunL.on rfl rfl ?_
  refine RunL.know (fun w s => (s.conv rfl).ownRd0) (fun rdy15 => ?_)
  refine RunL.mem (frc (frl (frl rfl)) (frc (frl (frl rfl)) (frc (frl (frl rfl)) rfl))) ?_
  refine RunL.call cal15 rfl (s15b (Rd.right rdy15) (Alls.right aly14).left (by omega) (by simp) (by simp) (by decide)) rfl (fun vy17 Ay17 hy17 => ?_)
  obtain ⟨rfl, ⟨y18, rfl⟩⟩ := hy17
  refine RunL.ok (OpOk.pickT rfl rfl) rfl ?_
  refine RunL.ok (OpOk.move rfl) rfl ?_
  refine RunL.on rfl rfl ?_
  refine RunL.ok (OpOk.move rfl) rfl ?_
  refine RunL.on rfl rfl ?_
  refine RunL.ok (OpOk.loadS rfl rfl ti25 rfl Blk.pts.left.left.left.left.left.left.left.left.left.left.left.left.left.left.left.left rfl) rfl ?_
  refine RunL.on rfl rfl ?_
  refine RunL.litB (xs := [97, 98]) rfl ti5 rfl rfl rfl (by decide) rfl (fun vy19 rdy19 => ?_)
  refine RunL.on rfl rfl ?_
  refine RunL.mark0 rfl rfl rfl rfl (by first | decide | omega) rfl (fun Jy20 rdy20 => ?_)
  refine RunL.on rfl rfl ?_
  have aly21 : Alls (GB w0) _ [(vy19, [97, 98])] := (Alls.cons (GB.of rdy20) Alls.nil)
  refine RunL.litV (ls := [(vy19, [97, 98])]) (Alls.right aly21) rfl ti37 rfl rfl rfl (by decide) rfl (fun vy21 rdy21 => ?_)
  refine RunL.on rfl rfl ?_
  refine RunL.know (fun w s => (s.conv rfl).ownRd0) (fun rdy22 => ?_)
  refine RunL.mem (frc (frl (frl rfl)) (frc (frl (frl rfl)) (frc (frl (frl rfl)) rfl))) ?_
  refine RunL.call cal15 rfl (s15b (Rd.right rdy22) (Alls.right aly21).left (by omega) (by simp) (by simp) (by decide)) rfl (fun vy24 Ay24 hy24 => ?_)
  obtain ⟨rfl, ⟨y25, rfl⟩⟩ := hy24
  refine RunL.on rfl rfl ?_
  refine RunL.ok (OpOk.not rfl) rfl ?_
  refine RunL.ok (OpOk.pickT rfl rfl) rfl ?_
  refine RunL.ok (OpOk.assign rfl) rfl ?_
  refine RunL.nil ?_
  refine Run.ret1 Try.func13 rfl rfl ?_
  exact ⟨_, rfl, (asg (asg (asg (asg (asg (asg (asg (asg (asg (asg (asg (asg (asg (asg (asg (asg (asg (asg (asg as1)))))))))))))))))))⟩
end
end Go.Proofs.Ytlmehpjcmdipmaa
