/- The router's Next and Waiting. -/
import Derived.Test.YtegbfnibjgpbpaaRtE
namespace Go.Proofs.Ytegbfnibjgpbpaa
open Go Go.Proofs
set_option maxRecDepth 100000
set_option maxHeartbeats 4000000
set_option linter.unusedSimpArgs false
/-- What waits, by contents. -/
def waitC (C : List (List Cm)) (to : Int) : List Cm := if 0 ≤ to ∧ to < (C.length : Int) then C.getD to.toNat [] else []
section
variable {w0 : World} {A : Asn} {p n : Nat} {qv : Value} {room ref : Int} {Q : List Qu}
theorem nextA {to : Int} (h : ¬ (0 ≤ to ∧ to < (n : Int))) : Spec Try.prog w0 46 [.pointer (some ⟨p, 0, none⟩), .int .i64 to] (A * pts p (.cells #[qv, .int .i64 room, .int .i64 ref] 119 (0, 0)) * own 123 1 qv n (Fl encT123 (Q)) * ownsQ (Q)) (fun v' A' => ∃ J, v' = .tuple #[.agg #[.int .i64 0, .int .i64 0, .int .i64 0, .slice none 0 0, .int .i64 0], .int .i64 2] ∧ A' = A * J * pts p (.cells #[qv, .int .i64 room, .int .i64 ref] 119 (0, 0)) * own 123 1 qv n (Fl encT123 (Q)) * ownsQ (Q)) := by
  refine Spec.of_run [(0, .pointer (some ⟨p, 0, none⟩)), (1, .int .i64 to)] Try.func46 rfl (Nat.le_of_ble_eq_true rfl) (by repeat (first | exact trivial | refine ⟨rfl, ?_⟩)) ?_
  refine Run.seq ?_
  refine Run.region ?_
  refine RunL.alloc ti82 rfl (fun bx1 => ?_)
  refine RunL.ok (OpOk.assign rfl) rfl ?_
  refine RunL.nil ?_
  refine Run.seq ?_
  refine Run.seq ?_
  refine Run.region ?_
  refine RunL.ok (OpOk.move rfl) rfl ?_
  refine RunL.ok (OpOk.move rfl) rfl ?_
  refine RunL.mem (frc (frl rfl) (frc (frl rfl) (frc (frl rfl) rfl))) ?_
  refine RunL.call cal68 rfl (s68) rfl (fun vx2 Ax2 hx2 => ?_)
  obtain ⟨rfl, rfl⟩ := hx2
  refine RunL.ok (OpOk.not rfl) rfl ?_
  refine RunL.nil ?_
  refine Run.condNT rfl (by first | omega | assumption) ?_
  refine Run.seq ?_
  refine Run.region ?_
  refine RunL.ok (OpOk.build rfl (fun w => run_build w 82 _ _ (by rfl))) rfl ?_
  refine RunL.storeAll ti82 rfl rfl rfl (ones rfl) (frl (frl (frl rfl))) rfl ?_
  refine RunL.ok (OpOk.assign rfl) rfl ?_
  refine RunL.nil ?_
  refine Run.retC2 (A' := _) Try.func46 rfl rfl rfl ti82 rfl rfl Blk.pts rfl (Grew.refl _) ?_
  exact ⟨_, rfl, (Eq.trans (frc (frl rfl) (frc (frl rfl) (frc (frl rfl) rfl))) (congrArg (· * _) (congrArg (· * _) (congrArg (· * _) as1))))⟩
theorem nextB {t : Nat} {sv : SV} (hn : Q.length = n) (ht : t < n) (hq : Q.getD t default = (sv, [])) : Spec Try.prog w0 46 [.pointer (some ⟨p, 0, none⟩), .int .i64 (t : Int)] (A * pts p (.cells #[qv, .int .i64 room, .int .i64 ref] 119 (0, 0)) * own 123 1 qv n (Fl encT123 (Q)) * ownsQ (Q)) (fun v' A' => ∃ J, v' = .tuple #[.agg #[.int .i64 0, .int .i64 0, .int .i64 0, .slice none 0 0, .int .i64 0], .int .i64 21] ∧ A' = A * J * pts p (.cells #[qv, .int .i64 room, .int .i64 ref] 119 (0, 0)) * own 123 1 qv n (Fl encT123 (Q)) * ownsQ (Q)) := by
  refine Spec.of_run [(0, .pointer (some ⟨p, 0, none⟩)), (1, .int .i64 (t : Int))] Try.func46 rfl (Nat.le_of_ble_eq_true rfl) (by repeat (first | exact trivial | refine ⟨rfl, ?_⟩)) ?_
  refine Run.seq ?_
  refine Run.region ?_
  refine RunL.alloc ti82 rfl (fun bx1 => ?_)
  refine RunL.ok (OpOk.assign rfl) rfl ?_
  refine RunL.nil ?_
  refine Run.seq ?_
  refine Run.seq ?_
  refine Run.region ?_
  refine RunL.ok (OpOk.move rfl) rfl ?_
  refine RunL.ok (OpOk.move rfl) rfl ?_
  refine RunL.mem (frc (frl rfl) (frc (frl rfl) (frc (frl rfl) rfl))) ?_
  refine RunL.call cal68 rfl (s68) rfl (fun vx2 Ax2 hx2 => ?_)
  obtain ⟨rfl, rfl⟩ := hx2
  refine RunL.ok (OpOk.not rfl) rfl ?_
  refine RunL.nil ?_
  refine Run.condNF rfl (by first | omega | with_reducible rfl | assumption) ?_
  refine Run.skip ?_
  refine Run.seq ?_
  refine Run.region ?_
  refine RunL.ok (OpOk.move rfl) rfl ?_
  refine RunL.ok (OpOk.nilOk rfl) rfl ?_
  refine RunL.ok (OpOk.fieldAddr fld119_0 rfl) rfl ?_
  refine RunL.ok (OpOk.load rfl rfl rfl (Blk.out Blk.pts.left.left _ _ (by first | rfl | assumption))) rfl ?_
  refine RunL.ok (OpOk.move rfl) rfl ?_
  refine RunL.know (fun w s => (s.conv (frl rfl)).ownRd0) (fun rdx3 => ?_)
  refine RunL.ok (OpOk.idx1N rfl ti123 rfl (Rd.right rdx3).left rfl (by omega)) rfl ?_
  refine RunL.ok (OpOk.fieldAddrA fld123_0 rfl) rfl ?_
  refine RunL.call cal72 rfl (s72a (by assumption) (by assumption) (by assumption)) rfl (fun vx4 Ax4 hx4 => ?_)
  obtain ⟨x5, ⟨rfl, rfl⟩⟩ := hx4
  refine RunL.ok (OpOk.move rfl) rfl ?_
  refine RunL.ok (OpOk.ext20 rfl) rfl ?_
  refine RunL.ok (OpOk.ext21 rfl) rfl ?_
  refine RunL.alloc ti82 rfl (fun bx6 => ?_)
  refine RunL.storeAll ti82 rfl rfl rfl (ones rfl) rfl rfl ?_
  refine RunL.ok (OpOk.assign rfl) rfl ?_
  refine RunL.nil ?_
  refine Run.seq ?_
  refine Run.seq ?_
  refine Run.region ?_
  refine RunL.ok (OpOk.move rfl) rfl ?_
  refine RunL.ok (OpOk.not rfl) rfl ?_
  refine RunL.nil ?_
  refine Run.condT rfl ?_
  refine Run.seq ?_
  refine Run.region ?_
  refine RunL.ok (OpOk.build rfl (fun w => run_build w 82 _ _ (by rfl))) rfl ?_
  refine RunL.storeAll ti82 rfl rfl rfl (ones rfl) (frl (frl (frl (frl (frl rfl))))) rfl ?_
  refine RunL.ok (OpOk.assign rfl) rfl ?_
  refine RunL.nil ?_
  refine Run.retC2 (A' := _) Try.func46 rfl rfl rfl ti82 rfl rfl Blk.pts rfl (Grew.refl _) ?_
  exact ⟨_, rfl, (Eq.trans (frc (frl (frl rfl)) (frc (frl (frl rfl)) (frc (frl (frl (frl rfl))) rfl))) (congrArg (· * _) (congrArg (· * _) (congrArg (· * _) (asg (asg as1))))))⟩
theorem nextC1 {t : Nat} {sv : SV} {m : Ms} {r : List Ms} (hn : Q.length = n) (ht : t < n) (hq : Q.getD t default = (sv, m :: r)) (hl : r.length ≤ 1048575) : Spec Try.prog w0 46 [.pointer (some ⟨p, 0, none⟩), .int .i64 (t : Int)] (A * pts p (.cells #[qv, .int .i64 room, .int .i64 ref] 119 (0, 0)) * own 123 1 qv n (Fl encT123 (Q)) * ownsQ (Q)) (fun v' A' => ∃ (sv2 : SV) (J : Asn), v' = .tuple #[.agg (encT82 m).toArray, .int .i64 0] ∧ A' = A * J * bodyM m * pts p (.cells #[qv, .int .i64 room, .int .i64 ref] 119 (0, 0)) * own 123 1 qv n (Fl encT123 ((Q.set t (sv2, r)))) * ownsQ ((Q.set t (sv2, r)))) := by
  have hone : ∀ w ∈ (Value.agg (encT82 m).toArray).cells.toList, w.oneCell' = true := fun w hw => OneC.one (enc := encT82) m w hw
  refine Spec.of_run [(0, .pointer (some ⟨p, 0, none⟩)), (1, .int .i64 (t : Int))] Try.func46 rfl (Nat.le_of_ble_eq_true rfl) (by repeat (first | exact trivial | refine ⟨rfl, ?_⟩)) ?_
  refine Run.seq ?_
  refine Run.region ?_
  refine RunL.alloc ti82 rfl (fun bx1 => ?_)
  refine RunL.ok (OpOk.assign rfl) rfl ?_
  refine RunL.nil ?_
  refine Run.seq ?_
  refine Run.seq ?_
  refine Run.region ?_
  refine RunL.ok (OpOk.move rfl) rfl ?_
  refine RunL.ok (OpOk.move rfl) rfl ?_
  refine RunL.mem (frc (frl rfl) (frc (frl rfl) (frc (frl rfl) rfl))) ?_
  refine RunL.call cal68 rfl (s68) rfl (fun vx2 Ax2 hx2 => ?_)
  obtain ⟨rfl, rfl⟩ := hx2
  refine RunL.ok (OpOk.not rfl) rfl ?_
  refine RunL.nil ?_
  refine Run.condNF rfl (by first | omega | with_reducible rfl | assumption) ?_
  refine Run.skip ?_
  refine Run.seq ?_
  refine Run.region ?_
  refine RunL.ok (OpOk.move rfl) rfl ?_
  refine RunL.ok (OpOk.nilOk rfl) rfl ?_
  refine RunL.ok (OpOk.fieldAddr fld119_0 rfl) rfl ?_
  refine RunL.ok (OpOk.load rfl rfl rfl (Blk.out Blk.pts.left.left _ _ (by first | rfl | assumption))) rfl ?_
  refine RunL.ok (OpOk.move rfl) rfl ?_
  refine RunL.know (fun w s => (s.conv (frl rfl)).ownRd0) (fun rdx3 => ?_)
  refine RunL.ok (OpOk.idx1N rfl ti123 rfl (Rd.right rdx3).left rfl (by omega)) rfl ?_
  refine RunL.ok (OpOk.fieldAddrA fld123_0 rfl) rfl ?_
  refine RunL.call cal72 rfl (s72b (by assumption) (by assumption) (by assumption) (by assumption)) rfl (fun vx5 Ax5 hx5 => ?_)
  obtain ⟨x6, ⟨x7, ⟨rfl, rfl⟩⟩⟩ := hx5
  refine RunL.ok (OpOk.move rfl) rfl ?_
  refine RunL.ok (OpOk.ext20 rfl) rfl ?_
  refine RunL.ok (OpOk.ext21 rfl) rfl ?_
  refine RunL.alloc ti82 rfl (fun bx8 => ?_)
  refine RunL.storeAll ti82 rfl rfl rfl (fun w hw => OneC.one (enc := encT82) (m) w hw) rfl rfl ?_
  refine RunL.ok (OpOk.assign rfl) rfl ?_
  refine RunL.nil ?_
  refine Run.seq ?_
  refine Run.seq ?_
  refine Run.region ?_
  refine RunL.ok (OpOk.move rfl) rfl ?_
  refine RunL.ok (OpOk.not rfl) rfl ?_
  refine RunL.nil ?_
  refine Run.condF rfl ?_
  refine Run.skip ?_
  refine Run.seq ?_
  refine Run.region ?_
  refine RunL.ok (OpOk.loadS rfl rfl ti82 rfl Blk.pts rfl) rfl ?_
  refine RunL.storeAll ti82 rfl rfl rfl (fun w hw => OneC.one (enc := encT82) (m) w hw) (frl (frl (frl (frl (frl (frl rfl)))))) rfl ?_
  refine RunL.ok (OpOk.assign rfl) rfl ?_
  refine RunL.nil ?_
  refine Run.retC2 (A' := _) Try.func46 rfl rfl rfl ti82 rfl rfl Blk.pts rfl (Grew.refl _) ?_
  exact ⟨_, _, rfl, (Eq.trans (frc (frl (frl rfl)) (frc (frl (frl rfl)) (frc (frl (frl (frl (frl rfl)))) (frc (frl (frl rfl)) rfl)))) (congrArg (· * _) (congrArg (· * _) (congrArg (· * _) (congrArg (· * _) (asg (asg as1)))))))⟩
theorem waitA {to : Int} (h : ¬ (0 ≤ to ∧ to < (n : Int))) : Spec Try.prog w0 49 [.pointer (some ⟨p, 0, none⟩), .int .i64 to] (A * pts p (.cells #[qv, .int .i64 room, .int .i64 ref] 119 (0, 0)) * own 123 1 qv n (Fl encT123 (Q)) * ownsQ (Q)) (fun v' A' => ∃ J, v' = .slice none 0 0 ∧ A' = A * J * pts p (.cells #[qv, .int .i64 room, .int .i64 ref] 119 (0, 0)) * own 123 1 qv n (Fl encT123 (Q)) * ownsQ (Q)) := by
  refine Spec.of_run [(0, .pointer (some ⟨p, 0, none⟩)), (1, .int .i64 to)] Try.func49 rfl (Nat.le_of_ble_eq_true rfl) (by repeat (first | exact trivial | refine ⟨rfl, ?_⟩)) ?_
  refine Run.seq ?_
  refine Run.region ?_
  refine RunL.ok (OpOk.assign rfl) rfl ?_
  refine RunL.nil ?_
  refine Run.seq ?_
  refine Run.seq ?_
  refine Run.region ?_
  refine RunL.ok (OpOk.move rfl) rfl ?_
  refine RunL.ok (OpOk.move rfl) rfl ?_
  refine RunL.call cal68 rfl (s68) rfl (fun vx1 Ax1 hx1 => ?_)
  obtain ⟨rfl, rfl⟩ := hx1
  refine RunL.ok (OpOk.not rfl) rfl ?_
  refine RunL.nil ?_
  refine Run.condNT rfl (by first | omega | assumption) ?_
  refine Run.seq ?_
  refine Run.region ?_
  refine RunL.ok (OpOk.assign rfl) rfl ?_
  refine RunL.nil ?_
  refine Run.ret1 Try.func49 rfl rfl ?_
  exact ⟨_, rfl, (congrArg (· * _) (congrArg (· * _) (congrArg (· * _) as0)))⟩
theorem waitB {t : Nat} {sv : SV} {ms : List Ms} (hn : Q.length = n) (ht : t < n) (hq : Q.getD t default = (sv, ms)) (hl : ms.length ≤ 1048576) (hb : ∀ m ∈ ms, m.2.2.2.2.2.length ≤ 140737488351232) : Spec Try.prog w0 49 [.pointer (some ⟨p, 0, none⟩), .int .i64 (t : Int)] (A * pts p (.cells #[qv, .int .i64 room, .int .i64 ref] 119 (0, 0)) * own 123 1 qv n (Fl encT123 (Q)) * ownsQ (Q)) (fun v' A' => ∃ (ys : List Ms) (J : Asn), ys.map cm = ms.map cm ∧ A' = A * J * pts p (.cells #[qv, .int .i64 room, .int .i64 ref] 119 (0, 0)) * own 123 1 qv n (Fl encT123 (Q)) * ownsQ (Q) * own 82 5 v' ys.length (Fl encT82 ys) * ownsM ys) := by
  refine Spec.of_run [(0, .pointer (some ⟨p, 0, none⟩)), (1, .int .i64 (t : Int))] Try.func49 rfl (Nat.le_of_ble_eq_true rfl) (by repeat (first | exact trivial | refine ⟨rfl, ?_⟩)) ?_
  refine Run.seq ?_
  refine Run.region ?_
  refine RunL.ok (OpOk.assign rfl) rfl ?_
  refine RunL.nil ?_
  refine Run.seq ?_
  refine Run.seq ?_
  refine Run.region ?_
  refine RunL.ok (OpOk.move rfl) rfl ?_
  refine RunL.ok (OpOk.move rfl) rfl ?_
  refine RunL.call cal68 rfl (s68) rfl (fun vx1 Ax1 hx1 => ?_)
  obtain ⟨rfl, rfl⟩ := hx1
  refine RunL.ok (OpOk.not rfl) rfl ?_
  refine RunL.nil ?_
  refine Run.condNF rfl (by first | omega | with_reducible rfl | assumption) ?_
  refine Run.skip ?_
  refine Run.seq ?_
  refine Run.region ?_
  refine RunL.alloc ti70 rfl (fun bx2 => ?_)
  refine RunL.nil ?_
  refine Run.seq ?_
  refine Run.seq ?_
  refine Run.region ?_
  refine RunL.ok (OpOk.move rfl) rfl ?_
  refine RunL.ok (OpOk.nilOk rfl) rfl ?_
  refine RunL.ok (OpOk.fieldAddr fld119_0 rfl) rfl ?_
  refine RunL.ok (OpOk.load rfl rfl rfl (Blk.out Blk.pts.left.left.left _ _ (by first | rfl | assumption))) rfl ?_
  refine RunL.ok (OpOk.move rfl) rfl ?_
  refine RunL.know (fun w s => (s.conv (frl (frl rfl))).ownRd0) (fun rdx3 => ?_)
  refine RunL.ok (OpOk.idx1N rfl ti123 rfl (Rd.right rdx3).left.left rfl (by omega)) rfl ?_
  refine RunL.ok (OpOk.fieldAddrA fld123_0 rfl) rfl ?_
  refine RunL.mem (frc (frl rfl) (frc (frl rfl) rfl)) ?_
  refine RunL.call cal73 rfl (s73 (by assumption) (by assumption) (by assumption) (by assumption)) rfl (fun vx4 Ax4 hx4 => ?_)
  obtain ⟨x5, ⟨x6, ⟨rfl, rfl⟩⟩⟩ := hx4
  refine RunL.nil ?_
  refine Run.block ?_
  rw [ownsQ_at (show t < Q.length by omega), hq, qone]
  simp only [← sep_assoc]
  refine Run.know (fun w s => Sat.ownsM0 (A := A * pts p (.cells #[qv, .int .i64 room, .int .i64 ref] 119 (0, 0)) * pts bx2 (.cells (Value.slice none 0 0).cells 70 (0, 0)) * own 123 1 qv n (Fl encT123 Q) * qrest Q t * own 82 5 sv.1 ms.length (Fl encT82 ms) * pts x5 (.cells #[x6] 70 (0, 0)) * own 82 5 x6 ms.length (Fl encT82 ms)) (s.conv (by ac_rfl))) (fun alM => ?_)
  refine Run.ent (Ent.ownNil' _ 82 5 (Fl encT82 ([] : List Ms)) rfl) ?_
  refine Run.range0 (Z := Asn × Value × List Ms) (iterG (v := x6) (xs := ms) (b := x5) (by omega)) rfl rfl (fun z => A * z.1 * pts p (.cells #[qv, .int .i64 room, .int .i64 ref] 119 (0, 0)) * own 123 1 qv n (Fl encT123 Q) * qrest Q t * own 82 5 sv.1 ms.length (Fl encT82 ms) * ownsM ms * pts bx2 (.cells #[z.2.1] 70 (0, 0)) * own 82 5 z.2.1 z.2.2.length (Fl encT82 z.2.2) * ownsM z.2.2) (fun i z => z.2.2.map cm = (ms.take i).map cm) (fun _ _ => False) (emp, .slice none 0 0, []) rfl ?_ (fun RR l rc i z J hi hz hgo _ _ => ?_) (fun z J D hz => ?_) (fun c z J D hz => hz.elim)
  · dsimp only
    rw [sep_emp, ownsM_nil, sep_emp]
    show A * pts p _ * pts bx2 (.cells #[Value.slice none 0 0] 70 (0, 0)) * _ * _ * _ * _ * _ * _ * _ = _
    ac_rfl
  · obtain ⟨J2, v7, ys⟩ := z
    simp only at hz hgo ⊢
    have hyl : ys.length = i := by have := congrArg List.length hz; simp only [List.length_map, List.length_take] at this; omega
    have hrd := alM.get hi
    have hbb := hb _ (getD_mem hi)
    have e1 : (ms.take (i + 1)).map cm = (ms.take i).map cm ++ [cm (ms.getD i default)] := by rw [take_next hi, List.map_append]; rfl
    obtain ⟨o, hoe⟩ : ∃ o, ms.getD i default = o := ⟨_, rfl⟩
    rw [hoe] at hrd hbb e1 ⊢
    obtain ⟨mk, mf, mt, msv, mo, mb⟩ := o
    dsimp only [GM, cm] at hrd hbb e1
    have hone : ∀ w ∈ (Value.agg (encT82 (mk, mf, mt, msv, mo, mb)).toArray).cells.toList, w.oneCell' = true := fun w hw => OneC.one (enc := encT82) (mk, mf, mt, msv, mo, mb) w hw
    refine Run.region ?_
    refine RunL.alloc ti82 rfl (fun by1 => ?_)
    refine RunL.storeAll ti82 rfl rfl rfl (fun w hw => OneC.one (enc := encT82) ((mk, mf, mt, msv, mo, mb)) w hw) rfl rfl ?_
    refine RunL.nil ?_
    refine Run.mem (frc (frl rfl) rfl) ?_
    refine Run.beginRound ?_
    refine Run.block ?_
    refine Run.know (fun w s => (s.conv (frl (frl (frl (frl (frl (frl (frl rfl)))))))).ownRd0) (fun rdy2 => ?_)
    refine Run.know (fun w s => (s.conv (frl (frl (frl (frl rfl))))).ownRd0) (fun rdy3 => ?_)
    (apply Run.drawD [5] (by rfl) (Eq.trans (frc (frl (frl (frl (frl rfl)))) rfl) rfl); case hchk => kernel_rfl)
    refine Sd.quiet 0 _ _ rfl rfl rfl rfl rfl (QOp.ok (fun X => OpOk.load rfl rfl rfl (Blk.out Blk.pts.left.left.left.left.left.left _ _ (by first | rfl | assumption)))) ?_
    refine Sd.quiet 1 _ _ rfl rfl rfl rfl rfl (QOp.ok (fun X => OpOk.loadS rfl rfl ti82 rfl Blk.pts.left.left.left rfl)) ?_
    (refine Sd.exec 2 rfl rfl rfl rfl rfl ?hrest (by rfl) (fun Xy4 Ky4 hKy4 => ?_); case hrest => kernel_rfl)
    refine RunL.mem (fl2 (sep_emp _) rfl) ?_
    refine RunL.know (fun w s => (s.conv (frl (frl (frl (frl (frl rfl)))))).ownsM0) (fun aly5 => ?_)
    refine RunL.call cal71 rfl (s71 (Rd.right hrd).left.left.left.left.left.left.left (by assumption)) rfl (fun vy6 Ay6 hy6 => ?_)
    obtain ⟨y7, ⟨y8, ⟨rfl, rfl⟩⟩⟩ := hy6
    refine RunL.know (fun w s => (s.conv rfl).ownRd0) (fun rdy9 => ?_)
    refine Sd.ret hKy4 (Eq.trans (frc (frl (frl rfl)) rfl) (gp2 rfl (asg rfl))) ⟨_, (emp_sep _).symm⟩ ?_
    (refine Sd.exec 3 rfl rfl rfl rfl rfl ?hrest (by rfl) (fun Xy10 Ky10 hKy10 => ?_); case hrest => kernel_rfl)
    refine RunL.mem (fl2 (flS rfl) rfl) ?_
    refine RunL.litFl (enc := encT82) [(mk, mf, mt, y7, mo, mb)] rfl ti82 rfl (fun _ => rfl) rfl rfl (by decide) (by decide) rfl (fun vy11 rdy11 => ?_)
    refine RunL.know (fun w s => (s.conv rfl).ownRd0) (fun rdy12 => ?_)
    refine Sd.ret hKy10 (Eq.trans (frc (frl rfl) rfl) (gp2 rfl (asg (asg rfl)))) ⟨_, rfl⟩ ?_
    (refine Sd.exec 4 rfl rfl rfl rfl rfl ?hrest (by rfl) (fun Xy13 Ky13 hKy13 => ?_); case hrest => kernel_rfl)
    refine RunL.mem (fl2 (flS (flS rfl)) rfl) ?_
    refine RunL.appendF rfl ti82 rfl rfl rfl rfl (Rd.right rdy12).left rfl (by decide) (by omega) (by simp only [maxLen]; omega) rfl (fun vy14 rdy14 => ?_)
    refine RunL.know (fun w s => (s.conv rfl).ownRd0) (fun rdy15 => ?_)
    refine Sd.ret hKy13 (Eq.trans rfl (gp2 (sep_emp _).symm (asg (asg (asg rfl))))) ⟨_, rfl⟩ ?_
    (apply Sd.tail; case hall => kernel_rfl)
    refine RunL.mem (fl2 (flS (flS (flS rfl))) (sep_emp _)) ?_
    refine RunL.store ti70 rfl rfl (Rd.one rdy15) (frl (frl (frl (frl (frl (frl (frl (frl rfl)))))))) (by exact Nat.le_of_ble_eq_true rfl) (.inl rfl) ?_
    refine RunL.nil ?_
    refine Run.inBlock ?_
    rw [show ys.length + 1 = (ys ++ [(mk, mf, mt, y7, mo, mb)]).length by simp]
    refine Run.jump ((hgo (_, vy14, ys ++ [(mk, mf, mt, y7, mo, mb)]) (by dsimp only; rw [e1, List.map_append, hz]; rfl) [])) trivial (by simp only [ownsM_snoc, ← sep_assoc]; exact (Grew.of (Eq.trans (frc (frl (frl (frl (frl (frl rfl))))) (frc (frl (frl (frl (frl (frl (frl rfl)))))) (frc (frl (frl (frl rfl))) (frc (frl (frl (frl (frl (frl rfl))))) (frc (frl rfl) (frc rfl (frc (frl (frl (frl rfl))) (frc (frl (frl (frl rfl))) (frc (frl (frl (frl rfl))) (frc (frl (frl (frl rfl))) (frc (frl (frl (frl rfl))) rfl))))))))))) (congrArg (· * _) (congrArg (· * _) (congrArg (· * _) (congrArg (· * _) (congrArg (· * _) (congrArg (· * _) (congrArg (· * _) (congrArg (· * _) (congrArg (· * _) (congrArg (· * _) (congrArg (· * _) (asg (asg (asg as1))))))))))))))) (Grew.refl _)))
  · obtain ⟨J2, v7, ys⟩ := z
    simp only at hz ⊢
    rw [List.take_length] at hz
    refine Run.inBlock ?_
    refine Run.seq ?_
    refine Run.region ?_
    refine RunL.ok (OpOk.load rfl rfl rfl (Blk.out Blk.pts.left.left.left.left _ _ (by first | rfl | assumption))) rfl ?_
    refine RunL.ok (OpOk.assign rfl) rfl ?_
    refine RunL.nil ?_
    refine Run.shut ?_
    refine Run.ret1 Try.func49 rfl rfl ?_
    refine ⟨ys, J2 * pts bx2 (.cells #[v7] 70 (0, 0)) * J, hz, ?_⟩
    ac_rfl
end
end Go.Proofs.Ytegbfnibjgpbpaa
