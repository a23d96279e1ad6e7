/- The router's example. -/
import Derived.Test.YtegbfnibjgpbpaaRtJ
namespace Go.Proofs.Ytegbfnibjgpbpaa
open Go Go.Proofs
set_option maxRecDepth 100000
set_option maxHeartbeats 4000000
set_option linter.unusedSimpArgs false
abbrev nilSV : SV := ⟨.slice none 0 0, rfl⟩
def mz (to o : Int) : Ms := (0, 0, to, nilSV, o, [])
theorem alls_z (w0 : World) (A : Asn) (l : List (Int × Int)) : Alls (GM w0) A (l.map fun x => mz x.1 x.2) := ⟨fun m hm => by
  obtain ⟨x, _, rfl⟩ := List.mem_map.1 hm
  exact Rd.nil 1⟩
section
variable {w0 : World} {A : Asn}
theorem s41c {room : Int} (h3 : 1 ≤ room) (h4 : room ≤ 16) : Spec Try.prog w0 41 [.int .i64 3, .int .i64 room] A (fun v' A' => ∃ p qv, v' = .tuple #[.pointer (some ⟨p, 0, none⟩), .int .i64 0] ∧ A' = A * pts p (.cells #[qv, .int .i64 room, .int .i64 0] 119 (0, 0)) * own 123 1 qv 4 (Fl encT123 ((List.replicate 4 q0))) * ownsQ ((List.replicate 4 q0))) := s41b (k := 3) (by decide) (by decide) h3 h4
theorem s41d : Spec Try.prog w0 41 [.int .i64 2, .int .i64 1] A (fun v' A' => ∃ p qv, v' = .tuple #[.pointer (some ⟨p, 0, none⟩), .int .i64 0] ∧ A' = A * pts p (.cells #[qv, .int .i64 1, .int .i64 0] 119 (0, 0)) * own 123 1 qv 3 (Fl encT123 ((List.replicate 3 q0))) * ownsQ ((List.replicate 3 q0))) := s41b (k := 2) (by decide) (by decide) (by decide) (by decide)
theorem s40 : Spec Try.prog w0 40 [] A (fun v' A' => ∃ J, v' = .bool true ∧ A' = A * J) := by
  have al : Alls (GM w0) A [mz 0 1, mz 0 2, mz 2 0, mz 3 0] := alls_z w0 A [(0, 1), (0, 2), (2, 0), (3, 0)]
  have hm : ∀ m ∈ [mz 0 1, mz 0 2, mz 2 0, mz 3 0], m.2.2.2.2.2.length ≤ 140737488351232 := by decide
  have hc : countC 1 (cQ (List.replicate 3 q0)) ([mz 0 1, mz 0 2, mz 2 0, mz 3 0].map cm) = 2 := by decide
  have ho : offersC 1 (cQ (List.replicate 3 q0)) ([mz 0 1, mz 0 2, mz 2 0, mz 3 0].map cm) = [[(0, 0, 0, 1, [])], [], [(0, 0, 2, 0, [])]] := by rfl
  have hn1 : nextC [[(0, 0, 0, 1, [])], [], [(0, 0, 2, 0, [])]] 0 = ((0, 0, 0, 1, []), 0, [[], [], [(0, 0, 2, 0, [])]]) := by rfl
  have hn2 : nextC [[], [], [(0, 0, 2, 0, [])]] 0 = ((0, 0, 0, 0, []), 21, [[], [], [(0, 0, 2, 0, [])]]) := by rfl
  refine Spec.of_run [] Try.func40 rfl (Nat.le_of_ble_eq_true rfl) (by repeat (first | exact trivial | refine ⟨rfl, ?_⟩)) ?_
  refine Run.seq ?_
  refine Run.region ?_
  refine RunL.ok (OpOk.assign rfl) rfl ?_
  refine RunL.nil ?_
  refine Run.seq ?_
  refine Run.region ?_
  refine RunL.call cal41 rfl (s41b (by decide) (by decide) (by omega) (by omega)) rfl (fun vx2 Ax2 hx2 => ?_)
  obtain ⟨x3, ⟨x4, ⟨rfl, rfl⟩⟩⟩ := hx2
  refine RunL.ok (OpOk.move rfl) rfl ?_
  refine RunL.ok (OpOk.ext20 rfl) rfl ?_
  refine RunL.ok (OpOk.ext21 rfl) rfl ?_
  refine RunL.ok (OpOk.assign rfl) rfl ?_
  refine RunL.ok (OpOk.assign rfl) rfl ?_
  refine RunL.nil ?_
  refine Run.seq ?_
  refine Run.seq ?_
  refine Run.region ?_
  refine RunL.ok (OpOk.move rfl) rfl ?_
  refine RunL.ok (OpOk.eqlPN rfl rfl) rfl ?_
  refine RunL.ok (OpOk.move rfl) rfl ?_
  refine RunL.on rfl rfl ?_
  refine RunL.ok (OpOk.move rfl) rfl ?_
  refine RunL.on rfl rfl ?_
  refine RunL.ok (OpOk.as (c := false) (OpOk.neq rfl rfl) (by rw [decide_eq_true (by omega)]; rfl)) rfl ?_
  refine RunL.ok (OpOk.pickF rfl rfl) rfl ?_
  refine RunL.ok (OpOk.move rfl) rfl ?_
  refine RunL.on rfl rfl ?_
  refine RunL.ok (OpOk.move rfl) rfl ?_
  refine RunL.on rfl rfl ?_
  refine RunL.ok (OpOk.build (cells := #[.int (IntKind.i64) (0), .int (IntKind.i64) (0), .int (IntKind.i64) (0), .slice (none) (0) (0), .int (IntKind.i64) (1)]) rfl (fun w => run_build w 82 _ _ (by rfl))) rfl ?_
  refine RunL.on rfl rfl ?_
  refine RunL.ok (OpOk.build (cells := #[.int (IntKind.i64) (0), .int (IntKind.i64) (0), .int (IntKind.i64) (0), .slice (none) (0) (0), .int (IntKind.i64) (2)]) rfl (fun w => run_build w 82 _ _ (by rfl))) rfl ?_
  refine RunL.on rfl rfl ?_
  refine RunL.ok (OpOk.build (cells := #[.int (IntKind.i64) (0), .int (IntKind.i64) (0), .int (IntKind.i64) (2), .slice (none) (0) (0), .int (IntKind.i64) (0)]) rfl (fun w => run_build w 82 _ _ (by rfl))) rfl ?_
  refine RunL.on rfl rfl ?_
  refine RunL.ok (OpOk.build (cells := #[.int (IntKind.i64) (0), .int (IntKind.i64) (0), .int (IntKind.i64) (3), .slice (none) (0) (0), .int (IntKind.i64) (0)]) rfl (fun w => run_build w 82 _ _ (by rfl))) rfl ?_
  refine RunL.on rfl rfl ?_
  refine RunL.litFl (enc := encT82) [mz 0 1, mz 0 2, mz 2 0, mz 3 0] rfl ti82 rfl (fun _ => rfl) rfl rfl (by decide) (by decide) rfl (fun v9 rd9 => ?_)
  refine RunL.on rfl rfl ?_
  refine RunL.know (fun w s => (s.conv rfl).ownRd0) (fun rdy1 => ?_)
  refine RunL.mem (frc (frl rfl) (frc (frl rfl) (frc (frl rfl) rfl))) ?_
  refine RunL.call cal43 rfl (s43 (Rd.right rdy1) al.left (by assumption) rfl (by omega) (by omega) (by omega) (by decide)) rfl (fun vy2 Ay2 hy2 => ?_)
  obtain ⟨y3, ⟨y4, ⟨rfl, ⟨y5, ⟨y6, rfl⟩⟩⟩⟩⟩ := hy2
  refine RunL.on rfl rfl ?_
  refine RunL.ok (OpOk.neq rfl rfl) rfl ?_
  refine RunL.ok (OpOk.pickF rfl rfl) rfl ?_
  refine RunL.nil ?_
  refine Run.condF rfl ?_
  refine Run.skip ?_
  refine Run.seq ?_
  refine Run.region ?_
  refine RunL.ok (OpOk.move rfl) rfl ?_
  have y7 := y6.trans ho
  have hr2 : RowB 1 (cQ y3) := by rw [y6]; exact row_offers _ (RowB.new 1 (by decide) _)
  rw [← y7] at hn1
  rw [show (0 : Int) + (([mz 0 1, mz 0 2, mz 2 0, mz 3 0] : List Ms).length : Int) - (countC 1 (cQ (List.replicate (2 + 1) q0)) ([mz 0 1, mz 0 2, mz 2 0, mz 3 0].map cm) : Int) = 2 from by decide]
  refine RunL.call cal46 rfl (s46 (by assumption) (by assumption) (by assumption) (by omega)) rfl (fun vz1 Az1 hz1 => ?_)
  obtain ⟨z2, ⟨z3, ⟨z4, ⟨rfl, ⟨z5, ⟨z6, rfl⟩⟩⟩⟩⟩⟩ := hz1
  refine RunL.ok (OpOk.move rfl) rfl ?_
  refine RunL.ok (OpOk.ext20 rfl) rfl ?_
  refine RunL.ok (OpOk.ext21 rfl) rfl ?_
  refine RunL.alloc ti82 rfl (fun bz7 => ?_)
  refine RunL.storeAll ti82 rfl rfl rfl (fun w hw => OneC.one (enc := encT82) ((0, 0, 0, z2, 1, [])) w hw) rfl rfl ?_
  refine RunL.ok (OpOk.assign rfl) rfl ?_
  refine RunL.nil ?_
  refine Run.seq ?_
  refine Run.region ?_
  refine RunL.ok (OpOk.move rfl) rfl ?_
  refine RunL.mem (frc (frl rfl) (frc (frl rfl) (frc (frl rfl) rfl))) ?_
  have z9 := row_next hn1 hr2
  have hl3 : lenQ z3 = 1 := by rw [← cQ_lenQ, z6]; rfl
  rw [← z6] at hn2 z9
  refine RunL.call cal46 rfl (s46 (by assumption) (by assumption) (by assumption) (by omega)) rfl (fun vt1 At1 ht1 => ?_)
  obtain ⟨t2, ⟨t3, ⟨t4, ⟨rfl, ⟨t5, ⟨t6, rfl⟩⟩⟩⟩⟩⟩ := ht1
  refine RunL.ok (OpOk.move rfl) rfl ?_
  refine RunL.ok (OpOk.ext20 rfl) rfl ?_
  refine RunL.ok (OpOk.ext21 rfl) rfl ?_
  refine RunL.alloc ti82 rfl (fun bt7 => ?_)
  refine RunL.storeAll ti82 rfl rfl rfl (fun w hw => OneC.one (enc := encT82) ((0, 0, 0, t2, 0, [])) w hw) rfl rfl ?_
  refine RunL.ok (OpOk.assign rfl) rfl ?_
  refine RunL.nil ?_
  refine Run.seq ?_
  refine Run.region ?_
  refine RunL.ok (OpOk.move rfl) rfl ?_
  refine RunL.ok (OpOk.asT (OpOk.eql rfl rfl) (by omega)) rfl ?_
  refine RunL.ok (OpOk.move rfl) rfl ?_
  refine RunL.on rfl rfl ?_
  refine RunL.ok (OpOk.fieldAddr fld82_4 rfl) rfl ?_
  refine RunL.on rfl rfl ?_
  refine RunL.ok (OpOk.load rfl rfl rfl (Blk.out Blk.pts.left.left.left.left.left.left _ _ (by first | rfl | assumption))) rfl ?_
  refine RunL.on rfl rfl ?_
  refine RunL.ok (OpOk.asT (OpOk.eql rfl rfl) (by omega)) rfl ?_
  refine RunL.ok (OpOk.pickT rfl rfl) rfl ?_
  refine RunL.ok (OpOk.move rfl) rfl ?_
  refine RunL.on rfl rfl ?_
  refine RunL.ok (OpOk.move rfl) rfl ?_
  refine RunL.on rfl rfl ?_
  refine RunL.ok (OpOk.asT (OpOk.eql rfl rfl) (by omega)) rfl ?_
  refine RunL.ok (OpOk.pickT rfl rfl) rfl ?_
  refine RunL.ok (OpOk.move rfl) rfl ?_
  refine RunL.on rfl rfl ?_
  refine RunL.ok (OpOk.move rfl) rfl ?_
  refine RunL.on rfl rfl ?_
  refine RunL.mem (frc (frl rfl) (frc (frl rfl) (frc (frl rfl) rfl))) ?_
  refine RunL.call cal52 rfl (s52) rfl (fun vt8 At8 ht8 => ?_)
  obtain ⟨rfl, rfl⟩ := ht8
  refine RunL.on rfl rfl ?_
  refine RunL.ok (OpOk.asT (OpOk.eql rfl rfl) (by omega)) rfl ?_
  refine RunL.ok (OpOk.pickT rfl rfl) rfl ?_
  refine RunL.ok (OpOk.move rfl) rfl ?_
  refine RunL.on rfl rfl ?_
  refine RunL.ok (OpOk.move rfl) rfl ?_
  refine RunL.on rfl rfl ?_
  have t9 : lenQ t3 = 1 := by rw [← cQ_lenQ, t6]; exact (cQ_lenQ z3).trans hl3
  refine RunL.call cal51 rfl (s51 (by assumption) (by decide) (by omega)) rfl (fun vu1 Au1 hu1 => ?_)
  obtain ⟨rfl, rfl⟩ := hu1
  refine RunL.on rfl rfl ?_
  refine RunL.ok (OpOk.asT (OpOk.eql rfl rfl) (by omega)) rfl ?_
  refine RunL.ok (OpOk.pickT rfl rfl) rfl ?_
  refine RunL.ok (OpOk.assign rfl) rfl ?_
  refine RunL.nil ?_
  refine Run.ret1 Try.func40 rfl rfl ?_
  exact ⟨_, rfl, (asg (asg (asg (asg (asg (asg (asg (asg (asg (asg as1))))))))))⟩
end
end Go.Proofs.Ytegbfnibjgpbpaa
