/- The document's examples of bits; the laws of bits, walked. -/
import Derived.Test.YtlheianbmpgefaaBib
import Derived.Test.YtlheianbmpgefaaWs
namespace Go.Proofs.Ytlheianbmpgefaa
open Go Go.Proofs
set_option maxRecDepth 100000
set_option maxHeartbeats 4000000
abbrev encT31 := encF
theorem awake_bits : ([(3, 5), (5, 1)] : List (Int × Int)).all fitsF = true := by decide
theorem awake_pack : pack ([] ++ fieldBits [(3, 5), (5, 1)]) 1 = [161] := by decide
theorem awake_len : ([] ++ fieldBits [(3, 5), (5, 1)]).length = 8 := by decide
theorem awake_take : takeL [161] 0 0 [3, 5] = [5, 1] := by decide
theorem s15 {w0 : World} {A : Asn} : Spec Try.prog w0 15 [] A (fun v' A' => ∃ J, v' = .bool true ∧ A' = A * J) := by
  refine Spec.of_run [] Try.func15 rfl (Nat.le_of_ble_eq_true rfl) (by repeat (first | exact trivial | refine ⟨rfl, ?_⟩)) ?_
  have htl : (takeL [161] 0 0 [3, 5]).length = 2 := by decide
  refine Run.seq ?_
  refine Run.region ?_
  refine RunL.ok (OpOk.assign rfl) rfl ?_
  refine RunL.nil ?_
  refine Run.seq ?_
  refine Run.region ?_
  refine RunL.alloc ti26 rfl (fun bx1 => ?_)
  refine RunL.ent (newT26 _ _) ?_
  refine RunL.nil ?_
  refine Run.seq ?_
  refine Run.region ?_
  refine RunL.ok (OpOk.build (cells := #[.int (IntKind.i64) (3), .int (IntKind.i64) (5)]) rfl (fun w => run_build w 31 _ _ (by rfl))) rfl ?_
  refine RunL.ok (OpOk.build (cells := #[.int (IntKind.i64) (5), .int (IntKind.i64) (1)]) rfl (fun w => run_build w 31 _ _ (by rfl))) rfl ?_
  refine RunL.litFl (enc := encT31) [(3, 5), (5, 1)] rfl ti31 rfl (fun _ => rfl) rfl rfl (by decide) (by decide) rfl (fun vx2 rdx2 => ?_)
  refine RunL.know (fun w s => (s.conv rfl).ownRd0) (fun rdx3 => ?_)
  refine RunL.mem (frc (frl rfl) (frc (frl rfl) rfl)) ?_
  refine RunL.call cal17 rfl (s17a (Rd.right rdx3) rfl (by decide)) rfl (fun vx4 Ax4 hx4 => ?_)
  obtain ⟨x5, ⟨rfl, rfl⟩⟩ := hx4
  refine RunL.ok (OpOk.assign rfl) rfl ?_
  refine RunL.nil ?_
  refine Run.seq ?_
  refine Run.region ?_
  refine RunL.litB (xs := [161]) rfl ti5 rfl rfl rfl (by decide) rfl (fun vx6 rdx6 => ?_)
  refine RunL.know (fun w s => (s.conv rfl).ownRd0) (fun rdx7 => ?_)
  refine RunL.call cal21 rfl (s21 (Rd.right rdx7) (by omega)) rfl (fun vx8 Ax8 hx8 => ?_)
  obtain ⟨x9, ⟨x10, ⟨rfl, rfl⟩⟩⟩ := hx8
  refine RunL.ok (OpOk.assign rfl) rfl ?_
  refine RunL.nil ?_
  refine Run.seq ?_
  refine Run.seq ?_
  refine Run.region ?_
  refine RunL.ok (OpOk.move rfl) rfl ?_
  refine RunL.ok (OpOk.eqlPN rfl rfl) rfl ?_
  refine RunL.nil ?_
  refine Run.condF rfl ?_
  refine Run.skip ?_
  refine Run.seq ?_
  refine Run.region ?_
  refine RunL.ok (OpOk.move rfl) rfl ?_
  refine RunL.litI (xs := [3, 5]) rfl ti3 rfl rfl rfl (by decide) rfl (fun vx11 rdx11 => ?_)
  refine RunL.know (fun w s => (s.conv rfl).ownRd0) (fun rdx12 => ?_)
  refine RunL.mem (frc (frl rfl) (frc (frl rfl) rfl)) ?_
  refine RunL.call cal23 rfl (s23 (Rd.right rdx12) (by decide) (by omega) (by omega)) rfl (fun vx13 Ax13 hx13 => ?_)
  obtain rfl := hx13
  refine RunL.ok (OpOk.assign rfl) rfl ?_
  refine RunL.nil ?_
  refine Run.seq ?_
  refine Run.region ?_
  refine RunL.ok (OpOk.move rfl) rfl ?_
  refine RunL.ok (OpOk.asT (OpOk.eql rfl rfl) (by omega)) rfl ?_
  refine RunL.ok (OpOk.move rfl) rfl ?_
  refine RunL.on rfl rfl ?_
  refine RunL.mem (frc (frl (frl (frl (frl (frl rfl))))) (frc (frl (frl (frl (frl (frl rfl))))) rfl)) ?_
  refine RunL.call cal19 rfl (s19 (by decide)) rfl (fun vx14 Ax14 hx14 => ?_)
  obtain rfl := hx14
  refine RunL.on rfl rfl ?_
  refine RunL.know (fun w s => (s.conv rfl).ownRd0) (fun rdx15 => ?_)
  refine RunL.ok (OpOk.strOf rfl rfl rfl rfl (Rd.right rdx15)) rfl ?_
  refine RunL.on rfl rfl ?_
  refine RunL.ok (OpOk.eqlSS rfl rfl) rfl ?_
  refine RunL.ok (OpOk.pickT rfl rfl) rfl ?_
  refine RunL.ok (OpOk.move rfl) rfl ?_
  refine RunL.on rfl rfl ?_
  refine RunL.ok (OpOk.move rfl) rfl ?_
  refine RunL.on rfl rfl ?_
  refine RunL.know (fun w s => (s.conv (frl (frl (frl rfl)))).ownRd0) (fun rdx16 => ?_)
  refine RunL.ok (OpOk.lenR rfl rfl (Rd.right rdx16).left.left.left rfl) rfl ?_
  refine RunL.on rfl rfl ?_
  refine RunL.ok (OpOk.asT (OpOk.eql rfl rfl) (by omega)) rfl ?_
  refine RunL.ok (OpOk.pickT rfl rfl) rfl ?_
  refine RunL.ok (OpOk.move rfl) rfl ?_
  refine RunL.on rfl rfl ?_
  refine RunL.ok (OpOk.move rfl) rfl ?_
  refine RunL.on rfl rfl ?_
  refine RunL.ok (OpOk.idx1 rfl ti3 rfl (Rd.right rdx16).left.left.left rfl (by omega) (by omega)) rfl ?_
  refine RunL.on rfl rfl ?_
  refine RunL.ok (OpOk.load rfl rfl rfl (Rd.getI (Rd.right rdx16).left.left.left (by omega))) rfl ?_
  refine RunL.on rfl rfl ?_
  refine RunL.ok (OpOk.eql rfl rfl) rfl ?_
  refine RunL.ok (OpOk.pickT rfl rfl) rfl ?_
  refine RunL.ok (OpOk.move rfl) rfl ?_
  refine RunL.on rfl rfl ?_
  refine RunL.ok (OpOk.move rfl) rfl ?_
  refine RunL.on rfl rfl ?_
  refine RunL.ok (OpOk.idx1 rfl ti3 rfl (Rd.right rdx16).left.left.left rfl (by omega) (by omega)) rfl ?_
  refine RunL.on rfl rfl ?_
  refine RunL.ok (OpOk.load rfl rfl rfl (Rd.getI (Rd.right rdx16).left.left.left (by omega))) rfl ?_
  refine RunL.on rfl rfl ?_
  refine RunL.ok (OpOk.eql rfl rfl) rfl ?_
  refine RunL.ok (OpOk.pickT rfl rfl) rfl ?_
  refine RunL.ok (OpOk.assign rfl) rfl ?_
  refine RunL.nil ?_
  refine Run.ret1 Try.func15 rfl rfl ?_
  exact ⟨_, rfl, (asg (asg (asg (asg (asg (asg (asg (asg as1))))))))⟩
theorem bitsBack_spec {w0 : World} {u : Value} {fs : List (Int × Int)} (rd : Rd w0 (old w0) u 2 fs.length (Fl encF fs)) :
    Spec Try.prog w0 6 [u] (old w0) (fun v' A' => v' = .bool true ∧ Grew (old w0) A') := by
  have hmax := rd.max
  refine Spec.of_run [(0, u)] Try.func6 rfl (Nat.le_of_ble_eq_true rfl) (by repeat (first | exact trivial | refine ⟨rfl, ?_⟩)) ?_
  rcases Bool.eq_false_or_eq_true (fs.all fitsF) with hall | hall
  rotate_left
  · refine Run.seq ?_
    refine Run.region ?_
    refine RunL.ok (OpOk.assign rfl) rfl ?_
    refine RunL.nil ?_
    refine Run.seq ?_
    refine Run.seq ?_
    refine Run.region ?_
    refine RunL.call cal15 rfl (s15) rfl (fun vx1 Ax1 hx1 => ?_)
    obtain ⟨x2, ⟨rfl, rfl⟩⟩ := hx1
    refine RunL.ok (OpOk.not rfl) rfl ?_
    refine RunL.ok (OpOk.move rfl) rfl ?_
    refine RunL.on rfl rfl ?_
    refine RunL.ok (OpOk.move rfl) rfl ?_
    refine RunL.on rfl rfl ?_
    refine RunL.ok (OpOk.lenR rfl rfl rd.left rfl) rfl ?_
    refine RunL.on rfl rfl ?_
    refine RunL.ok (OpOk.gtr rfl rfl) rfl ?_
    refine RunL.ok (OpOk.pickF rfl rfl) rfl ?_
    refine RunL.nil ?_
    refine Run.condD rfl (fun x3 => ?_) (fun x3 => ?_)
    · refine Run.seq ?_
      refine Run.region ?_
      refine RunL.call cal15 rfl (s15) rfl (fun vx4 Ax4 hx4 => ?_)
      obtain ⟨x5, ⟨rfl, rfl⟩⟩ := hx4
      refine RunL.ok (OpOk.assign rfl) rfl ?_
      refine RunL.nil ?_
      refine Run.ret1 Try.func6 rfl rfl ?_
      exact ⟨rfl, ⟨_, (asg as1)⟩⟩
    refine Run.skip ?_
    refine Run.seq ?_
    refine Run.region ?_
    refine RunL.alloc ti26 rfl (fun bx6 => ?_)
    refine RunL.ent (newT26 _ _) ?_
    refine RunL.nil ?_
    refine Run.seq ?_
    refine Run.seq ?_
    refine Run.region ?_
    refine RunL.ok (OpOk.move rfl) rfl ?_
    refine RunL.call cal17 rfl (s17b rd.left (by assumption) (by simp; omega)) rfl (fun vx8 Ax8 hx8 => ?_)
    obtain ⟨x9, ⟨rfl, rfl⟩⟩ := hx8
    refine RunL.ok (OpOk.as (c := true) (OpOk.neq rfl rfl) (by rw [decide_eq_false (by omega)]; rfl)) rfl ?_
    refine RunL.nil ?_
    refine Run.condT rfl ?_
    refine Run.seq ?_
    refine Run.region ?_
    refine RunL.call cal18 rfl (s18) rfl (fun vx10 Ax10 hx10 => ?_)
    obtain ⟨rfl, rfl⟩ := hx10
    refine RunL.ok (OpOk.eql rfl rfl) rfl ?_
    refine RunL.ok (OpOk.assign rfl) rfl ?_
    refine RunL.nil ?_
    refine Run.ret1 Try.func6 rfl rfl ?_
    exact ⟨rfl, ⟨_, (asg (asg as1))⟩⟩
  refine Run.seq ?_
  refine Run.region ?_
  refine RunL.ok (OpOk.assign rfl) rfl ?_
  refine RunL.nil ?_
  refine Run.seq ?_
  refine Run.seq ?_
  refine Run.region ?_
  refine RunL.call cal15 rfl (s15) rfl (fun vx1 Ax1 hx1 => ?_)
  obtain ⟨x2, ⟨rfl, rfl⟩⟩ := hx1
  refine RunL.ok (OpOk.not rfl) rfl ?_
  refine RunL.ok (OpOk.move rfl) rfl ?_
  refine RunL.on rfl rfl ?_
  refine RunL.ok (OpOk.move rfl) rfl ?_
  refine RunL.on rfl rfl ?_
  refine RunL.ok (OpOk.lenR rfl rfl rd.left rfl) rfl ?_
  refine RunL.on rfl rfl ?_
  refine RunL.ok (OpOk.gtr rfl rfl) rfl ?_
  refine RunL.ok (OpOk.pickF rfl rfl) rfl ?_
  refine RunL.nil ?_
  refine Run.condD rfl (fun x3 => ?_) (fun x3 => ?_)
  · refine Run.seq ?_
    refine Run.region ?_
    refine RunL.call cal15 rfl (s15) rfl (fun vx4 Ax4 hx4 => ?_)
    obtain ⟨x5, ⟨rfl, rfl⟩⟩ := hx4
    refine RunL.ok (OpOk.assign rfl) rfl ?_
    refine RunL.nil ?_
    refine Run.ret1 Try.func6 rfl rfl ?_
    exact ⟨rfl, ⟨_, (asg as1)⟩⟩
  refine Run.skip ?_
  refine Run.seq ?_
  refine Run.region ?_
  refine RunL.alloc ti26 rfl (fun bx6 => ?_)
  refine RunL.ent (newT26 _ _) ?_
  refine RunL.nil ?_
  refine Run.seq ?_
  refine Run.seq ?_
  refine Run.region ?_
  refine RunL.ok (OpOk.move rfl) rfl ?_
  refine RunL.call cal17 rfl (s17a rd.left (by assumption) (by simp; omega)) rfl (fun vx7 Ax7 hx7 => ?_)
  obtain ⟨x8, ⟨rfl, rfl⟩⟩ := hx7
  refine RunL.ok (OpOk.as (c := false) (OpOk.neq rfl rfl) (by rw [decide_eq_true (by omega)]; rfl)) rfl ?_
  refine RunL.nil ?_
  refine Run.condF rfl ?_
  refine Run.skip ?_
  refine Run.seq ?_
  refine Run.region ?_
  refine RunL.ok (OpOk.assign rfl) rfl ?_
  refine RunL.nil ?_
  refine Run.seq ?_
  refine Run.seq ?_
  refine Run.region ?_
  refine RunL.ok (OpOk.assign rfl) rfl ?_
  refine RunL.nil ?_
  refine Run.block ?_
  have hfb := fieldBits_le hall
  simp only [List.nil_append]
  refine Run.ent (Ent.ownNil' _ 3 1 (I []) rfl) ?_
  refine Run.loop (X := Nat × Value × Asn) (fun x => [(5, .int .i64 x.1), (4, x.2.1), (3, .pointer (some ⟨bx6, 0, none⟩)), (0, u)]) (fun x => old w0 * x.2.2 * pts bx6 (.cells #[x8, .int .i64 (((fieldBits fs).length : Nat) : Int)] 26 (0, 0)) * own 5 1 x8 (((fieldBits fs).length + 7) / 8) (B (pack (fieldBits fs) (((fieldBits fs).length + 7) / 8))) * own 3 1 x.2.1 x.1 (I ((fs.take x.1).map Prod.fst))) (fun x => x.1 ≤ fs.length) (fun x => fs.length - x.1) (0, .slice none 0 0, x2) ⟨rfl, rfl, rfl, rfl, trivial⟩ rfl (by simp) (fun x hx ih => ?_)
  obtain ⟨i, v1, J⟩ := x
  simp only at hx ih ⊢
  rcases Nat.lt_or_ge i fs.length with hlt | hge
  · have ht : (fs.take (i + 1)).map Prod.fst = (fs.take i).map Prod.fst ++ [(fs.getD i default).1] := by rw [take_next hlt]; simp
    refine Run.seq ?_
    refine Run.seq ?_
    refine Run.region ?_
    refine RunL.ok (OpOk.move rfl) rfl ?_
    refine RunL.ok (OpOk.move rfl) rfl ?_
    refine RunL.ok (OpOk.lenR rfl rfl rd.left.left.left.left rfl) rfl ?_
    refine RunL.ok (OpOk.asT (OpOk.lss rfl rfl) (by omega)) rfl ?_
    refine RunL.nil ?_
    refine Run.condT rfl ?_
    refine Run.skip ?_
    refine Run.seq ?_
    refine Run.block ?_
    refine Run.region ?_
    refine RunL.ok (OpOk.move rfl) rfl ?_
    refine RunL.ok (OpOk.move rfl) rfl ?_
    refine RunL.ok (OpOk.move rfl) rfl ?_
    refine RunL.ok (OpOk.idxN rfl ti31 rfl rd.left.left.left.left rfl (by omega)) rfl ?_
    refine RunL.ok (OpOk.fieldAddrA fld31_0 rfl) rfl ?_
    refine RunL.ok (OpOk.loadFl1 default rfl rfl rfl rd.left.left.left.left (fun _ => rfl) rfl (by omega) rfl) rfl ?_
    refine RunL.litI (xs := [(fs.getD i default).fst]) rfl ti3 rfl rfl rfl (by decide) rfl (fun vy1 rdy1 => ?_)
    refine RunL.know (fun w s => (s.conv rfl).ownRd0) (fun rdy3 => ?_)
    refine RunL.appendI rfl ti3 rfl rfl rfl (frl rfl) (Rd.right rdy3) (by omega) rfl rfl (fun vy2 rdy2 => ?_)
    refine RunL.ok (OpOk.assign rfl) rfl ?_
    refine RunL.nil ?_
    refine Run.inBlock ?_
    refine Run.region ?_
    refine RunL.ok (OpOk.move rfl) rfl ?_
    refine RunL.ok (OpOk.addN _ 1 rfl rfl rfl rfl (by omega)) rfl ?_
    refine RunL.ok (OpOk.assign rfl) rfl ?_
    refine RunL.nil ?_
    rw [← ht]
    refine Run.jump ((ih (i + 1, vy2, _) (by simp; omega) (by simp; omega))) ⟨rfl, rfl, rfl, rfl, trivial⟩ (Grew.of (Eq.trans (frc rfl (frc (frl rfl) (frc (frl rfl) rfl))) (congrArg (· * _) (congrArg (· * _) (congrArg (· * _) (asg as1))))) (Grew.refl _))
  · obtain rfl : i = fs.length := by omega
    rw [List.take_length]
    clear ih
    have hpl := pack_length (fieldBits fs) (((fieldBits fs).length + 7) / 8)
    obtain ⟨hE, hL, hA⟩ := take_all (q := []) (k := ((fieldBits fs).length + 7) / 8) hall (by omega)
    rw [List.append_nil] at hE hL hA
    have hLl : (takeL (pack (fieldBits fs) (((fieldBits fs).length + 7) / 8)) 0 0 (fs.map Prod.fst)).length = fs.length := by rw [hL]; simp
    refine Run.seq ?_
    refine Run.seq ?_
    refine Run.region ?_
    refine RunL.ok (OpOk.move rfl) rfl ?_
    refine RunL.ok (OpOk.move rfl) rfl ?_
    refine RunL.ok (OpOk.lenR rfl rfl rd.left.left.left.left rfl) rfl ?_
    refine RunL.ok (OpOk.asF (OpOk.lss rfl rfl) (by omega)) rfl ?_
    refine RunL.nil ?_
    refine Run.condF rfl ?_
    refine Run.exit rfl ?_
    refine Run.seq ?_
    refine Run.region ?_
    refine RunL.mem (frc (frl rfl) (frc (frl rfl) rfl)) ?_
    refine RunL.call cal19 rfl (s19 (by omega)) rfl (fun vy1 Ay1 hy1 => ?_)
    obtain rfl := hy1
    refine RunL.know (fun w s => (s.conv rfl).ownRd0) (fun rdy2 => ?_)
    refine RunL.call cal21 rfl (s21 (Rd.right rdy2) (by omega)) rfl (fun vy3 Ay3 hy3 => ?_)
    obtain ⟨y4, ⟨y5, ⟨rfl, rfl⟩⟩⟩ := hy3
    refine RunL.mem (frc (frl (frl (frl rfl))) (frc (frl (frl (frl rfl))) rfl)) ?_
    refine RunL.call cal19 rfl (s19 (by omega)) rfl (fun vy6 Ay6 hy6 => ?_)
    obtain rfl := hy6
    refine RunL.know (fun w s => (s.conv rfl).ownRd0) (fun rdy7 => ?_)
    refine RunL.call cal21 rfl (s21 (Rd.right rdy7) (by omega)) rfl (fun vy8 Ay8 hy8 => ?_)
    obtain ⟨y9, ⟨y10, ⟨rfl, rfl⟩⟩⟩ := hy8
    refine RunL.ok (OpOk.assign rfl) rfl ?_
    refine RunL.ok (OpOk.assign rfl) rfl ?_
    refine RunL.nil ?_
    refine Run.seq ?_
    refine Run.seq ?_
    refine Run.region ?_
    refine RunL.ok (OpOk.move rfl) rfl ?_
    refine RunL.ok (OpOk.eqlPN rfl rfl) rfl ?_
    refine RunL.ok (OpOk.move rfl) rfl ?_
    refine RunL.on rfl rfl ?_
    refine RunL.ok (OpOk.move rfl) rfl ?_
    refine RunL.on rfl rfl ?_
    refine RunL.ok (OpOk.eqlPN rfl rfl) rfl ?_
    refine RunL.ok (OpOk.pickF rfl rfl) rfl ?_
    refine RunL.nil ?_
    refine Run.condF rfl ?_
    refine Run.skip ?_
    refine Run.seq ?_
    refine Run.region ?_
    refine RunL.ok (OpOk.move rfl) rfl ?_
    refine RunL.ok (OpOk.move rfl) rfl ?_
    refine RunL.know (fun w s => (s.conv (frl (frl (frl (frl (frl (frl (frl (frl rfl))))))))).ownRd0) (fun rdy11 => ?_)
    refine RunL.mem (frc (frl (frl (frl (frl (frl rfl))))) (frc (frl (frl (frl (frl (frl rfl))))) rfl)) ?_
    refine RunL.call cal23 rfl (s23 (Rd.right rdy11).left.left.left.left.left.left (by omega) (by omega) (by omega)) rfl (fun vy12 Ay12 hy12 => ?_)
    obtain rfl := hy12
    refine RunL.ok (OpOk.assign rfl) rfl ?_
    refine RunL.nil ?_
    refine Run.seq ?_
    refine Run.seq ?_
    refine Run.region ?_
    refine RunL.ok (OpOk.move rfl) rfl ?_
    refine RunL.know (fun w s => (s.conv rfl).ownRd0) (fun rdy13 => ?_)
    refine RunL.ok (OpOk.lenR rfl rfl (Rd.right rdy13) rfl) rfl ?_
    refine RunL.ok (OpOk.move rfl) rfl ?_
    refine RunL.ok (OpOk.lenR rfl rfl rd.left.left.left.left.left.left.left.left.left.left.left rfl) rfl ?_
    refine RunL.ok (OpOk.as (c := false) (OpOk.neq rfl rfl) (by rw [decide_eq_true (by omega)]; rfl)) rfl ?_
    refine RunL.ok (OpOk.move rfl) rfl ?_
    refine RunL.on rfl rfl ?_
    refine RunL.ok (OpOk.move rfl) rfl ?_
    refine RunL.on rfl rfl ?_
    refine RunL.mem (frc (frl rfl) (frc (frl rfl) rfl)) ?_
    refine RunL.call cal25 rfl (s25) rfl (fun vy14 Ay14 hy14 => ?_)
    obtain ⟨rfl, rfl⟩ := hy14
    refine RunL.on rfl rfl ?_
    refine RunL.ok (OpOk.as (c := false) (OpOk.neq rfl rfl) (by rw [decide_eq_true (by omega)]; rfl)) rfl ?_
    refine RunL.ok (OpOk.pickF rfl rfl) rfl ?_
    refine RunL.ok (OpOk.move rfl) rfl ?_
    refine RunL.on rfl rfl ?_
    refine RunL.ok (OpOk.move rfl) rfl ?_
    refine RunL.on rfl rfl ?_
    refine RunL.call cal26 rfl (s26 (by omega) (by omega)) rfl (fun vy15 Ay15 hy15 => ?_)
    obtain ⟨rfl, rfl⟩ := hy15
    refine RunL.on rfl rfl ?_
    refine RunL.ok (OpOk.asF (OpOk.geq rfl rfl) (by omega)) rfl ?_
    refine RunL.ok (OpOk.pickF rfl rfl) rfl ?_
    refine RunL.nil ?_
    refine Run.condF rfl ?_
    refine Run.skip ?_
    refine Run.seq ?_
    refine Run.seq ?_
    refine Run.region ?_
    refine RunL.ok (OpOk.assign rfl) rfl ?_
    refine RunL.nil ?_
    refine Run.block ?_
    rw [hE, hL, hA]
    generalize hxs : pack (fieldBits fs) (((fieldBits fs).length + 7) / 8) = xs at *
    refine Run.jump ((Run.loopJ (X := Nat × Asn) (fun x => [(9, .int .i64 x.1), (8, vy12), (7, .pointer (some ⟨y9, 0, none⟩)), (6, .pointer (some ⟨y4, 0, none⟩)), (4, v1), (0, u)]) (fun x => old w0 * x.2 * own 3 1 v1 fs.length (I (fs.map Prod.fst)) * own 3 1 vy12 (fs.map Prod.snd).length (I (fs.map Prod.snd)) * pts y4 (.cells #[y5, .int .i64 (((fieldBits fs).length : Nat) : Int), .int .i64 (0)] 81 (0, 0)) * own 5 1 y5 (xs).length (B (xs)) * pts y9 (.cells #[y10, .int .i64 (((fieldBits (fs.take x.1)).length : Nat) : Int), .int .i64 (0)] 81 (0, 0)) * own 5 1 y10 (xs).length (B (xs))) (fun x => x.1 ≤ fs.length) (fun x => fs.length - x.1) (0, J) (Nat.zero_le _) (fun x hx ih => ?_))) ⟨rfl, rfl, rfl, rfl, rfl, rfl, trivial⟩ (Grew.of (frc (frl (frl (frl (frl (frl rfl))))) (frc (frl (frl (frl (frl (frl rfl))))) (frc (frl (frl (frl (frl (frl rfl))))) (frc (frl (frl (frl (frl (frl rfl))))) (frc (frl (frl (frl rfl))) (frc (frl (frl (frl rfl))) rfl)))))) (Grew.mul (Grew.mul (Grew.mul (Grew.mul (Grew.refl _) _) _) _) _))
    obtain ⟨i, J⟩ := x
    simp only at hx ih ⊢
    have hm3 : (fs.map Prod.snd).length = fs.length := List.length_map ..
    have hle : (fieldBits (fs.take i)).length ≤ (fieldBits fs).length := by
      have h := congrArg List.length (fieldBits_append (fs.take i) (fs.drop i))
      rw [List.take_append_drop, List.length_append] at h
      omega
    rcases Nat.lt_or_ge i fs.length with hlt | hge
    · obtain ⟨h1, h2, h3⟩ := take_one (q := []) hall hlt (k := ((fieldBits fs).length + 7) / 8) (by omega)
      rw [List.append_nil, hxs] at h1 h2 h3
      have hm1 : (fs.map Prod.fst).getD i default = (fs.getD i default).1 := by simp [List.getD_eq_getElem?_getD, hlt]
      have hm2 : (fs.map Prod.snd).getD i default = (fs.getD i default).2 := by simp [List.getD_eq_getElem?_getD, hlt]
      have h4 : (takeL xs (fieldBits (fs.take i)).length 0 [(fs.getD i default).1]).length = 1 := by rw [h2]; rfl
      have h5 : (takeL xs (fieldBits (fs.take i)).length 0 [(fs.getD i default).1]).getD (Int.toNat 0) 0 = (fs.getD i default).2 := by rw [h2]; rfl
      refine Run.seq ?_
      refine Run.seq ?_
      refine Run.region ?_
      refine RunL.ok (OpOk.move rfl) rfl ?_
      refine RunL.ok (OpOk.move rfl) rfl ?_
      refine RunL.ok (OpOk.lenR rfl rfl rd.left.left.left.left.left.left.left rfl) rfl ?_
      refine RunL.ok (OpOk.asT (OpOk.lss rfl rfl) (by omega)) rfl ?_
      refine RunL.nil ?_
      refine Run.condT rfl ?_
      refine Run.skip ?_
      refine Run.seq ?_
      refine Run.block ?_
      refine Run.seq ?_
      refine Run.region ?_
      refine RunL.ok (OpOk.move rfl) rfl ?_
      refine RunL.ok (OpOk.move rfl) rfl ?_
      refine RunL.ok (OpOk.move rfl) rfl ?_
      refine RunL.ok (OpOk.idx1N rfl ti3 rfl (Rd.right rdy11).left.left.left.left.left rfl (by omega)) rfl ?_
      refine RunL.ok (OpOk.load rfl rfl rfl (Rd.getIE (by assumption) (Rd.right rdy11).left.left.left.left.left (by omega))) rfl ?_
      refine RunL.litI (xs := [(fs.getD i default).fst]) rfl ti3 rfl rfl rfl (by decide) rfl (fun vz1 rdz1 => ?_)
      refine RunL.know (fun w s => (s.conv rfl).ownRd0) (fun rdz2 => ?_)
      refine RunL.mem (frc (frl rfl) (frc (frl rfl) rfl)) ?_
      refine RunL.call cal23 rfl (s23 (Rd.right rdz2) (by omega) (by omega) (by omega)) rfl (fun vz3 Az3 hz3 => ?_)
      obtain rfl := hz3
      refine RunL.ok (OpOk.assign rfl) rfl ?_
      refine RunL.nil ?_
      refine Run.seq ?_
      refine Run.know (fun w s => (s.conv (frl (frl (frl (frl (frl (frl rfl))))))).ownRd0) (fun rdz4 => ?_)
      refine Run.know (fun w s => (s.conv (frl (frl (frl (frl rfl))))).ownRd0) (fun rdz5 => ?_)
      refine Run.know (fun w s => (s.conv (frl rfl)).ownRd0) (fun rdz6 => ?_)
      refine Run.know (fun w s => (s.conv rfl).ownRd0) (fun rdz7 => ?_)
      (apply Run.drawD [] (by rfl) (sep_emp _).symm; case hchk => kernel_rfl)
      refine Sd.quiet 0 _ _ rfl rfl rfl rfl rfl (QOp.ok (fun X => OpOk.move rfl)) ?_
      refine Sd.quiet 1 _ _ rfl rfl rfl rfl rfl (QOp.ok (fun X => OpOk.move rfl)) ?_
      refine Sd.quiet 2 _ _ rfl rfl rfl rfl rfl (QOp.ok (fun X => OpOk.idx1N rfl ti3 rfl (Rd.right rdz4).left.left.left.left.left.left.left.left rfl (by omega))) ?_
      refine Sd.quiet 3 _ _ rfl rfl rfl rfl rfl (QOp.ok (fun X => OpOk.load rfl rfl rfl (Rd.getIE (by assumption) (Rd.right rdz4).left.left.left.left.left.left.left.left (by omega)))) ?_
      refine Sd.quiet 4 _ _ rfl rfl rfl rfl rfl (QOp.ok (fun X => OpOk.move rfl)) ?_
      refine Sd.quiet 5 _ _ rfl rfl rfl rfl rfl (QOp.ok (fun X => OpOk.move rfl)) ?_
      refine Sd.quiet 6 _ _ rfl rfl rfl rfl rfl (QOp.ok (fun X => OpOk.idxN rfl ti31 rfl rd.left.left.left.left.left.left.left.left.left.left.left rfl (by omega))) ?_
      refine Sd.quiet 7 _ _ rfl rfl rfl rfl rfl (QOp.ok (fun X => OpOk.fieldAddrA fld31_1 rfl)) ?_
      refine Sd.quiet 8 _ _ rfl rfl rfl rfl rfl (QOp.ok (fun X => OpOk.loadFl1 default rfl rfl rfl rd.left.left.left.left.left.left.left.left.left.left.left (fun _ => rfl) rfl (by omega) rfl)) ?_
      refine Sd.quiet 9 _ _ rfl rfl rfl rfl rfl (QOp.ok (fun X => OpOk.as (c := false) (OpOk.neq rfl rfl) (by rw [decide_eq_true (by omega)]; rfl))) ?_
      refine Sd.quiet 10 _ _ rfl rfl rfl rfl rfl (QOp.ok (fun X => OpOk.move rfl)) ?_
      refine Sd.quiet 11 _ _ rfl rfl rfl rfl rfl (QOp.ok (fun X => OpOk.move rfl)) ?_
      refine Sd.quiet 12 _ _ rfl rfl rfl rfl rfl (QOp.ok (fun X => OpOk.lenR rfl rfl (Rd.right rdz7).left.left rfl)) ?_
      refine Sd.quiet 13 _ _ rfl rfl rfl rfl rfl (QOp.ok (fun X => OpOk.as (c := false) (OpOk.neq rfl rfl) (by rw [decide_eq_true (by omega)]; rfl))) ?_
      refine Sd.quiet 14 _ _ rfl rfl rfl rfl rfl (QOp.ok (fun X => OpOk.pickF rfl rfl)) ?_
      refine Sd.quiet 15 _ _ rfl rfl rfl rfl rfl (QOp.ok (fun X => OpOk.move rfl)) ?_
      refine Sd.quiet 16 _ _ rfl rfl rfl rfl rfl (QOp.ok (fun X => OpOk.move rfl)) ?_
      refine Sd.quiet 17 _ _ rfl rfl rfl rfl rfl (QOp.ok (fun X => OpOk.idx1 rfl ti3 rfl (Rd.right rdz7).left.left rfl (by omega) (by omega))) ?_
      refine Sd.quiet 18 _ _ rfl rfl rfl rfl rfl (QOp.ok (fun X => OpOk.load rfl rfl rfl (Rd.getIE (by assumption) (Rd.right rdz7).left.left (by omega)))) ?_
      refine Sd.quiet 19 _ _ rfl rfl rfl rfl rfl (QOp.ok (fun X => OpOk.move rfl)) ?_
      refine Sd.quiet 20 _ _ rfl rfl rfl rfl rfl (QOp.ok (fun X => OpOk.move rfl)) ?_
      refine Sd.quiet 21 _ _ rfl rfl rfl rfl rfl (QOp.ok (fun X => OpOk.idx1N rfl ti3 rfl (Rd.right rdz4).left.left.left.left.left.left.left.left rfl (by omega))) ?_
      refine Sd.quiet 22 _ _ rfl rfl rfl rfl rfl (QOp.ok (fun X => OpOk.load rfl rfl rfl (Rd.getIE (by assumption) (Rd.right rdz4).left.left.left.left.left.left.left.left (by omega)))) ?_
      refine Sd.quiet 23 _ _ rfl rfl rfl rfl rfl (QOp.ok (fun X => OpOk.as (c := false) (OpOk.neq rfl rfl) (by rw [decide_eq_true (by omega)]; rfl))) ?_
      refine Sd.quiet 24 _ _ rfl rfl rfl rfl rfl (QOp.ok (fun X => OpOk.pickF rfl rfl)) ?_
      (apply Sd.tail; case hall => kernel_rfl)
      refine RunL.mem (fl2 (sep_emp _) (sep_emp _)) ?_
      refine RunL.nil ?_
      refine Run.condF rfl ?_
      refine Run.skip ?_
      refine Run.inBlock ?_
      refine Run.region ?_
      refine RunL.ok (OpOk.move rfl) rfl ?_
      refine RunL.ok (OpOk.addN _ 1 rfl rfl rfl rfl (by omega)) rfl ?_
      refine RunL.ok (OpOk.assign rfl) rfl ?_
      refine RunL.nil ?_
      rw [h1, h3]
      refine Run.jump ((ih (i + 1, J) (by simp; omega) (by simp; omega))) ⟨rfl, rfl, rfl, rfl, rfl, rfl, trivial⟩ (Grew.of (frc rfl (frc (frl (frl rfl)) rfl)) (Grew.mul (Grew.mul (Grew.refl _) _) _))
    · obtain rfl : i = fs.length := by omega
      rw [List.take_length]
      clear ih
      refine Run.seq ?_
      refine Run.seq ?_
      refine Run.region ?_
      refine RunL.ok (OpOk.move rfl) rfl ?_
      refine RunL.ok (OpOk.move rfl) rfl ?_
      refine RunL.ok (OpOk.lenR rfl rfl rd.left.left.left.left.left.left.left rfl) rfl ?_
      refine RunL.ok (OpOk.asF (OpOk.lss rfl rfl) (by omega)) rfl ?_
      refine RunL.nil ?_
      refine Run.condF rfl ?_
      refine Run.exit rfl ?_
      refine Run.seq ?_
      refine Run.region ?_
      refine RunL.ok (OpOk.move rfl) rfl ?_
      refine RunL.call cal26 rfl (s26 (by omega) (by omega)) rfl (fun vz1 Az1 hz1 => ?_)
      obtain ⟨rfl, rfl⟩ := hz1
      refine RunL.ok (OpOk.move rfl) rfl ?_
      refine RunL.mem (frc (frl (frl rfl)) (frc (frl (frl rfl)) rfl)) ?_
      refine RunL.call cal26 rfl (s26 (by omega) (by omega)) rfl (fun vz2 Az2 hz2 => ?_)
      obtain ⟨rfl, rfl⟩ := hz2
      refine RunL.ok (OpOk.asT (OpOk.eql rfl rfl) (by omega)) rfl ?_
      refine RunL.ok (OpOk.assign rfl) rfl ?_
      refine RunL.nil ?_
      refine Run.ret1 Try.func6 rfl rfl ?_
      exact ⟨rfl, ⟨_, (asg (asg (asg (asg (asg (asg as1))))))⟩⟩
end Go.Proofs.Ytlheianbmpgefaa
