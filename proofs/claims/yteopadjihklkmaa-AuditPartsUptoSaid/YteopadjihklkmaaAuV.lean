/- The law's examples. -/
import Derived.Test.YteopadjihklkmaaAuU
namespace Go.Proofs.Yteopadjihklkmaa
open Go Go.Proofs
set_option maxRecDepth 100000
set_option maxHeartbeats 4000000
set_option linter.unusedSimpArgs false
theorem Spec.know {P : Program} {w0 : World} {f : FuncId} {args : List Value} {A : Asn} {R : Value → Asn → Prop} {p : Prop} (e : ∀ w, Sat w0 w A → p) (h : p → Spec P w0 f args A R) : Spec P w0 f args A R := ⟨fun w hs => (h (e w hs)).out w hs⟩
section
variable {w0 : World} {A : Asn}
theorem s64 : Spec Try.prog w0 64 [] A (fun v' A' => ∃ (sv : SV) (J : Asn), v' = .agg (encT126 (1, 1, sv, [(2, -10), (1, 10)])).toArray ∧ A' = A * J * own 132 2 sv.1 2 (Fl encT132 [(2, -10), (1, 10)])) := by
  refine Spec.of_run [] Try.func64 rfl (Nat.le_of_ble_eq_true rfl) (by repeat (first | exact trivial | refine ⟨rfl, ?_⟩)) ?_
  refine Run.seq ?_
  refine Run.region ?_
  refine RunL.alloc ti126 rfl (fun bx1 => ?_)
  refine RunL.nil ?_
  refine Run.seq ?_
  refine Run.region ?_
  refine RunL.ok (OpOk.build (cells := #[.int (IntKind.i64) (2), .int (IntKind.i64) (-10)]) rfl (fun w => run_build w 132 _ _ (by rfl))) rfl ?_
  refine RunL.ok (OpOk.build (cells := #[.int (IntKind.i64) (1), .int (IntKind.i64) (10)]) rfl (fun w => run_build w 132 _ _ (by rfl))) rfl ?_
  refine RunL.litFl (enc := encT132) [(2, -10), (1, 10)] rfl ti132 rfl (fun _ => rfl) rfl rfl (by decide) (by decide) rfl (fun vx2 rdx2 => ?_)
  refine RunL.know (fun w s => (s.conv rfl).ownRd0) (fun rdx3 => ?_)
  obtain ⟨adx4, capx4, rfl, hcapx4, hadx4⟩ := (rdx3).form
  refine RunL.ok (OpOk.build (cells := #[.int (IntKind.i64) (1), .int (IntKind.i64) (1), .slice (adx4) (2) (capx4)]) rfl (fun w => run_build w 126 _ _ (by rfl))) rfl ?_
  refine RunL.storeAll ti126 rfl rfl rfl (ones rfl) (frl rfl) rfl ?_
  refine RunL.nil ?_
  refine Run.retC (A' := _) Try.func64 rfl rfl rfl ti126 rfl Blk.pts rfl (Grew.refl _) ?_
  refine ⟨⟨.slice adx4 2 capx4, rfl⟩, pts bx1 (.cells (Value.agg #[.int .i64 1, .int .i64 1, .slice adx4 2 capx4]).cells 126 (0, 0)), rfl, ?_⟩
  ac_rfl
theorem firstA {u1 u2 : Value} {b : Nat} {p q : Po} (rd : Rd w0 A u1 3 2 (Fl encT126 [p, q])) (rd2 : Rd w0 A u2 1 1 [.iface 185 (.agg #[.map (some b)])]) (hk : (p.1, p.2.1) = (q.1, q.2.1)) :
    Spec Try.prog w0 15 [u1, u2] (A * own 132 2 p.2.2.1.1 p.2.2.2.length (Fl encT132 p.2.2.2) * own 132 2 q.2.2.1.1 q.2.2.2.length (Fl encT132 q.2.2.2) * setA b []) (fun v' A' => ∃ J, v' = .int .i64 1 ∧ A' = A * J) := by
  refine Spec.know (fun w s => s.weak.ownRd0) (fun g2 => ?_)
  refine Spec.know (fun w s => s.weak.weak.ownRd0) (fun g1 => ?_)
  refine (first_gen (ps := [p, q]) (ls := [.iface 185 (.agg #[.map (some b)])]) (fun ks => setA b ks) (fun _ p ks => (!decide ((p.1, p.2.1) ∈ ks), ks ++ [(p.1, p.2.1)])) (fun _ ks => (true, ks)) [] rd.left.left (Alls.cons (Rd.left (Rd.right g1)) (Alls.cons (Rd.right g2) Alls.nil)) rd2.left.left (fun k p ks X hk hp hg => ?_) (fun k ks X hk => ?_)).mono ?_
  · obtain rfl : k = 0 := by simp at hk; omega
    exact ⟨138, 185, .agg #[.map (some b)], .agg #[.map (some b)], rfl, fun w => by kernel_rfl, s138.mono fun v' A' ⟨J, h1, h2⟩ => ⟨h1, J, h2⟩⟩
  · obtain rfl : k = 0 := by simp at hk; omega
    exact ⟨137, 185, .agg #[.map (some b)], .agg #[], rfl, fun w => by kernel_rfl, s137.mono fun v' A' ⟨J, h1, h2⟩ => ⟨h1, J, by rw [h2]; ac_rfl⟩⟩
  · rintro v' A' ⟨rfl, J, rfl⟩
    refine ⟨_, ?_, by rw [sep_assoc, sep_assoc, sep_assoc]⟩
    simp [firstF, psFrom, tellFrom, hk]
theorem firstB {u1 u2 : Value} {p : Po} (rd : Rd w0 A u1 3 1 (Fl encT126 [p])) (rd2 : Rd w0 A u2 1 1 [.iface 187 (.agg #[])]) (hs : sumO 0 (p.2.2.2.map Prod.snd) = some 0) (hin : ∀ s ∈ p.2.2.2, inI s.2) (hlim : p.2.2.2.length ≤ 8796093022208) :
    Spec Try.prog w0 15 [u1, u2] (A * own 132 2 p.2.2.1.1 p.2.2.2.length (Fl encT132 p.2.2.2)) (fun v' A' => ∃ J, v' = .int .i64 (-1) ∧ A' = A * J) := by
  refine Spec.know (fun w s => s.ownRd0) (fun g1 => ?_)
  refine Spec.mem (A' := A * own 132 2 p.2.2.1.1 p.2.2.2.length (Fl encT132 p.2.2.2) * emp) (sep_emp _).symm ?_
  refine (first_gen (σ := Unit) (ps := [p]) (ls := [.iface 187 (.agg #[])]) (fun _ => emp) (fun _ p _ => (decide (sumO 0 (p.2.2.2.map Prod.snd) = some 0), ())) (fun _ _ => (true, ())) () rd.left (Alls.cons (Rd.right g1) Alls.nil) rd2.left (fun k q ks X hk hp hg => ?_) (fun k ks X hk => ?_)).mono ?_
  · obtain rfl : k = 0 := by simp at hk; omega
    obtain rfl : q = p := by simpa using hp
    exact ⟨139, 187, .agg #[], .agg #[], rfl, fun w => by kernel_rfl, (s139 (Rd.left hg) hin hlim).mono fun v' A' ⟨J, h1, h2⟩ => ⟨h1, J, by rw [h2]; ac_rfl⟩⟩
  · obtain rfl : k = 0 := by simp at hk; omega
    exact ⟨137, 187, .agg #[], .agg #[], rfl, fun w => by kernel_rfl, s137.mono fun v' A' ⟨J, h1, h2⟩ => ⟨h1, J, by rw [h2]; ac_rfl⟩⟩
  · rintro v' A' ⟨rfl, J, rfl⟩
    refine ⟨_, ?_, by rw [sep_assoc, sep_assoc]⟩
    simp [firstF, psFrom, tellFrom, finFrom, hs]
theorem firstC {u1 u2 : Value} {b : Nat} {p : Po} (rd : Rd w0 A u1 3 1 (Fl encT126 [p])) (rd2 : Rd w0 A u2 1 1 [.iface 190 (.agg #[.map (some b)])]) :
    Spec Try.prog w0 15 [u1, u2] (A * own 132 2 p.2.2.1.1 p.2.2.2.length (Fl encT132 p.2.2.2) * mapA k2 vvT188 b ([] : List ((Int × Int) × Jn))) (fun v' A' => ∃ J, v' = .int .i64 0 ∧ A' = A * J) := by
  refine Spec.know (fun w s => s.weak.ownRd0) (fun g1 => ?_)
  refine (first_gen (σ := Unit) (ps := [p]) (ls := [.iface 190 (.agg #[.map (some b)])]) (fun _ => mapA k2 vvT188 b ([] : List ((Int × Int) × Jn))) (fun _ _ _ => (false, ())) (fun _ _ => (true, ())) () rd.left (Alls.cons (Rd.right g1) Alls.nil) rd2.left (fun k q ks X hk hp hg => ?_) (fun k ks X hk => ?_)).mono ?_
  · obtain rfl : k = 0 := by simp at hk; omega
    exact ⟨141, 190, .agg #[.map (some b)], .agg #[.map (some b)], rfl, fun w => by kernel_rfl, s141.mono fun v' A' ⟨J, h1, h2⟩ => ⟨h1, J, h2⟩⟩
  · obtain rfl : k = 0 := by simp at hk; omega
    exact ⟨137, 190, .agg #[.map (some b)], .agg #[], rfl, fun w => by kernel_rfl, s137.mono fun v' A' ⟨J, h1, h2⟩ => ⟨h1, J, by rw [h2]; ac_rfl⟩⟩
  · rintro v' A' ⟨rfl, J, rfl⟩
    refine ⟨_, ?_, by rw [sep_assoc, sep_assoc]⟩
    simp [firstF, psFrom, tellFrom]
theorem s15a {u1 u2 : Value} {b : Nat} {sv sv2 : SV} (rd : Rd w0 A u1 3 2 (Fl encT126 [(1, 1, sv, [(2, -10), (1, 10)]), (1, 1, sv2, [(2, -10), (1, 10)])])) (rd2 : Rd w0 A u2 1 1 [.iface 185 (.agg #[.map (some b)])]) :
    Spec Try.prog w0 15 [u1, u2] (A * own 132 2 sv.1 2 (Fl encT132 [(2, -10), (1, 10)]) * own 132 2 sv2.1 2 (Fl encT132 [(2, -10), (1, 10)]) * setA b []) (fun v' A' => ∃ J, v' = .int .i64 1 ∧ A' = A * J) :=
  firstA (p := (1, 1, sv, [(2, -10), (1, 10)])) (q := (1, 1, sv2, [(2, -10), (1, 10)])) rd rd2 rfl
theorem s15b {u1 u2 : Value} {sv : SV} (rd : Rd w0 A u1 3 1 (Fl encT126 [(1, 1, sv, [(2, -10), (1, 10)])])) (rd2 : Rd w0 A u2 1 1 [.iface 187 (.agg #[])]) :
    Spec Try.prog w0 15 [u1, u2] (A * own 132 2 sv.1 2 (Fl encT132 [(2, -10), (1, 10)])) (fun v' A' => ∃ J, v' = .int .i64 (-1) ∧ A' = A * J) :=
  firstB (p := (1, 1, sv, [(2, -10), (1, 10)])) rd rd2 (by show sumO 0 [-10, 10] = some 0; decide) (fun s hs => by
    have hs : s ∈ [((2 : Int), (-10 : Int)), (1, 10)] := hs
    simp only [List.mem_cons, List.not_mem_nil, or_false] at hs
    rcases hs with rfl | rfl <;> exact ⟨by decide, by decide⟩) (by show (2 : Nat) ≤ 8796093022208; decide)
theorem s15c {u1 u2 : Value} {b : Nat} {sv : SV} (rd : Rd w0 A u1 3 1 (Fl encT126 [(1, 1, sv, [(2, -10), (1, 10)])])) (rd2 : Rd w0 A u2 1 1 [.iface 190 (.agg #[.map (some b)])]) :
    Spec Try.prog w0 15 [u1, u2] (A * own 132 2 sv.1 2 (Fl encT132 [(2, -10), (1, 10)]) * mapA k2 vvT188 b ([] : List ((Int × Int) × Jn))) (fun v' A' => ∃ J, v' = .int .i64 0 ∧ A' = A * J) :=
  firstC (p := (1, 1, sv, [(2, -10), (1, 10)])) rd rd2
theorem s15d {u2 : Value} {b : Nat} (rd2 : Rd w0 A u2 1 1 [.iface 193 (.agg #[.map (some b)])]) :
    Spec Try.prog w0 15 [.slice none 0 0, u2] (A * wholeA b) (fun v' A' => ∃ J, v' = .int .i64 (-1) ∧ A' = A * J) := by
  unfold wholeA
  refine (first_gen (σ := Unit) (ps := []) (ls := [.iface 193 (.agg #[.map (some b)])]) (fun _ => setA b []) (fun _ _ _ => (false, ())) (fun _ _ => (true, ())) () (Rd.nil _) Alls.nil rd2 (fun k q ks X hk hp hg => by cases hp) (fun k ks X hk => ?_)).mono ?_
  · obtain rfl : k = 0 := by simp at hk; omega
    exact ⟨142, 193, .agg #[.map (some b)], .agg #[.map (some b)], rfl, fun w => by kernel_rfl, s142.mono fun v' A' ⟨J, h1, h2⟩ => ⟨h1, J, h2⟩⟩
  · rintro v' A' ⟨rfl, J, rfl⟩
    refine ⟨_, ?_, sep_assoc _ _ _⟩
    simp [firstF, psFrom, finFrom]
theorem s17a {u : Value} {sv : SV} (rd : Rd w0 A u 3 1 (Fl encT126 [(1, 1, sv, [(2, -10), (1, 10)])])) :
    Spec Try.prog w0 17 [.int .i64 2, u] (A * own 132 2 sv.1 2 (Fl encT132 [(2, -10), (1, 10)])) (fun v' A' => ∃ v J, v' = .tuple #[v, .int .i64 0] ∧ A' = A * J * own 3 1 v 2 (I [10, -10])) := by
  refine Spec.know (fun w s => s.ownRd0) (fun rds => ?_)
  refine (s17 (n := 2) rd.left (Alls.cons (Rd.right rds) Alls.nil) (fun q hq s hs => ?_) (by show (2 : Nat) ≤ 1048576; decide)).mono ?_
  · simp only [List.mem_singleton] at hq
    subst hq
    simp only [List.mem_cons, List.not_mem_nil, or_false] at hs
    rcases hs with rfl | rfl <;> exact ⟨by decide, by decide⟩
  · rintro v' A' ⟨v, J, rfl, rfl⟩
    have e : totF 2 (shs [(1, 1, sv, [(2, -10), (1, 10)])]) = (0, [10, -10]) := by
      show totF 2 [(2, -10), (1, 10)] = _
      decide
    rw [e]
    exact ⟨v, own 132 2 sv.1 2 (Fl encT132 [(2, -10), (1, 10)]) * J, rfl, by rw [← sep_assoc]; rfl⟩
theorem s14 : Spec Try.prog w0 14 [] A (fun v' A' => ∃ J, v' = .bool true ∧ A' = A * J) := by
  refine Spec.of_run [] Try.func14 rfl (Nat.le_of_ble_eq_true rfl) (by repeat (first | exact trivial | refine ⟨rfl, ?_⟩)) ?_
  refine Run.seq ?_
  refine Run.region ?_
  refine RunL.ok (OpOk.assign rfl) rfl ?_
  refine RunL.nil ?_
  refine Run.seq ?_
  refine Run.region ?_
  refine RunL.call cal60 rfl (s60) rfl (fun vx1 Ax1 hx1 => ?_)
  obtain ⟨x2, ⟨rfl, rfl⟩⟩ := hx1
  refine RunL.call cal61 rfl (s61) rfl (fun vx3 Ax3 hx3 => ?_)
  obtain ⟨rfl, rfl⟩ := hx3
  refine RunL.call cal62 rfl (s62) rfl (fun vx4 Ax4 hx4 => ?_)
  obtain ⟨x5, ⟨x6, ⟨rfl, rfl⟩⟩⟩ := hx4
  refine RunL.call cal63 rfl (s63) rfl (fun vx7 Ax7 hx7 => ?_)
  obtain ⟨x8, ⟨x9, ⟨rfl, rfl⟩⟩⟩ := hx7
  refine RunL.ok (OpOk.assign rfl) rfl ?_
  refine RunL.ok (OpOk.assign rfl) rfl ?_
  refine RunL.ok (OpOk.assign rfl) rfl ?_
  refine RunL.ok (OpOk.assign rfl) rfl ?_
  refine RunL.nil ?_
  refine Run.seq ?_
  refine Run.seq ?_
  refine Run.region ?_
  refine RunL.ok (OpOk.move rfl) rfl ?_
  refine RunL.ok (OpOk.eqNil (by rfl) rfl) rfl ?_
  refine RunL.ok (OpOk.move rfl) rfl ?_
  refine RunL.on rfl rfl ?_
  refine RunL.ok (OpOk.move rfl) rfl ?_
  refine RunL.on rfl rfl ?_
  refine RunL.ok (OpOk.eqNil (by rfl) rfl) rfl ?_
  refine RunL.ok (OpOk.pickF rfl rfl) rfl ?_
  refine RunL.ok (OpOk.move rfl) rfl ?_
  refine RunL.on rfl rfl ?_
  refine RunL.ok (OpOk.move rfl) rfl ?_
  refine RunL.on rfl rfl ?_
  refine RunL.ok (OpOk.eqNil (by rfl) rfl) rfl ?_
  refine RunL.ok (OpOk.pickF rfl rfl) rfl ?_
  refine RunL.ok (OpOk.move rfl) rfl ?_
  refine RunL.on rfl rfl ?_
  refine RunL.ok (OpOk.move rfl) rfl ?_
  refine RunL.on rfl rfl ?_
  refine RunL.ok (OpOk.eqNil (by rfl) rfl) rfl ?_
  refine RunL.ok (OpOk.pickF rfl rfl) rfl ?_
  refine RunL.nil ?_
  refine Run.condF rfl ?_
  refine Run.skip ?_
  refine Run.seq ?_
  refine Run.region ?_
  refine RunL.call cal64 rfl (s64) rfl (fun vx10 Ax10 hx10 => ?_)
  obtain ⟨x11, ⟨x12, ⟨rfl, rfl⟩⟩⟩ := hx10
  refine RunL.litFl (enc := encT126) [(1, 1, x11, [(2, -10), (1, 10)])] rfl ti126 rfl (fun _ => rfl) rfl rfl (by decide) (by decide) rfl (fun vx13 rdx13 => ?_)
  refine RunL.know (fun w s => (s.conv rfl).ownRd0) (fun rdx14 => ?_)
  refine RunL.mem (frc (frl rfl) rfl) ?_
  refine RunL.call cal17 rfl (s17a (Rd.right rdx14)) rfl (fun vx15 Ax15 hx15 => ?_)
  obtain ⟨x16, ⟨x17, ⟨rfl, rfl⟩⟩⟩ := hx15
  refine RunL.ok (OpOk.move rfl) rfl ?_
  refine RunL.ok (OpOk.ext20 rfl) rfl ?_
  refine RunL.ok (OpOk.ext21 rfl) rfl ?_
  refine RunL.ok (OpOk.assign rfl) rfl ?_
  refine RunL.ok (OpOk.assign rfl) rfl ?_
  refine RunL.nil ?_
  refine Run.seq ?_
  refine Run.region ?_
  refine RunL.call cal64 rfl (s64) rfl (fun vx18 Ax18 hx18 => ?_)
  obtain ⟨x19, ⟨x20, ⟨rfl, rfl⟩⟩⟩ := hx18
  refine RunL.call cal64 rfl (s64) rfl (fun vx21 Ax21 hx21 => ?_)
  obtain ⟨x22, ⟨x23, ⟨rfl, rfl⟩⟩⟩ := hx21
  refine RunL.litFl (enc := encT126) [(1, 1, x19, [(2, -10), (1, 10)]), (1, 1, x22, [(2, -10), (1, 10)])] rfl ti126 rfl (fun _ => rfl) rfl rfl (by decide) (by decide) rfl (fun vx24 rdx24 => ?_)
  refine RunL.ok (OpOk.move rfl) rfl ?_
  refine RunL.lits rfl ti121 rfl rfl rfl (by simp [Value.cells]) (by decide) rfl (fun vx25 rdx25 => ?_)
  refine RunL.know (fun w s => (s.conv (frl rfl)).ownRd0) (fun rdx26 => ?_)
  refine RunL.know (fun w s => (s.conv rfl).ownRd0) (fun rdx27 => ?_)
  refine RunL.mem (frc (frl (frl (frl (frl (frl (frl (frl (frl (frl (frl (frl (frl (frl (frl rfl)))))))))))))) (frc (frl (frl rfl)) (frc (frl (frl (frl rfl))) rfl))) ?_
  refine RunL.call cal15 rfl (s15a (Rd.right rdx26).left (Rd.right rdx27)) rfl (fun vx28 Ax28 hx28 => ?_)
  obtain ⟨x29, ⟨rfl, rfl⟩⟩ := hx28
  refine RunL.ok (OpOk.asT (OpOk.eql rfl rfl) (by omega)) rfl ?_
  refine RunL.ok (OpOk.move rfl) rfl ?_
  refine RunL.on rfl rfl ?_
  refine RunL.call cal64 rfl (s64) rfl (fun vx30 Ax30 hx30 => ?_)
  obtain ⟨x31, ⟨x32, ⟨rfl, rfl⟩⟩⟩ := hx30
  refine RunL.on rfl rfl ?_
  refine RunL.litFl (enc := encT126) [(1, 1, x31, [(2, -10), (1, 10)])] rfl ti126 rfl (fun _ => rfl) rfl rfl (by decide) (by decide) rfl (fun vx33 rdx33 => ?_)
  refine RunL.on rfl rfl ?_
  refine RunL.ok (OpOk.move rfl) rfl ?_
  refine RunL.on rfl rfl ?_
  refine RunL.lits rfl ti121 rfl rfl rfl (by simp [Value.cells]) (by decide) rfl (fun vx34 rdx34 => ?_)
  refine RunL.on rfl rfl ?_
  refine RunL.know (fun w s => (s.conv (frl rfl)).ownRd0) (fun rdx35 => ?_)
  refine RunL.know (fun w s => (s.conv rfl).ownRd0) (fun rdx36 => ?_)
  refine RunL.mem (frc (frl (frl rfl)) rfl) ?_
  refine RunL.call cal15 rfl (s15b (Rd.right rdx35).left (Rd.right rdx36)) rfl (fun vx38 Ax38 hx38 => ?_)
  obtain ⟨x39, ⟨rfl, rfl⟩⟩ := hx38
  refine RunL.on rfl rfl ?_
  refine RunL.ok (OpOk.asT (OpOk.eql rfl rfl) (by omega)) rfl ?_
  refine RunL.ok (OpOk.pickT rfl rfl) rfl ?_
  refine RunL.ok (OpOk.move rfl) rfl ?_
  refine RunL.on rfl rfl ?_
  refine RunL.call cal64 rfl (s64) rfl (fun vx40 Ax40 hx40 => ?_)
  obtain ⟨x41, ⟨x42, ⟨rfl, rfl⟩⟩⟩ := hx40
  refine RunL.on rfl rfl ?_
  refine RunL.litFl (enc := encT126) [(1, 1, x41, [(2, -10), (1, 10)])] rfl ti126 rfl (fun _ => rfl) rfl rfl (by decide) (by decide) rfl (fun vx43 rdx43 => ?_)
  refine RunL.on rfl rfl ?_
  refine RunL.ok (OpOk.move rfl) rfl ?_
  refine RunL.on rfl rfl ?_
  refine RunL.lits rfl ti121 rfl rfl rfl (by simp [Value.cells]) (by decide) rfl (fun vx44 rdx44 => ?_)
  refine RunL.on rfl rfl ?_
  refine RunL.know (fun w s => (s.conv (frl rfl)).ownRd0) (fun rdx45 => ?_)
  refine RunL.know (fun w s => (s.conv rfl).ownRd0) (fun rdx46 => ?_)
  refine RunL.mem (frc (frl (frl rfl)) rfl) ?_
  refine RunL.mem (frc (frl (frl (frl (frl (frl (frl (frl (frl (frl (frl (frl (frl (frl (frl (frl (frl (frl (frl (frl rfl))))))))))))))))))) (frc rfl rfl)) ?_
  refine RunL.call cal15 rfl (s15c (Rd.right rdx45).left (Rd.right rdx46)) rfl (fun vx49 Ax49 hx49 => ?_)
  obtain ⟨x50, ⟨rfl, rfl⟩⟩ := hx49
  refine RunL.on rfl rfl ?_
  refine RunL.ok (OpOk.asT (OpOk.eql rfl rfl) (by omega)) rfl ?_
  refine RunL.ok (OpOk.pickT rfl rfl) rfl ?_
  refine RunL.ok (OpOk.move rfl) rfl ?_
  refine RunL.on rfl rfl ?_
  refine RunL.ok (OpOk.move rfl) rfl ?_
  refine RunL.on rfl rfl ?_
  refine RunL.lits rfl ti121 rfl rfl rfl (by simp [Value.cells]) (by decide) rfl (fun vx51 rdx51 => ?_)
  refine RunL.on rfl rfl ?_
  refine RunL.know (fun w s => (s.conv rfl).ownRd0) (fun rdx52 => ?_)
  refine RunL.mem (frc (frl (frl (frl (frl (frl (frl (frl (frl (frl (frl (frl (frl (frl (frl (frl (frl (frl (frl rfl)))))))))))))))))) rfl) ?_
  refine RunL.call cal15 rfl (s15d (Rd.right rdx52)) rfl (fun vx56 Ax56 hx56 => ?_)
  obtain ⟨x57, ⟨rfl, rfl⟩⟩ := hx56
  refine RunL.on rfl rfl ?_
  refine RunL.ok (OpOk.asT (OpOk.eql rfl rfl) (by omega)) rfl ?_
  refine RunL.ok (OpOk.pickT rfl rfl) rfl ?_
  refine RunL.ok (OpOk.move rfl) rfl ?_
  refine RunL.on rfl rfl ?_
  refine RunL.ok (OpOk.move rfl) rfl ?_
  refine RunL.on rfl rfl ?_
  refine RunL.ok (OpOk.asT (OpOk.eql rfl rfl) (by omega)) rfl ?_
  refine RunL.ok (OpOk.pickT rfl rfl) rfl ?_
  refine RunL.ok (OpOk.move rfl) rfl ?_
  refine RunL.on rfl rfl ?_
  refine RunL.ok (OpOk.move rfl) rfl ?_
  refine RunL.on rfl rfl ?_
  refine RunL.know (fun w s => (s.conv (frl (frl (frl (frl (frl (frl (frl (frl (frl (frl (frl (frl (frl (frl (frl rfl)))))))))))))))).ownRd0) (fun rdx58 => ?_)
  refine RunL.ok (OpOk.lenR rfl rfl (Rd.right rdx58).left.left.left.left.left.left.left.left.left.left.left.left.left.left.left rfl) rfl ?_
  refine RunL.on rfl rfl ?_
  refine RunL.ok (OpOk.asT (OpOk.eql rfl rfl) (by omega)) rfl ?_
  refine RunL.ok (OpOk.pickT rfl rfl) rfl ?_
  refine RunL.ok (OpOk.move rfl) rfl ?_
  refine RunL.on rfl rfl ?_
  refine RunL.ok (OpOk.move rfl) rfl ?_
  refine RunL.on rfl rfl ?_
  refine RunL.ok (OpOk.idx1 rfl ti3 rfl (Rd.right rdx58).left.left.left.left.left.left.left.left.left.left.left.left.left.left.left rfl (by omega) (by omega)) rfl ?_
  refine RunL.on rfl rfl ?_
  refine RunL.ok (OpOk.load rfl rfl rfl (Rd.getI (Rd.right rdx58).left.left.left.left.left.left.left.left.left.left.left.left.left.left.left (by omega))) rfl ?_
  refine RunL.on rfl rfl ?_
  refine RunL.ok (OpOk.eql rfl rfl) rfl ?_
  refine RunL.ok (OpOk.pickT rfl rfl) rfl ?_
  refine RunL.ok (OpOk.assign rfl) rfl ?_
  refine RunL.nil ?_
  refine Run.ret1 Try.func14 rfl rfl ?_
  exact ⟨_, rfl, (asg (asg (asg (asg (asg (asg (asg (asg (asg (asg (asg (asg (asg (asg (asg (asg (asg (asg (asg (asg as1))))))))))))))))))))⟩
end
end Go.Proofs.Yteopadjihklkmaa
