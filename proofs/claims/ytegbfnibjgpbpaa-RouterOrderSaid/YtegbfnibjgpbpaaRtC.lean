/- The iterator over messages; the router's parts that only read. -/
import Derived.Test.YtegbfnibjgpbpaaRtB
namespace Go.Proofs.Ytegbfnibjgpbpaa
open Go Go.Proofs
set_option maxRecDepth 100000
set_option maxHeartbeats 4000000
set_option linter.unusedSimpArgs false
section
variable {w0 : World} {A : Asn} {v : Value} {xs : List Ms}
theorem s84 {u : Value} {m : Nat} (rd : Rd w0 A u 5 m (Fl encT82 xs)) (hm : m ≤ 1048576) : Spec Try.prog w0 84 [u] A (fun v' A' => A' = A * own 82 5 v' m (Fl encT82 xs)) := by
  obtain ⟨ad, cap, rfl, hcap, ha⟩ := rd.form
  refine Spec.of_run [(0, .slice ad m cap)] Try.func84 rfl (Nat.le_of_ble_eq_true rfl) (by repeat (first | exact trivial | refine ⟨rfl, ?_⟩)) ?_
  cases ad with
  | none =>
    have hm0 : m = 0 := by
      rcases Nat.eq_zero_or_pos m with e | e
      · exact e
      · cases ha e
    subst hm0
    have hb : xs = [] := List.eq_nil_of_length_eq_zero (rd.lenFl (fun _ => rfl) (by decide))
    subst hb
    refine Run.seq ?_
    refine Run.region ?_
    refine RunL.ok (OpOk.assign rfl) rfl ?_
    refine RunL.nil ?_
    refine Run.seq ?_
    refine Run.seq ?_
    refine Run.region ?_
    refine RunL.ok (OpOk.move rfl) rfl ?_
    refine RunL.ok (OpOk.eqlNil rfl rfl) rfl ?_
    refine RunL.nil ?_
    refine Run.condT rfl ?_
    refine Run.seq ?_
    refine Run.region ?_
    refine RunL.ok (OpOk.assign rfl) rfl ?_
    refine RunL.nil ?_
    refine Run.ent (Ent.ownNil' _ 82 5 (Fl encT82 []) rfl) ?_
    refine Run.ret1 Try.func84 rfl rfl ?_
    exact rfl
  | some a =>
    refine Run.seq ?_
    refine Run.region ?_
    refine RunL.ok (OpOk.assign rfl) rfl ?_
    refine RunL.nil ?_
    refine Run.seq ?_
    refine Run.seq ?_
    refine Run.region ?_
    refine RunL.ok (OpOk.move rfl) rfl ?_
    refine RunL.ok (OpOk.eqlNil rfl rfl) rfl ?_
    refine RunL.nil ?_
    refine Run.condF rfl ?_
    refine Run.skip ?_
    refine Run.seq ?_
    refine Run.region ?_
    refine RunL.lit0 rfl ti82 rfl (fun vy1 rdy1 => ?_)
    refine RunL.ok (OpOk.move rfl) rfl ?_
    refine RunL.appendF0 rfl ti82 rfl rfl rfl rfl rd.left rfl (by decide) (by omega) (by simp only [maxLen]; omega) rfl (fun vy2 rdy2 => ?_)
    refine RunL.ok (OpOk.assign rfl) rfl ?_
    refine RunL.nil ?_
    refine Run.ret1 Try.func84 rfl rfl ?_
    exact rfl
theorem valuesG0 {u : Value} : Spec Try.prog w0 83 [u] A (fun v' A' => ∃ b, v' = .func (.func 85) #[] #[.pointer (some ⟨b, 0, none⟩)] ∧ A' = A * pts b (.cells u.cells 70 (0, 0))) := by
  refine Spec.of_run [(0, u)] Try.func83 rfl (Nat.le_of_ble_eq_true rfl) (by repeat (first | exact trivial | refine ⟨rfl, ?_⟩)) ?_
  refine Run.seq ?_
  refine Run.region ?_
  refine RunL.box rfl rfl (fun bx1 => ?_)
  refine RunL.ok (OpOk.assign rfl) rfl ?_
  refine RunL.nil ?_
  refine Run.seq ?_
  refine Run.region ?_
  refine RunL.ok (OpOk.makeFunc rfl rfl) rfl ?_
  refine RunL.ok (OpOk.assign rfl) rfl ?_
  refine RunL.nil ?_
  refine Run.ret1 Try.func83 rfl rfl ?_
  exact ⟨_, rfl, rfl⟩
theorem s83 {u : Value} {m : Nat} {ys : List Value} (rd : Rd w0 A u 5 m ys) : Spec Try.prog w0 83 [u] A (fun v' A' => ∃ b, v' = .func (.func 85) #[] #[.pointer (some ⟨b, 0, none⟩)] ∧ A' = A * pts b (.cells #[u] 70 (0, 0))) := by
  have h := valuesG0 (w0 := w0) (A := A) (u := u)
  rw [Rd.cells1 rd] at h
  exact h
theorem iterG {b : Nat} (hmx : xs.length ≤ 4611686018427387904) : IterOk Try.prog w0 85 [.pointer (some ⟨b, 0, none⟩)] xs.length (fun i => .agg (encT82 (xs.getD i default)).toArray) (pts b (.cells #[v] 70 (0, 0)) * own 82 5 v xs.length (Fl encT82 xs)) := by
  refine ⟨cal85, fun l Y I M St hY y0 h0 => ?_⟩
  rw [← sep_assoc]
  refine Spec.of_run [(0, .func (.yield l) #[] #[]), (1, .pointer (some ⟨b, 0, none⟩))] Try.func85 rfl (Nat.le_of_ble_eq_true rfl) (by repeat (first | exact trivial | refine ⟨rfl, ?_⟩)) ?_
  refine Run.seq ?_
  refine Run.region ?_
  refine RunL.ok (OpOk.load rfl rfl rfl (Blk.out Blk.pts.left _ _ (by first | rfl | assumption))) rfl ?_
  refine RunL.know (fun w s => (s.conv rfl).ownRd0) (fun rdx1 => ?_)
  refine RunL.ok (OpOk.lenR rfl rfl (Rd.right rdx1) rfl) rfl ?_
  refine RunL.ok (OpOk.move rfl) rfl ?_
  refine RunL.nil ?_
  refine Run.block ?_
  refine Run.jump ((Run.loopJ (X := Nat × Asn × Y) (fun x => [(7, .int .i64 (x.1 : Int)), (6, .int .i64 (xs.length : Int)), (5, v), (0, .func (.yield l) #[] #[])]) (fun x => x.2.1 * M x.2.2 * own 82 5 v xs.length (Fl encT82 xs)) (fun x => x.1 ≤ xs.length ∧ I x.1 x.2.2) (fun x => xs.length - x.1) (0, _, y0) ⟨Nat.zero_le _, h0⟩ (fun x hx ih => ?_))) ⟨rfl, rfl, rfl, rfl, trivial⟩ (Grew.of (Eq.trans (frc rfl (frc (sep_comm _ _) rfl)) (congrArg (· * _) (congrArg (· * _) rfl))) (Grew.refl _))
  obtain ⟨i, J, y⟩ := x
  simp only at hx ih ⊢
  obtain ⟨hi, hI⟩ := hx
  rcases Nat.lt_or_ge i xs.length with hlt | hge
  · have hone : ∀ w ∈ (Value.agg (encT82 (xs.getD i default)).toArray).cells.toList, w.oneCell' = true := fun w hw => OneC.one (enc := encT82) (xs.getD i default) w hw
    refine Run.seq ?_
    refine Run.region ?_
    refine RunL.ok (OpOk.asT (OpOk.lss rfl rfl) (by omega)) rfl ?_
    refine RunL.nil ?_
    refine Run.seq ?_
    refine Run.condT rfl ?_
    refine Run.skip ?_
    refine Run.seq ?_
    refine Run.block ?_
    refine Run.seq ?_
    refine Run.region ?_
    refine RunL.ok (OpOk.idxN rfl ti82 rfl (Rd.right rdx1) rfl (by omega)) rfl ?_
    refine RunL.ok (OpOk.loadFl default rfl rfl ti82 rfl (Rd.right rdx1) (fun _ => rfl) rfl (by omega)) rfl ?_
    refine RunL.alloc ti82 rfl (fun by1 => ?_)
    refine RunL.storeAll ti82 rfl rfl rfl (fun w hw => OneC.one (enc := encT82) (xs.getD i default) w hw) rfl rfl ?_
    refine RunL.nil ?_
    refine Run.seq ?_
    refine Run.regionY ?_
    refine RunY.ok (OpOk.move rfl) rfl ?_
    refine RunY.ok (OpOk.loadS (cs := encT82 (xs.getD i default)) rfl rfl ti82 rfl (Blk.pts (t := 82) (fr := (0, 0))) rfl) rfl ?_
    refine RunY.yield rfl rfl (fun w hs => hY i y (J * own 82 5 v xs.length (Fl encT82 xs) * pts by1 (.cells (Value.agg (encT82 (xs.getD i default)).toArray).cells 82 (0, 0))) hlt hI w (hs.conv (by ac_rfl))) rfl (fun u A' h => ?_)
    rcases h with ⟨rfl, y', hI', rfl⟩ | ⟨rfl, y', hS, rfl⟩
    · refine RunY.of ?_
      refine RunL.ok (OpOk.not rfl) rfl ?_
      refine RunL.nil ?_
      refine Run.condF rfl ?_
      refine Run.skip ?_
      refine Run.inBlock ?_
      refine Run.region ?_
      refine RunL.ok (OpOk.addN _ 1 rfl rfl rfl rfl (by omega)) rfl ?_
      refine RunL.ok (OpOk.move rfl) rfl ?_
      refine RunL.nil ?_
      refine Run.jump ((ih (i + 1, _, y') ⟨by dsimp only; omega, hI'⟩ (by dsimp only; omega))) ⟨rfl, rfl, rfl, rfl, trivial⟩ (Grew.of (Eq.trans (frc (frl (frl rfl)) rfl) (congrArg (· * _) (congrArg (· * _) rfl))) (Grew.refl _))
    · refine RunY.of ?_
      refine RunL.ok (OpOk.not rfl) rfl ?_
      refine RunL.nil ?_
      refine Run.condT rfl ?_
      refine Run.ret0 Try.func85 rfl ?_
      exact ⟨y', J * own 82 5 v xs.length (Fl encT82 xs) * pts by1 (.cells (Value.agg (encT82 (xs.getD i default)).toArray).cells 82 (0, 0)), .inr hS, by ac_rfl⟩
  · obtain rfl : i = xs.length := by omega
    clear ih
    refine Run.seq ?_
    refine Run.region ?_
    refine RunL.ok (OpOk.asF (OpOk.lss rfl rfl) (by omega)) rfl ?_
    refine RunL.nil ?_
    refine Run.seq ?_
    refine Run.condF rfl ?_
    refine Run.exit rfl ?_
    refine Run.fall0 Try.func85 rfl ?_
    exact ⟨y, J * own 82 5 v xs.length (Fl encT82 xs), .inl hI, by ac_rfl⟩
end
section
variable {w0 : World} {A : Asn} {qv : Value} {n i : Nat} {Q : List Qu}
theorem s73 {sv : SV} {ms : List Ms} (hn : Q.length = n) (hi : i < n) (hq : Q.getD i default = (sv, ms)) (hm : ms.length ≤ 1048576) : Spec Try.prog w0 73 [.pointer (some ((adr qv).add i))] (A * own 123 1 qv n (Fl encT123 Q) * ownsQ Q) (fun v' A' => ∃ b v2, v' = .func (.func 85) #[] #[.pointer (some ⟨b, 0, none⟩)] ∧ A' = A * own 123 1 qv n (Fl encT123 Q) * ownsQ Q * pts b (.cells #[v2] 70 (0, 0)) * own 82 5 v2 ms.length (Fl encT82 ms)) := by
  rw [ownsQ_at (show i < Q.length by omega), hq, qone]
  simp only [← sep_assoc]
  refine Spec.of_run [(0, .pointer (some ((adr qv).add i)))] Try.func73 rfl (Nat.le_of_ble_eq_true rfl) (by repeat (first | exact trivial | refine ⟨rfl, ?_⟩)) ?_
  refine Run.know (fun w s => Sat.ownRd0 (A := A * own 123 1 qv n (Fl encT123 Q) * qrest Q i * ownsM ms) (s.conv (by ac_rfl))) (fun rdM => ?_)
  refine Run.seq ?_
  refine Run.region ?_
  refine RunL.ok (OpOk.assign rfl) rfl ?_
  refine RunL.nil ?_
  refine Run.seq ?_
  refine Run.region ?_
  refine RunL.ok (OpOk.move rfl) rfl ?_
  refine RunL.ok (OpOk.nilOk rfl) rfl ?_
  refine RunL.ok (OpOk.fieldAddrA fld121_0 rfl) rfl ?_
  refine RunL.know (fun w s => (s.conv (frl (frl (frl rfl)))).ownRd0) (fun rdx1 => ?_)
  refine RunL.ok (OpOk.loadRowE hq rfl rfl rfl (Rd.right rdx1).left.left.left (fun _ => rfl) (by omega) rfl) rfl ?_
  refine RunL.know (fun w s => (s.conv rfl).ownsM0) (fun alx2 => ?_)
  refine RunL.call cal84 rfl (s84 (Rd.right rdM).left (by assumption)) rfl (fun vx3 Ax3 hx3 => ?_)
  obtain rfl := hx3
  refine RunL.know (fun w s => (s.conv rfl).ownRd0) (fun rdx4 => ?_)
  refine RunL.call cal83 rfl (s83 (Rd.right rdx4)) rfl (fun vx5 Ax5 hx5 => ?_)
  obtain ⟨x6, ⟨rfl, rfl⟩⟩ := hx5
  refine RunL.ok (OpOk.assign rfl) rfl ?_
  refine RunL.nil ?_
  refine Run.ret1 Try.func73 rfl rfl ?_
  exact ⟨_, _, rfl, (frc (frl rfl) rfl)⟩
theorem copiedM {m : Ms} (rd : Rd w0 A m.2.2.2.1.1 1 m.2.2.2.2.2.length (B m.2.2.2.2.2)) (hm : m.2.2.2.2.2.length ≤ 140737488351232) :
    Spec Try.prog w0 71 [.agg (encT82 m).toArray] A (fun v' A' => ∃ (sv : SV) (J : Asn), v' = .agg (encT82 (m.1, m.2.1, m.2.2.1, sv, m.2.2.2.2.1, m.2.2.2.2.2)).toArray ∧ A' = A * J * own 5 1 sv.1 m.2.2.2.2.2.length (B m.2.2.2.2.2)) := by
  obtain ⟨k, f, t, sv, o, bs⟩ := m
  have hone := sv.2
  dsimp only at rd hm ⊢
  refine Spec.of_run [(0, .agg (encT82 (k, f, t, sv, o, bs)).toArray)] Try.func71 rfl (Nat.le_of_ble_eq_true rfl) (by repeat (first | exact trivial | refine ⟨rfl, ?_⟩)) ?_
  refine Run.seq ?_
  refine Run.region ?_
  refine RunL.box rfl rfl (fun bx1 => ?_)
  refine RunL.alloc ti82 rfl (fun bx2 => ?_)
  refine RunL.nil ?_
  refine Run.seq ?_
  refine Run.region ?_
  refine RunL.ok (OpOk.fieldAddr fld82_3 rfl) rfl ?_
  refine RunL.ok (OpOk.load rfl rfl rfl (Blk.out Blk.pts.left _ _ (by first | rfl | assumption))) rfl ?_
  refine RunL.call cal80 rfl (s80 rd.left.left (by omega)) rfl (fun vx3 Ax3 hx3 => ?_)
  obtain rfl := hx3
  refine RunL.ok (OpOk.fieldAddr fld82_3 rfl) rfl ?_
  refine RunL.know (fun w s => (s.conv rfl).ownRd0) (fun rdx4 => ?_)
  refine RunL.store ti79 rfl rfl (Rd.one rdx4) (frl (frl rfl)) (by exact Nat.le_of_ble_eq_true rfl) (.inl rfl) ?_
  refine RunL.nil ?_
  refine Run.seq ?_
  refine Run.region ?_
  refine RunL.ok (OpOk.loadS rfl rfl ti82 rfl Blk.pts rfl) rfl ?_
  refine RunL.storeAll ti82 rfl rfl rfl (by simp [Value.cells, one_int, one_bool, one_S, one_str, one_slice, one_map, one_ptr, encT82, Rd.one rdx4, *]) (frl (frl rfl)) rfl ?_
  refine RunL.nil ?_
  refine Run.retC (A' := _) Try.func71 rfl rfl rfl ti82 rfl Blk.pts rfl (Grew.refl _) ?_
  refine ⟨⟨vx3, Rd.one rdx4⟩, ?_⟩
  exact ⟨_, rfl, (Eq.trans (frc (frl (frl rfl)) rfl) (congrArg (· * _) (asg as1)))⟩
theorem s71 {k f t o : Int} {sv0 : SV} {bs : List UInt8} (rd : Rd w0 A sv0.1 1 bs.length (B bs)) (hm : bs.length ≤ 140737488351232) :
    Spec Try.prog w0 71 [.agg (encT82 (k, f, t, sv0, o, bs)).toArray] A (fun v' A' => ∃ (sv : SV) (J : Asn), v' = .agg (encT82 (k, f, t, sv, o, bs)).toArray ∧ A' = A * J * own 5 1 sv.1 bs.length (B bs)) :=
  copiedM (m := (k, f, t, sv0, o, bs)) rd hm
end
end Go.Proofs.Ytegbfnibjgpbpaa
