/- The oracle's iterator. -/
import Derived.Test.YtlmehpjcmdipmaaOrB
import Derived.Test.YtlmehpjcmdipmaaLe
namespace Go.Proofs.Ytlmehpjcmdipmaa
open Go Go.Proofs
set_option maxRecDepth 100000
set_option maxHeartbeats 4000000
set_option linter.unusedSimpArgs false
section
variable {w0 : World} {A : Asn} {p : Nat} {mv av v : Value} {l : List Me} {xs : List Mi}
theorem s45 {u : Value} {m : Nat} (rd : Rd w0 A u 6 m (Fl encT85 xs)) (hm : m ≤ 1048576) : Spec Try.prog w0 45 [u] A (fun v' A' => A' = A * own 85 6 v' m (Fl encT85 xs)) := by
  obtain ⟨ad, cap, rfl, hcap, ha⟩ := rd.form
  refine Spec.of_run [(0, .slice ad m cap)] Try.func45 rfl (Nat.le_of_ble_eq_true rfl) (by repeat (first | exact trivial | refine ⟨rfl, ?_⟩)) ?_
  cases ad with
  | none =>
    have hm0 : m = 0 := by
      rcases Nat.eq_zero_or_pos m with e | e
      · exact e
      · cases ha e
    subst hm0
    have hb : xs = [] := List.eq_nil_of_length_eq_zero (rd.lenFl (fun _ => rfl) (by decide))
    subst hb
    refine Run.seq ?_
    refine Run.region ?_
    refine RunL.ok (OpOk.assign rfl) rfl ?_
    refine RunL.nil ?_
    refine Run.seq ?_
    refine Run.seq ?_
    refine Run.region ?_
    refine RunL.ok (OpOk.move rfl) rfl ?_
    refine RunL.ok (OpOk.eqlNil rfl rfl) rfl ?_
    refine RunL.nil ?_
    refine Run.condT rfl ?_
    refine Run.seq ?_
    refine Run.region ?_
    refine RunL.ok (OpOk.assign rfl) rfl ?_
    refine RunL.nil ?_
    refine Run.ent (Ent.ownNil' _ 85 6 (Fl encT85 []) rfl) ?_
    refine Run.ret1 Try.func45 rfl rfl ?_
    exact rfl
  | some a =>
    refine Run.seq ?_
    refine Run.region ?_
    refine RunL.ok (OpOk.assign rfl) rfl ?_
    refine RunL.nil ?_
    refine Run.seq ?_
    refine Run.seq ?_
    refine Run.region ?_
    refine RunL.ok (OpOk.move rfl) rfl ?_
    refine RunL.ok (OpOk.eqlNil rfl rfl) rfl ?_
    refine RunL.nil ?_
    refine Run.condF rfl ?_
    refine Run.skip ?_
    refine Run.seq ?_
    refine Run.region ?_
    refine RunL.lit0 rfl ti85 rfl (fun vy1 rdy1 => ?_)
    refine RunL.ok (OpOk.move rfl) rfl ?_
    refine RunL.appendF0 rfl ti85 rfl rfl rfl rfl rd.left rfl (by decide) (by omega) (by simp only [maxLen]; omega) rfl (fun vy2 rdy2 => ?_)
    refine RunL.ok (OpOk.assign rfl) rfl ?_
    refine RunL.nil ?_
    refine Run.ret1 Try.func45 rfl rfl ?_
    exact rfl
theorem valuesM0 {u : Value} : Spec Try.prog w0 44 [u] A (fun v' A' => ∃ b, v' = .func (.func 47) #[] #[.pointer (some ⟨b, 0, none⟩)] ∧ A' = A * pts b (.cells u.cells 32 (0, 0))) := by
  refine Spec.of_run [(0, u)] Try.func44 rfl (Nat.le_of_ble_eq_true rfl) (by repeat (first | exact trivial | refine ⟨rfl, ?_⟩)) ?_
  refine Run.seq ?_
  refine Run.region ?_
  refine RunL.box rfl rfl (fun bx1 => ?_)
  refine RunL.ok (OpOk.assign rfl) rfl ?_
  refine RunL.nil ?_
  refine Run.seq ?_
  refine Run.region ?_
  refine RunL.ok (OpOk.makeFunc rfl rfl) rfl ?_
  refine RunL.ok (OpOk.assign rfl) rfl ?_
  refine RunL.nil ?_
  refine Run.ret1 Try.func44 rfl rfl ?_
  exact ⟨_, rfl, rfl⟩
theorem s44 {u : Value} {m : Nat} {ys : List Value} (rd : Rd w0 A u 6 m ys) : Spec Try.prog w0 44 [u] A (fun v' A' => ∃ b, v' = .func (.func 47) #[] #[.pointer (some ⟨b, 0, none⟩)] ∧ A' = A * pts b (.cells #[u] 32 (0, 0))) := by
  have h := valuesM0 (w0 := w0) (A := A) (u := u)
  rw [Rd.cells1 rd] at h
  exact h
theorem iterM {b : Nat} (hmx : xs.length ≤ 4611686018427387904) : IterOk Try.prog w0 47 [.pointer (some ⟨b, 0, none⟩)] xs.length (fun i => .agg (encT85 (xs.getD i default)).toArray) (pts b (.cells #[v] 32 (0, 0)) * own 85 6 v xs.length (Fl encT85 xs)) := by
  refine ⟨cal47, fun l Y I M St hY y0 h0 => ?_⟩
  rw [← sep_assoc]
  refine Spec.of_run [(0, .func (.yield l) #[] #[]), (1, .pointer (some ⟨b, 0, none⟩))] Try.func47 rfl (Nat.le_of_ble_eq_true rfl) (by repeat (first | exact trivial | refine ⟨rfl, ?_⟩)) ?_
  refine Run.seq ?_
  refine Run.region ?_
  refine RunL.ok (OpOk.load rfl rfl rfl (Blk.out Blk.pts.left _ _ (by first | rfl | assumption))) rfl ?_
  refine RunL.know (fun w s => (s.conv rfl).ownRd0) (fun rdx1 => ?_)
  refine RunL.ok (OpOk.lenR rfl rfl (Rd.right rdx1) rfl) rfl ?_
  refine RunL.ok (OpOk.move rfl) rfl ?_
  refine RunL.nil ?_
  refine Run.block ?_
  refine Run.jump ((Run.loopJ (X := Nat × Asn × Y) (fun x => [(7, .int .i64 (x.1 : Int)), (6, .int .i64 (xs.length : Int)), (5, v), (0, .func (.yield l) #[] #[])]) (fun x => x.2.1 * M x.2.2 * own 85 6 v xs.length (Fl encT85 xs)) (fun x => x.1 ≤ xs.length ∧ I x.1 x.2.2) (fun x => xs.length - x.1) (0, _, y0) ⟨Nat.zero_le _, h0⟩ (fun x hx ih => ?_))) ⟨rfl, rfl, rfl, rfl, trivial⟩ (Grew.of (Eq.trans (frc rfl (frc (sep_comm _ _) rfl)) (congrArg (· * _) (congrArg (· * _) rfl))) (Grew.refl _))
  obtain ⟨i, J, y⟩ := x
  simp only at hx ih ⊢
  obtain ⟨hi, hI⟩ := hx
  rcases Nat.lt_or_ge i xs.length with hlt | hge
  · refine Run.seq ?_
    refine Run.region ?_
    refine RunL.ok (OpOk.asT (OpOk.lss rfl rfl) (by omega)) rfl ?_
    refine RunL.nil ?_
    refine Run.seq ?_
    refine Run.condT rfl ?_
    refine Run.skip ?_
    refine Run.seq ?_
    refine Run.block ?_
    refine Run.seq ?_
    refine Run.region ?_
    refine RunL.ok (OpOk.idxN rfl ti85 rfl (Rd.right rdx1) rfl (by omega)) rfl ?_
    refine RunL.ok (OpOk.loadFl default rfl rfl ti85 rfl (Rd.right rdx1) (fun _ => rfl) rfl (by omega)) rfl ?_
    refine RunL.alloc ti85 rfl (fun by1 => ?_)
    refine RunL.storeAll ti85 rfl rfl rfl (ones rfl) rfl rfl ?_
    refine RunL.nil ?_
    refine Run.seq ?_
    refine Run.regionY ?_
    refine RunY.ok (OpOk.move rfl) rfl ?_
    refine RunY.ok (OpOk.loadS (cs := encT85 (xs.getD i default)) rfl rfl ti85 rfl (Blk.pts (t := 85) (fr := (0, 0))) rfl) rfl ?_
    refine RunY.yield rfl rfl (fun w hs => hY i y (J * own 85 6 v xs.length (Fl encT85 xs) * pts by1 (.cells (Value.agg (encT85 (xs.getD i default)).toArray).cells 85 (0, 0))) hlt hI w (hs.conv (by ac_rfl))) rfl (fun u A' h => ?_)
    rcases h with ⟨rfl, y', hI', rfl⟩ | ⟨rfl, y', hS, rfl⟩
    · refine RunY.of ?_
      refine RunL.ok (OpOk.not rfl) rfl ?_
      refine RunL.nil ?_
      refine Run.condF rfl ?_
      refine Run.skip ?_
      refine Run.inBlock ?_
      refine Run.region ?_
      refine RunL.ok (OpOk.addN _ 1 rfl rfl rfl rfl (by omega)) rfl ?_
      refine RunL.ok (OpOk.move rfl) rfl ?_
      refine RunL.nil ?_
      refine Run.jump ((ih (i + 1, _, y') ⟨by dsimp only; omega, hI'⟩ (by dsimp only; omega))) ⟨rfl, rfl, rfl, rfl, trivial⟩ (Grew.of (Eq.trans (frc (frl (frl rfl)) rfl) (congrArg (· * _) (congrArg (· * _) rfl))) (Grew.refl _))
    · refine RunY.of ?_
      refine RunL.ok (OpOk.not rfl) rfl ?_
      refine RunL.nil ?_
      refine Run.condT rfl ?_
      refine Run.ret0 Try.func47 rfl ?_
      exact ⟨y', J * own 85 6 v xs.length (Fl encT85 xs) * pts by1 (.cells (Value.agg (encT85 (xs.getD i default)).toArray).cells 85 (0, 0)), .inr hS, by ac_rfl⟩
  · obtain rfl : i = xs.length := by omega
    clear ih
    refine Run.seq ?_
    refine Run.region ?_
    refine RunL.ok (OpOk.asF (OpOk.lss rfl rfl) (by omega)) rfl ?_
    refine RunL.nil ?_
    refine Run.seq ?_
    refine Run.condF rfl ?_
    refine Run.exit rfl ?_
    refine Run.fall0 Try.func47 rfl ?_
    exact ⟨y, J * own 85 6 v xs.length (Fl encT85 xs), .inl hI, by ac_rfl⟩
theorem s38 (hs : l.length ≤ 1048576) : Spec Try.prog w0 38 [.pointer (some ⟨p, 0, none⟩)] (A * pts p (.cells #[mv, av] 34 (0, 0)) * omap mv (l) * own 85 6 av (l).length (Fl encT85 (mintF 0 (l)))) (fun v' A' => ∃ b v2, v' = .func (.func 47) #[] #[.pointer (some ⟨b, 0, none⟩)] ∧ A' = A * pts p (.cells #[mv, av] 34 (0, 0)) * omap mv (l) * own 85 6 av (l).length (Fl encT85 (mintF 0 (l))) * pts b (.cells #[v2] 32 (0, 0)) * own 85 6 v2 (mintF 0 l).length (Fl encT85 (mintF 0 l))) := by
  have hml := mintF_length l 0
  refine Spec.of_run [(0, .pointer (some ⟨p, 0, none⟩))] Try.func38 rfl (Nat.le_of_ble_eq_true rfl) (by repeat (first | exact trivial | refine ⟨rfl, ?_⟩)) ?_
  refine Run.seq ?_
  refine Run.region ?_
  refine RunL.ok (OpOk.assign rfl) rfl ?_
  refine RunL.nil ?_
  refine Run.seq ?_
  refine Run.region ?_
  refine RunL.ok (OpOk.move rfl) rfl ?_
  refine RunL.ok (OpOk.nilOk rfl) rfl ?_
  refine RunL.ok (OpOk.fieldAddr fld34_1 rfl) rfl ?_
  refine RunL.ok (OpOk.load rfl rfl rfl (Blk.out Blk.pts.left.left _ _ (by first | rfl | assumption))) rfl ?_
  refine RunL.know (fun w s => (s.conv rfl).ownRd0) (fun rdx1 => ?_)
  refine RunL.call cal45 rfl (s45 (Rd.right rdx1) (by assumption)) rfl (fun vx2 Ax2 hx2 => ?_)
  obtain rfl := hx2
  refine RunL.know (fun w s => (s.conv rfl).ownRd0) (fun rdx3 => ?_)
  refine RunL.call cal44 rfl (s44 (Rd.right rdx3)) rfl (fun vx4 Ax4 hx4 => ?_)
  obtain ⟨x5, ⟨rfl, rfl⟩⟩ := hx4
  refine RunL.ok (OpOk.assign rfl) rfl ?_
  refine RunL.nil ?_
  refine Run.ret1 Try.func38 rfl rfl ?_
  rw [hml]
  exact ⟨_, _, rfl, by ac_rfl⟩
end
end Go.Proofs.Ytlmehpjcmdipmaa
