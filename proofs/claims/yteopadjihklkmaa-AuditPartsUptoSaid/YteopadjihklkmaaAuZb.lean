/- slices.DeleteFunc of journeys. -/
import Derived.Test.YteopadjihklkmaaAuZ
namespace Go.Proofs.Yteopadjihklkmaa
open Go Go.Proofs
set_option maxRecDepth 100000
set_option maxHeartbeats 4000000
set_option linter.unusedSimpArgs false
def keyP (p : Po) : Int × Int := (p.1, p.2.1)
theorem take_set_here {α : Type} {l : List α} {i : Nat} {x : α} (h : i < l.length) : (l.set i x).take (i + 1) = l.take i ++ [x] := by
  rw [List.set_eq_take_append_cons_drop, if_pos h, List.take_append, List.length_take, Nat.min_eq_left (by omega), List.take_of_length_le (by rw [List.length_take]; omega), show i + 1 - i = 1 by omega]
  rfl
section
variable {w0 : World} {A : Asn} {b0 mb : Nat} {ks : List (Int × Int)}
theorem deleteNone {v : Value} {m : Nat} {js : List Jn} (h : ∀ j ∈ js, isThere ks j = false) :
    Spec Try.prog w0 67 [v, .func (.func 69) #[] #[.pointer (some ⟨b0, 0, none⟩)]] (A * own 47 10 v m (Fl encT47 js) * pts b0 (.cells #[.map (some mb)] 137 (0, 0)) * setA mb ks) (fun v' A' => ∃ J, v' = v ∧ A' = A * J * own 47 10 v m (Fl encT47 js)) := by
  refine Spec.of_run [(0, v), (1, .func (.func 69) #[] #[.pointer (some ⟨b0, 0, none⟩)])] Try.func67 rfl (Nat.le_of_ble_eq_true rfl) (by repeat (first | exact trivial | refine ⟨rfl, ?_⟩)) ?_
  refine Run.seq ?_
  refine Run.region ?_
  refine RunL.ok (OpOk.assign rfl) rfl ?_
  refine RunL.nil ?_
  refine Run.seq ?_
  refine Run.region ?_
  refine RunL.ok (OpOk.move rfl) rfl ?_
  refine RunL.ok (OpOk.move rfl) rfl ?_
  refine RunL.know (fun w s => (s.conv (frl (frl rfl))).ownRd0) (fun rdx1 => ?_)
  refine RunL.call cal105 rfl (s105a (Rd.right rdx1) (by assumption)) rfl (fun vx2 Ax2 hx2 => ?_)
  obtain ⟨x3, ⟨rfl, rfl⟩⟩ := hx2
  refine RunL.ok (OpOk.assign rfl) rfl ?_
  refine RunL.nil ?_
  refine Run.seq ?_
  refine Run.seq ?_
  refine Run.region ?_
  refine RunL.ok (OpOk.move rfl) rfl ?_
  refine RunL.ok (OpOk.asT (OpOk.eql rfl rfl) (by omega)) rfl ?_
  refine RunL.nil ?_
  refine Run.condT rfl ?_
  refine Run.seq ?_
  refine Run.region ?_
  refine RunL.ok (OpOk.move rfl) rfl ?_
  refine RunL.ok (OpOk.assign rfl) rfl ?_
  refine RunL.nil ?_
  refine Run.ret1 Try.func67 rfl rfl ?_
  exact ⟨_, rfl, (Eq.trans (frc (frl (frl (frl rfl))) rfl) (congrArg (· * _) (asg (asg as1))))⟩
theorem deleteSome {v : Value} {m k : Nat} {js : List Jn} (hl : js.length = m) (hmx : m ≤ 1048576) (hk : k < js.length) (ht : isThere ks (js.getD k default) = true) (h : ∀ q, q < k → isThere ks (js.getD q default) = false) :
    Spec Try.prog w0 67 [v, .func (.func 69) #[] #[.pointer (some ⟨b0, 0, none⟩)]] (A * own 47 10 v m (Fl encT47 js) * pts b0 (.cells #[.map (some mb)] 137 (0, 0)) * setA mb ks)
      (fun v' A' => ∃ (g cap : Nat) (cs : List Value) (J : Asn), v' = .slice (some ⟨g, 0, none⟩) (missF ks js).length cap ∧ A' = A * J * pts g (.cells cs.toArray 47 (0, 0)) ∧ (missF ks js).length ≤ cap ∧ cap ≤ maxLen ∧ cs.length = cap * 10 ∧ cs.take ((missF ks js).length * 10) = Fl encT47 (missF ks js)) := by
  subst hl
  have hg1 : missF ks (js.take (k + 1)) = js.take k := by
    rw [missF_next hk, missF_before (by omega) h, ht, if_pos rfl, List.append_nil]
  have hg2 : (missF ks (js.take (k + 1))).length = k := by rw [hg1, List.length_take]; omega
  refine Spec.of_run [(0, v), (1, .func (.func 69) #[] #[.pointer (some ⟨b0, 0, none⟩)])] Try.func67 rfl (Nat.le_of_ble_eq_true rfl) (by repeat (first | exact trivial | refine ⟨rfl, ?_⟩)) ?_
  refine Run.seq ?_
  refine Run.region ?_
  refine RunL.ok (OpOk.assign rfl) rfl ?_
  refine RunL.nil ?_
  refine Run.seq ?_
  refine Run.region ?_
  refine RunL.ok (OpOk.move rfl) rfl ?_
  refine RunL.ok (OpOk.move rfl) rfl ?_
  refine RunL.know (fun w s => (s.conv (frl (frl rfl))).ownRd0) (fun rdx1 => ?_)
  refine RunL.call cal105 rfl (s105b (Rd.right rdx1) (by assumption) (by assumption) (by assumption)) rfl (fun vx3 Ax3 hx3 => ?_)
  obtain ⟨x4, ⟨rfl, rfl⟩⟩ := hx3
  refine RunL.ok (OpOk.assign rfl) rfl ?_
  refine RunL.nil ?_
  refine Run.seq ?_
  refine Run.seq ?_
  refine Run.region ?_
  refine RunL.ok (OpOk.move rfl) rfl ?_
  refine RunL.ok (OpOk.asF (OpOk.eql rfl rfl) (by omega)) rfl ?_
  refine RunL.nil ?_
  refine Run.condF rfl ?_
  refine Run.skip ?_
  refine Run.seq ?_
  refine Run.seq ?_
  refine Run.region ?_
  refine RunL.ok (OpOk.move rfl) rfl ?_
  refine RunL.ok (OpOk.addN _ 1 rfl rfl rfl rfl (by omega)) rfl ?_
  refine RunL.ok (OpOk.assign rfl) rfl ?_
  refine RunL.nil ?_
  refine Run.block ?_
  refine Run.jump ((Run.loopJ (X := Nat × Nat × Asn × List Jn) (fun x => [(6, .int .i64 (x.1 : Int)), (5, .int .i64 (x.2.1 : Int)), (0, v), (1, .func (.func 69) #[] #[.pointer (some ⟨b0, 0, none⟩)])]) (fun x => A * x.2.2.1 * own 47 10 v js.length (Fl encT47 x.2.2.2) * pts b0 (.cells #[.map (some mb)] 137 (0, 0)) * setA mb ks) (fun x => x.1 ≤ js.length ∧ x.2.1 < x.1 ∧ x.2.2.2.length = js.length ∧ x.2.2.2.drop x.1 = js.drop x.1 ∧ x.2.2.2.take x.2.1 = missF ks (js.take x.1) ∧ (missF ks (js.take x.1)).length = x.2.1) (fun x => js.length - x.1) (k + 1, k, _, js) ⟨by dsimp only; omega, by dsimp only; omega, rfl, rfl, hg1.symm, hg2⟩ (fun x hx ih => ?_))) ⟨rfl, rfl, rfl, rfl, trivial⟩ (Grew.of (Eq.trans (frc rfl (frc rfl (frc (frl rfl) rfl))) (congrArg (· * _) (congrArg (· * _) (congrArg (· * _) as1)))) (Grew.refl _))
  obtain ⟨j, i, J, cur⟩ := x
  simp only at hx ih ⊢
  obtain ⟨hj, hij, hcl, hcd, hct, hcm⟩ := hx
  rcases Nat.lt_or_ge j js.length with hlt | hge
  · have hg : cur.getD j default = js.getD j default := by
      have := congrArg (fun l => l.getD 0 default) hcd
      simpa [List.getD_eq_getElem?_getD] using this
    have hmn := missF_next (ks := ks) hlt
    refine Run.seq ?_
    refine Run.seq ?_
    refine Run.region ?_
    refine RunL.ok (OpOk.move rfl) rfl ?_
    refine RunL.ok (OpOk.move rfl) rfl ?_
    refine RunL.know (fun w s => (s.conv (frl (frl rfl))).ownRd0) (fun rdy1 => ?_)
    refine RunL.ok (OpOk.lenR rfl rfl (Rd.right rdy1).left.left rfl) rfl ?_
    refine RunL.ok (OpOk.asT (OpOk.lss rfl rfl) (by omega)) rfl ?_
    refine RunL.nil ?_
    refine Run.condT rfl ?_
    refine Run.skip ?_
    refine Run.seq ?_
    refine Run.block ?_
    refine Run.seq ?_
    refine Run.region ?_
    refine RunL.ok (OpOk.move rfl) rfl ?_
    refine RunL.ok (OpOk.move rfl) rfl ?_
    refine RunL.ok (OpOk.idxN rfl ti47 rfl (Rd.right rdy1).left.left rfl (by omega)) rfl ?_
    refine RunL.ok (OpOk.loadFlE (by assumption) rfl rfl ti47 rfl (Rd.right rdy1).left.left (fun _ => rfl) rfl (by omega)) rfl ?_
    refine RunL.alloc ti47 rfl (fun by2 => ?_)
    refine RunL.storeAll ti47 rfl rfl rfl (fun w hw => OneC.one (enc := encT47) (js.getD j default) w hw) rfl rfl ?_
    refine RunL.nil ?_
    refine Run.seq ?_
    refine Run.region ?_
    refine RunL.ok (OpOk.move rfl) rfl ?_
    refine RunL.ok (OpOk.loadS rfl rfl ti47 rfl Blk.pts rfl) rfl ?_
    refine RunL.callV cal69 rfl rfl (Spec.mem (A' := A * (J * own 47 10 v js.length (Fl encT47 cur) * pts by2 (.cells (Value.agg (encT47 (js.getD j default)).toArray).cells 47 (0, 0))) * pts b0 (.cells #[.map (some mb)] 137 (0, 0)) * setA mb ks) (by ac_rfl) (s69 (b0 := b0) (mb := mb) (ks := ks) (j := js.getD j default) rfl)) rfl (fun u A' h2 => ?_)
    obtain ⟨J2, rfl, rfl⟩ := h2
    simp only [← sep_assoc]
    cases hb : isThere ks (js.getD j default) with
    | true =>
      rw [hb, if_pos rfl, List.append_nil] at hmn
      refine RunL.ok (OpOk.not rfl) rfl ?_
      refine RunL.nil ?_
      refine Run.condF rfl ?_
      refine Run.skip ?_
      refine Run.inBlock ?_
      refine Run.region ?_
      refine RunL.ok (OpOk.move rfl) rfl ?_
      refine RunL.ok (OpOk.addN _ 1 rfl rfl rfl rfl (by omega)) rfl ?_
      refine RunL.ok (OpOk.assign rfl) rfl ?_
      refine RunL.nil ?_
      refine Run.jump ((ih (j + 1, i, _, cur) ⟨by dsimp only; omega, by dsimp only; omega, hcl, by dsimp only; rw [← List.drop_drop, ← List.drop_drop, hcd], by dsimp only; rw [hmn]; exact hct, by dsimp only; rw [hmn]; exact hcm⟩ (by dsimp only; omega))) ⟨rfl, rfl, rfl, rfl, trivial⟩ (Grew.of (Eq.trans (frc rfl (frc rfl (frc (frl (frl rfl)) rfl))) (congrArg (· * _) (congrArg (· * _) (congrArg (· * _) (asg (asg as1)))))) (Grew.refl _))
    | false =>
      rw [hb, if_neg (by decide)] at hmn
      have hil : i < cur.length := by omega
      refine RunL.ok (OpOk.not rfl) rfl ?_
      refine RunL.nil ?_
      refine Run.condT rfl ?_
      refine Run.seq ?_
      refine Run.region ?_
      refine RunL.ok (OpOk.move rfl) rfl ?_
      refine RunL.ok (OpOk.move rfl) rfl ?_
      refine RunL.ok (OpOk.loadS rfl rfl ti47 rfl Blk.pts.left.left.left rfl) rfl ?_
      refine RunL.ok (OpOk.idxN rfl ti47 rfl (Rd.right rdy1).left.left.left.left rfl (by omega)) rfl ?_
      refine RunL.storeFl (enc := encT47) (js.getD j default) ti47 rfl rfl rfl (fun _ => rfl) rfl (frl (frl (frl (frl rfl)))) (by first | omega | (simp; omega)) (by omega) ?_
      refine RunL.nil ?_
      refine Run.region ?_
      refine RunL.ok (OpOk.move rfl) rfl ?_
      refine RunL.ok (OpOk.addN _ 1 rfl rfl rfl rfl (by omega)) rfl ?_
      refine RunL.ok (OpOk.assign rfl) rfl ?_
      refine RunL.nil ?_
      refine Run.inBlock ?_
      refine Run.region ?_
      refine RunL.ok (OpOk.move rfl) rfl ?_
      refine RunL.ok (OpOk.addN _ 1 rfl rfl rfl rfl (by omega)) rfl ?_
      refine RunL.ok (OpOk.assign rfl) rfl ?_
      refine RunL.nil ?_
      refine Run.jump ((ih (j + 1, i + 1, _, cur.set i (js.getD j default)) ⟨by dsimp only; omega, by dsimp only; omega, by dsimp only; rw [List.length_set]; exact hcl, by dsimp only; rw [List.drop_set_of_lt (by omega), ← List.drop_drop, ← List.drop_drop, hcd], by dsimp only; rw [hmn, ← hct, take_set_here hil], by dsimp only; rw [hmn, List.length_append, hcm]; rfl⟩ (by dsimp only; omega))) ⟨rfl, rfl, rfl, rfl, trivial⟩ (Grew.of (Eq.trans (frc (frl rfl) (frc (frl rfl) rfl)) (congrArg (· * _) (congrArg (· * _) (congrArg (· * _) (asg (asg as1)))))) (Grew.refl _))
  · obtain rfl : j = js.length := by omega
    clear ih
    rw [List.take_length] at hct hcm
    refine Run.mem (A' := A * J * pts b0 (.cells #[.map (some mb)] 137 (0, 0)) * setA mb ks * own 47 10 v js.length (Fl encT47 cur)) (by ac_rfl) ?_
    refine Run.openOwn (by omega) (fun g cap cs hv h1 h2 h3 h4 => ?_)
    subst hv
    simp only [maxLen] at h2
    have hq : i * 10 + (js.length - i) * 10 ≤ cs.length := by omega
    refine Run.seq ?_
    refine Run.seq ?_
    refine Run.region ?_
    refine RunL.ok (OpOk.move rfl) rfl ?_
    refine RunL.ok (OpOk.move rfl) rfl ?_
    refine RunL.ok (OpOk.lenV rfl rfl rfl) rfl ?_
    refine RunL.ok (OpOk.asF (OpOk.lss rfl rfl) (by omega)) rfl ?_
    refine RunL.nil ?_
    refine Run.condF rfl ?_
    refine Run.exit rfl ?_
    refine Run.seq ?_
    refine Run.region ?_
    refine RunL.ok (OpOk.move rfl) rfl ?_
    refine RunL.ok (OpOk.move rfl) rfl ?_
    refine RunL.ok (OpOk.cutCp rfl ti47 rfl ⟨_, rfl⟩ rfl (by omega) (by omega) (by omega)) rfl ?_
    refine RunL.clearAt rfl ti47 rfl rfl ⟨_, _, rfl, fun _ => by first | rfl | (rw [if_neg (by omega)])⟩ rfl rfl (by first | assumption | (simp only [List.length_append, List.length_take, List.length_drop]; omega)) (by decide) (fun zsy1 hzy1 => ?_)
    refine RunL.nil ?_
    refine Run.seq ?_
    refine Run.region ?_
    refine RunL.ok (OpOk.move rfl) rfl ?_
    refine RunL.ok (OpOk.move rfl) rfl ?_
    refine RunL.ok (OpOk.cutC0 rfl ti47 rfl ⟨_, rfl⟩ (by omega)) rfl ?_
    refine RunL.ok (OpOk.assign rfl) rfl ?_
    refine RunL.nil ?_
    refine Run.ret1 Try.func67 rfl rfl ?_
    have hz := (by assumption : List.length _ = (js.length - i) * 10)
    have e1 : (cs.take (i * 10)).length = i * 10 := by rw [List.length_take]; omega
    refine ⟨g, cap, _, J * pts b0 (.cells #[.map (some mb)] 137 (0, 0)) * setA mb ks, by rw [hcm], by ac_rfl, by omega, by simp only [maxLen]; omega, ?_, ?_⟩
    · simp only [List.length_append, List.length_take, List.length_drop, hz]
      omega
    · rw [hcm, List.take_append, e1, Nat.sub_self, List.take_zero, List.append_nil, List.take_take, Nat.min_self, ← hct, ← Fl_take (enc := encT47) (s := 10) (fun _ => rfl), ← h4, List.take_take, Nat.min_eq_left (by omega)]
theorem s67 {v : Value} {m : Nat} {js : List Jn} (hl : js.length = m) (hmx : m ≤ 1048576) :
    Spec Try.prog w0 67 [v, .func (.func 69) #[] #[.pointer (some ⟨b0, 0, none⟩)]] (A * own 47 10 v m (Fl encT47 js) * pts b0 (.cells #[.map (some mb)] 137 (0, 0)) * setA mb ks)
      (fun v' A' => ∃ J, A' = A * J * own 47 10 v' (missF ks js).length (Fl encT47 (missF ks js))) := by
  rcases first_there ks js with h | ⟨k, h1, h2, h3⟩
  · refine (deleteNone h).mono ?_
    rintro v' A' ⟨J, rfl, rfl⟩
    rw [missF_none h, hl]
    exact ⟨J, rfl⟩
  · refine Spec.ent ?_ (deleteSome hl hmx h1 h2 h3)
    rintro v' A' ⟨g, cap, cs, J, rfl, rfl, h4, h5, h6, h7⟩
    exact ⟨_, fun w hs => hs.entr (own_of_list (by rw [Fl_length (enc := encT47) (s := 10) (fun _ => rfl)]) h4 h5 h6 h7), J, rfl⟩
theorem missing_gen {u1 u2 u3 : Value} {m1 m2 m3 : Nat} {js ws : List Jn} {ps : List Po} (rd1 : Rd w0 A u1 10 m1 (Fl encT47 js)) (rd2 : Rd w0 A u2 3 m2 (Fl encT126 ps)) (rd3 : Rd w0 A u3 10 m3 (Fl encT47 ws)) (hm : m1 ≤ 1048576) :
    Spec Try.prog w0 19 [u1, u2, u3] A (fun v' A' => ∃ J, A' = A * J * own 47 10 v' (missF (ps.map keyP ++ ws.map keyJ) js).length (Fl encT47 (missF (ps.map keyP ++ ws.map keyJ) js))) := by
  have hl1 := rd1.lenFl (fun _ => rfl) (by decide)
  have hl2 := rd2.lenFl (fun _ => rfl) (by decide)
  have hl3 := rd3.lenFl (fun _ => rfl) (by decide)
  subst hl1 hl2 hl3
  have hx2 := rd2.max
  have hx3 := rd3.max
  refine Spec.of_run [(0, u1), (1, u2), (2, u3)] Try.func19 rfl (Nat.le_of_ble_eq_true rfl) (by repeat (first | exact trivial | refine ⟨rfl, ?_⟩)) ?_
  refine Run.seq ?_
  refine Run.region ?_
  refine RunL.ok (OpOk.assign rfl) rfl ?_
  refine RunL.nil ?_
  refine Run.seq ?_
  refine Run.region ?_
  refine RunL.makeS rfl (fun bx1 => ?_)
  refine RunL.alloc ti137 rfl (fun bx2 => ?_)
  refine RunL.store ti137 rfl rfl rfl rfl (by exact Nat.le_of_ble_eq_true rfl) (.inl rfl) ?_
  refine RunL.nil ?_
  refine Run.seq ?_
  refine Run.seq ?_
  refine Run.region ?_
  refine RunL.ok (OpOk.move rfl) rfl ?_
  refine RunL.ok (OpOk.lenR rfl rfl rd2.left.left rfl) rfl ?_
  refine RunL.ok (OpOk.move rfl) rfl ?_
  refine RunL.nil ?_
  refine Run.block ?_
  refine Run.mem (A' := A * emp * pts bx2 (.cells #[.map (some bx1)] 137 (0, 0)) * setA bx1 []) (by rw [sep_emp]; show A * setA bx1 [] * pts bx2 (.cells #[.map (some bx1)] 137 (0, 0)) = _; ac_rfl) ?_
  refine Run.jump ((Run.loopJ (X := Nat × Asn) (fun x => [(15, .int .i64 (x.1 : Int)), (14, .int .i64 (ps.length : Int)), (13, u2), (7, .pointer (some ⟨bx2, 0, none⟩)), (0, u1), (2, u3)]) (fun x => A * x.2 * pts bx2 (.cells #[.map (some bx1)] 137 (0, 0)) * setA bx1 ((ps.take x.1).map keyP)) (fun x => x.1 ≤ ps.length) (fun x => ps.length - x.1) (0, _) (Nat.zero_le _) (fun x hx ih => ?_))) ⟨rfl, rfl, rfl, rfl, rfl, rfl, trivial⟩ (Grew.of (Eq.trans (frc rfl rfl) (congrArg (· * _) (congrArg (· * _) as1))) (Grew.refl _))
  obtain ⟨i, J⟩ := x
  simp only at hx ih ⊢
  rcases Nat.lt_or_ge i ps.length with hlt | hge
  · have hone : ∀ w ∈ (Value.agg (encT126 (ps.getD i default)).toArray).cells.toList, w.oneCell' = true := fun w hw => OneC.one (enc := encT126) _ w hw
    have e : (ps.take (i + 1)).map keyP = (ps.take i).map keyP ++ [((ps.getD i default).1, (ps.getD i default).2.1)] := by rw [take_next hlt, List.map_append]; rfl
    refine Run.seq ?_
    refine Run.region ?_
    refine RunL.ok (OpOk.asT (OpOk.lss rfl rfl) (by omega)) rfl ?_
    refine RunL.nil ?_
    refine Run.seq ?_
    refine Run.condT rfl ?_
    refine Run.skip ?_
    refine Run.seq ?_
    refine Run.block ?_
    refine Run.seq ?_
    refine Run.region ?_
    refine RunL.ok (OpOk.idxN rfl ti126 rfl rd2.left.left.left rfl (by omega)) rfl ?_
    refine RunL.ok (OpOk.loadFl default rfl rfl ti126 rfl rd2.left.left.left (fun _ => rfl) rfl (by omega)) rfl ?_
    refine RunL.alloc ti126 rfl (fun by1 => ?_)
    refine RunL.storeAll ti126 rfl rfl rfl (fun w hw => OneC.one (enc := encT126) (ps.getD i default) w hw) rfl rfl ?_
    refine RunL.nil ?_
    refine Run.region ?_
    refine RunL.ok (OpOk.load rfl rfl rfl (Blk.out Blk.pts.left.left _ _ (by first | rfl | assumption))) rfl ?_
    refine RunL.ok (OpOk.fieldAddr fld126_0 rfl) rfl ?_
    refine RunL.ok (OpOk.load rfl rfl rfl (Blk.out Blk.pts _ _ (by first | rfl | assumption))) rfl ?_
    refine RunL.ok (OpOk.fieldAddr fld126_1 rfl) rfl ?_
    refine RunL.ok (OpOk.load rfl rfl rfl (Blk.out Blk.pts _ _ (by first | rfl | assumption))) rfl ?_
    refine RunL.ok (OpOk.build (cells := #[.int (IntKind.i64) ((ps.getD i default).fst), .int (IntKind.i64) ((ps.getD i default).snd.fst)]) rfl (fun w => run_build w 139 _ _ (by rfl))) rfl ?_
    refine RunL.putS setT137 rfl rfl rfl (frl rfl) ?_
    refine RunL.nil ?_
    refine Run.inBlock ?_
    refine Run.region ?_
    refine RunL.ok (OpOk.addN _ 1 rfl rfl rfl rfl (by omega)) rfl ?_
    refine RunL.ok (OpOk.move rfl) rfl ?_
    refine RunL.nil ?_
    rw [← e]
    refine Run.jump ((ih (i + 1, _) (by dsimp only; omega) (by dsimp only; omega))) ⟨rfl, rfl, rfl, rfl, rfl, rfl, trivial⟩ (Grew.of (Eq.trans (frc rfl (frc (frl rfl) rfl)) (congrArg (· * _) (congrArg (· * _) (asg as1)))) (Grew.refl _))
  · obtain rfl : i = ps.length := by omega
    clear ih
    rw [List.take_length]
    refine Run.seq ?_
    refine Run.region ?_
    refine RunL.ok (OpOk.asF (OpOk.lss rfl rfl) (by omega)) rfl ?_
    refine RunL.nil ?_
    refine Run.seq ?_
    refine Run.condF rfl ?_
    refine Run.exit rfl ?_
    refine Run.seq ?_
    refine Run.seq ?_
    refine Run.region ?_
    refine RunL.ok (OpOk.move rfl) rfl ?_
    refine RunL.ok (OpOk.lenR rfl rfl rd3.left.left.left rfl) rfl ?_
    refine RunL.ok (OpOk.move rfl) rfl ?_
    refine RunL.nil ?_
    refine Run.block ?_
    refine Run.mem (A' := A * J * pts bx2 (.cells #[.map (some bx1)] 137 (0, 0)) * setA bx1 (ps.map keyP ++ (ws.take 0).map keyJ)) (by rw [List.take_zero, List.map_nil, List.append_nil]) ?_
    refine Run.jump ((Run.loopJ (X := Nat × Asn) (fun x => [(28, .int .i64 (x.1 : Int)), (27, .int .i64 (ws.length : Int)), (26, u3), (7, .pointer (some ⟨bx2, 0, none⟩)), (0, u1)]) (fun x => A * x.2 * pts bx2 (.cells #[.map (some bx1)] 137 (0, 0)) * setA bx1 (ps.map keyP ++ (ws.take x.1).map keyJ)) (fun x => x.1 ≤ ws.length) (fun x => ws.length - x.1) (0, _) (Nat.zero_le _) (fun x hx ih => ?_))) ⟨rfl, rfl, rfl, rfl, rfl, trivial⟩ (Grew.of (congrArg (· * _) (congrArg (· * _) as1)) (Grew.refl _))
    obtain ⟨i, J⟩ := x
    simp only at hx ih ⊢
    rcases Nat.lt_or_ge i ws.length with hlt | hge
    · have hone : ∀ w ∈ (Value.agg (encT47 (ws.getD i default)).toArray).cells.toList, w.oneCell' = true := fun w hw => OneC.one (enc := encT47) _ w hw
      have e : ps.map keyP ++ (ws.take (i + 1)).map keyJ = ps.map keyP ++ (ws.take i).map keyJ ++ [((ws.getD i default).1, (ws.getD i default).2.1)] := by rw [take_next hlt, List.map_append, List.append_assoc]; rfl
      refine Run.seq ?_
      refine Run.region ?_
      refine RunL.ok (OpOk.asT (OpOk.lss rfl rfl) (by omega)) rfl ?_
      refine RunL.nil ?_
      refine Run.seq ?_
      refine Run.condT rfl ?_
      refine Run.skip ?_
      refine Run.seq ?_
      refine Run.block ?_
      refine Run.seq ?_
      refine Run.region ?_
      refine RunL.ok (OpOk.idxN rfl ti47 rfl rd3.left.left.left rfl (by omega)) rfl ?_
      refine RunL.ok (OpOk.loadFl default rfl rfl ti47 rfl rd3.left.left.left (fun _ => rfl) rfl (by omega)) rfl ?_
      refine RunL.alloc ti47 rfl (fun bz1 => ?_)
      refine RunL.storeAll ti47 rfl rfl rfl (fun w hw => OneC.one (enc := encT47) (ws.getD i default) w hw) rfl rfl ?_
      refine RunL.nil ?_
      refine Run.region ?_
      refine RunL.ok (OpOk.load rfl rfl rfl (Blk.out Blk.pts.left.left _ _ (by first | rfl | assumption))) rfl ?_
      refine RunL.ok (OpOk.fieldAddr fld47_0 rfl) rfl ?_
      refine RunL.ok (OpOk.load rfl rfl rfl (Blk.out Blk.pts _ _ (by first | rfl | assumption))) rfl ?_
      refine RunL.ok (OpOk.fieldAddr fld47_1 rfl) rfl ?_
      refine RunL.ok (OpOk.load rfl rfl rfl (Blk.out Blk.pts _ _ (by first | rfl | assumption))) rfl ?_
      refine RunL.ok (OpOk.build (cells := #[.int (IntKind.i64) ((ws.getD i default).fst), .int (IntKind.i64) ((ws.getD i default).snd.fst)]) rfl (fun w => run_build w 139 _ _ (by rfl))) rfl ?_
      refine RunL.putS setT137 rfl rfl rfl (frl rfl) ?_
      refine RunL.nil ?_
      refine Run.inBlock ?_
      refine Run.region ?_
      refine RunL.ok (OpOk.addN _ 1 rfl rfl rfl rfl (by omega)) rfl ?_
      refine RunL.ok (OpOk.move rfl) rfl ?_
      refine RunL.nil ?_
      rw [← e]
      refine Run.jump ((ih (i + 1, _) (by dsimp only; omega) (by dsimp only; omega))) ⟨rfl, rfl, rfl, rfl, rfl, trivial⟩ (Grew.of (Eq.trans (frc rfl (frc (frl rfl) rfl)) (congrArg (· * _) (congrArg (· * _) (asg as1)))) (Grew.refl _))
    · obtain rfl : i = ws.length := by omega
      clear ih
      rw [List.take_length]
      refine Run.seq ?_
      refine Run.region ?_
      refine RunL.ok (OpOk.asF (OpOk.lss rfl rfl) (by omega)) rfl ?_
      refine RunL.nil ?_
      refine Run.seq ?_
      refine Run.condF rfl ?_
      refine Run.exit rfl ?_
      refine Run.seq ?_
      refine Run.region ?_
      refine RunL.ok (OpOk.move rfl) rfl ?_
      refine RunL.call cal68 rfl (s68 rd1.left.left.left (by assumption)) rfl (fun vz1 Az1 hz1 => ?_)
      obtain rfl := hz1
      refine RunL.ok (OpOk.makeFunc rfl rfl) rfl ?_
      refine RunL.know (fun w s => (s.conv rfl).ownRd0) (fun rdz2 => ?_)
      refine RunL.mem (frc (frl rfl) (frc (frl rfl) (frc rfl rfl))) ?_
      refine RunL.call cal67 rfl (s67 rfl (by assumption)) rfl (fun vz3 Az3 hz3 => ?_)
      obtain ⟨z4, rfl⟩ := hz3
      refine RunL.ok (OpOk.assign rfl) rfl ?_
      refine RunL.nil ?_
      refine Run.ret1 Try.func19 rfl rfl ?_
      exact ⟨_, (congrArg (· * _) (asg as1))⟩
/-- The keys of these postings. -/
structure KeysAre (ps : List Po) (K : List (Int × Int)) : Prop where
  out : ps.map keyP = K
theorem s19 {u1 u2 u3 : Value} {m1 m2 m3 : Nat} {js ws : List Jn} {ps : List Po} {K : List (Int × Int)} (rd1 : Rd w0 A u1 10 m1 (Fl encT47 js)) (rd2 : Rd w0 A u2 3 m2 (Fl encT126 ps)) (rd3 : Rd w0 A u3 10 m3 (Fl encT47 ws)) (hm : m1 ≤ 1048576) (hk : KeysAre ps K) :
    Spec Try.prog w0 19 [u1, u2, u3] A (fun v' A' => ∃ J, A' = A * J * own 47 10 v' (missF (K ++ ws.map keyJ) js).length (Fl encT47 (missF (K ++ ws.map keyJ) js))) := by
  obtain ⟨rfl⟩ := hk
  exact missing_gen rd1 rd2 rd3 hm
theorem s19a {u1 u2 : Value} {m1 m2 : Nat} {js : List Jn} {ps : List Po} {K : List (Int × Int)} (rd1 : Rd w0 A u1 10 m1 (Fl encT47 js)) (rd2 : Rd w0 A u2 3 m2 (Fl encT126 ps)) (hm : m1 ≤ 1048576) (hk : KeysAre ps K) :
    Spec Try.prog w0 19 [u1, u2, .slice none 0 0] A (fun v' A' => ∃ J, A' = A * J * own 47 10 v' (missF K js).length (Fl encT47 (missF K js))) := by
  have h := s19 (ws := []) (m3 := 0) rd1 rd2 (Rd.nil 10) hm hk
  rw [List.map_nil, List.append_nil] at h
  exact h
end
end Go.Proofs.Yteopadjihklkmaa
