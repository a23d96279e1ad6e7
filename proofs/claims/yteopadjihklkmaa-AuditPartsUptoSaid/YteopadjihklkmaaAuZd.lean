/- The document's Missing. -/
import Derived.Test.YteopadjihklkmaaAuZc
namespace Go.Proofs.Yteopadjihklkmaa
open Go Go.Proofs
set_option maxRecDepth 100000
set_option maxHeartbeats 4000000
set_option linter.unusedSimpArgs false
section
variable {w0 : World} {A : Asn}
theorem s70 {u : Value} {m : Nat} {op seq : Int} {l : List Po} (rd : Rd w0 A u 3 m (Fl encT126 l)) : Spec Try.prog w0 70 [u, .int .i64 op, .int .i64 seq] A (fun v' A' => v' = .bool (decide ((op, seq) ∈ l.map keyP)) ∧ A' = A) := by
  have hl0 := rd.lenFl (fun _ => rfl) (by decide)
  subst hl0
  have hmx := rd.max
  refine Spec.of_run [(0, u), (1, .int .i64 op), (2, .int .i64 seq)] Try.func70 rfl (Nat.le_of_ble_eq_true rfl) (by repeat (first | exact trivial | refine ⟨rfl, ?_⟩)) ?_
  refine Run.seq ?_
  refine Run.region ?_
  refine RunL.ok (OpOk.assign rfl) rfl ?_
  refine RunL.nil ?_
  refine Run.seq ?_
  refine Run.seq ?_
  refine Run.region ?_
  refine RunL.ok (OpOk.assign rfl) rfl ?_
  refine RunL.nil ?_
  refine Run.block ?_
  refine Run.jump ((Run.loopJ (X := Nat) (fun i => [(7, .int .i64 (i : Int)), (0, u), (1, .int .i64 op), (2, .int .i64 seq)]) (fun _ => A) (fun i => i ≤ l.length ∧ (op, seq) ∉ (l.take i).map keyP) (fun i => l.length - i) 0 ⟨Nat.zero_le _, by simp⟩ (fun i hi ih => ?_))) ⟨rfl, rfl, rfl, rfl, trivial⟩ ((Grew.refl _))
  obtain ⟨hi, hn⟩ := hi
  rcases Nat.lt_or_ge i l.length with hlt | hge
  · rcases Decidable.em ((l.getD i default).1 = op ∧ (l.getD i default).2.1 = seq) with hc | hc
    · have hin : (op, seq) ∈ l.map keyP := List.mem_map.2 ⟨_, getD_mem hlt, by rw [keyP, hc.1, hc.2]⟩
      rw [decide_eq_true hin]
      obtain ⟨hc1, hc2⟩ := hc
      refine Run.seq ?_
      refine Run.seq ?_
      refine Run.region ?_
      refine RunL.ok (OpOk.move rfl) rfl ?_
      refine RunL.ok (OpOk.move rfl) rfl ?_
      refine RunL.ok (OpOk.lenR rfl rfl rd rfl) rfl ?_
      refine RunL.ok (OpOk.asT (OpOk.lss rfl rfl) (by omega)) rfl ?_
      refine RunL.nil ?_
      refine Run.condT rfl ?_
      refine Run.skip ?_
      refine Run.seq ?_
      refine Run.block ?_
      refine Run.seq ?_
      refine Run.region ?_
      refine RunL.ok (OpOk.move rfl) rfl ?_
      refine RunL.ok (OpOk.move rfl) rfl ?_
      refine RunL.ok (OpOk.idxN rfl ti126 rfl rd rfl (by omega)) rfl ?_
      refine RunL.ok (OpOk.fieldAddrA fld126_0 rfl) rfl ?_
      refine RunL.ok (OpOk.loadFl1 default rfl rfl rfl rd (fun _ => rfl) rfl (by omega) rfl) rfl ?_
      refine RunL.ok (OpOk.move rfl) rfl ?_
      refine RunL.ok (OpOk.asT (OpOk.eql rfl rfl) (by omega)) rfl ?_
      refine RunL.ok (OpOk.move rfl) rfl ?_
      refine RunL.on rfl rfl ?_
      refine RunL.ok (OpOk.move rfl) rfl ?_
      refine RunL.on rfl rfl ?_
      refine RunL.ok (OpOk.move rfl) rfl ?_
      refine RunL.on rfl rfl ?_
      refine RunL.ok (OpOk.idxN rfl ti126 rfl rd rfl (by omega)) rfl ?_
      refine RunL.on rfl rfl ?_
      refine RunL.ok (OpOk.fieldAddrA fld126_1 rfl) rfl ?_
      refine RunL.on rfl rfl ?_
      refine RunL.ok (OpOk.loadFl1 default rfl rfl rfl rd (fun _ => rfl) rfl (by omega) rfl) rfl ?_
      refine RunL.on rfl rfl ?_
      refine RunL.ok (OpOk.move rfl) rfl ?_
      refine RunL.on rfl rfl ?_
      refine RunL.ok (OpOk.asT (OpOk.eql rfl rfl) (by omega)) rfl ?_
      refine RunL.ok (OpOk.pickT rfl rfl) rfl ?_
      refine RunL.nil ?_
      refine Run.condT rfl ?_
      refine Run.seq ?_
      refine Run.region ?_
      refine RunL.ok (OpOk.assign rfl) rfl ?_
      refine RunL.nil ?_
      refine Run.ret1 Try.func70 rfl rfl ?_
      exact ⟨rfl, rfl⟩
    · have hn2 : (op, seq) ∉ (l.take (i + 1)).map keyP := by
        rw [take_next hlt, List.map_append, List.mem_append, not_or]
        refine ⟨hn, fun h => hc ?_⟩
        simp only [List.map_cons, List.map_nil, List.mem_singleton, keyP, Prod.mk.injEq] at h
        exact ⟨h.1.symm, h.2.symm⟩
      refine Run.seq ?_
      refine Run.seq ?_
      refine Run.region ?_
      refine RunL.ok (OpOk.move rfl) rfl ?_
      refine RunL.ok (OpOk.move rfl) rfl ?_
      refine RunL.ok (OpOk.lenR rfl rfl rd rfl) rfl ?_
      refine RunL.ok (OpOk.asT (OpOk.lss rfl rfl) (by omega)) rfl ?_
      refine RunL.nil ?_
      refine Run.condT rfl ?_
      refine Run.skip ?_
      refine Run.seq ?_
      refine Run.block ?_
      refine Run.seq ?_
      refine Run.region ?_
      refine RunL.ok (OpOk.move rfl) rfl ?_
      refine RunL.ok (OpOk.move rfl) rfl ?_
      refine RunL.ok (OpOk.idxN rfl ti126 rfl rd rfl (by omega)) rfl ?_
      refine RunL.ok (OpOk.fieldAddrA fld126_0 rfl) rfl ?_
      refine RunL.ok (OpOk.loadFl1 default rfl rfl rfl rd (fun _ => rfl) rfl (by omega) rfl) rfl ?_
      refine RunL.ok (OpOk.move rfl) rfl ?_
      refine RunL.ok (OpOk.eql rfl rfl) rfl ?_
      refine RunL.ok (OpOk.move rfl) rfl ?_
      refine RunL.splitD (t := 21) rfl (fun y1 => ?_) (fun y1 => ?_)
      · refine RunL.on rfl rfl ?_
        refine RunL.ok (OpOk.move rfl) rfl ?_
        refine RunL.on rfl rfl ?_
        refine RunL.ok (OpOk.move rfl) rfl ?_
        refine RunL.on rfl rfl ?_
        refine RunL.ok (OpOk.idxN rfl ti126 rfl rd rfl (by omega)) rfl ?_
        refine RunL.on rfl rfl ?_
        refine RunL.ok (OpOk.fieldAddrA fld126_1 rfl) rfl ?_
        refine RunL.on rfl rfl ?_
        refine RunL.ok (OpOk.loadFl1 default rfl rfl rfl rd (fun _ => rfl) rfl (by omega) rfl) rfl ?_
        refine RunL.on rfl rfl ?_
        refine RunL.ok (OpOk.move rfl) rfl ?_
        refine RunL.on rfl rfl ?_
        refine RunL.ok (OpOk.asF (OpOk.eql rfl rfl) (by omega)) rfl ?_
        refine RunL.ok (OpOk.pickT rfl rfl) rfl ?_
        refine RunL.nil ?_
        refine Run.condF rfl ?_
        refine Run.skip ?_
        refine Run.inBlock ?_
        refine Run.region ?_
        refine RunL.ok (OpOk.move rfl) rfl ?_
        refine RunL.ok (OpOk.addN _ 1 rfl rfl rfl rfl (by omega)) rfl ?_
        refine RunL.ok (OpOk.assign rfl) rfl ?_
        refine RunL.nil ?_
        first | exact absurd ⟨by assumption, by assumption⟩ hc | skip
        refine Run.jump ((ih (i + 1) ⟨by omega, hn2⟩ (by omega))) ⟨rfl, rfl, rfl, rfl, trivial⟩ ((Grew.refl _))
      refine RunL.off rfl rfl rfl rfl ?_
      refine RunL.off rfl rfl rfl rfl ?_
      refine RunL.off rfl rfl rfl rfl ?_
      refine RunL.off rfl rfl rfl rfl ?_
      refine RunL.off rfl rfl rfl rfl ?_
      refine RunL.off rfl rfl rfl rfl ?_
      refine RunL.off rfl rfl rfl rfl ?_
      refine RunL.ok (OpOk.pickF rfl rfl) rfl ?_
      refine RunL.nil ?_
      refine Run.condF rfl ?_
      refine Run.skip ?_
      refine Run.inBlock ?_
      refine Run.region ?_
      refine RunL.ok (OpOk.move rfl) rfl ?_
      refine RunL.ok (OpOk.addN _ 1 rfl rfl rfl rfl (by omega)) rfl ?_
      refine RunL.ok (OpOk.assign rfl) rfl ?_
      refine RunL.nil ?_
      first | exact absurd ⟨by assumption, by assumption⟩ hc | skip
      refine Run.jump ((ih (i + 1) ⟨by omega, hn2⟩ (by omega))) ⟨rfl, rfl, rfl, rfl, trivial⟩ ((Grew.refl _))
  · obtain rfl : i = l.length := by omega
    clear ih
    rw [List.take_length] at hn
    rw [decide_eq_false hn]
    refine Run.seq ?_
    refine Run.seq ?_
    refine Run.region ?_
    refine RunL.ok (OpOk.move rfl) rfl ?_
    refine RunL.ok (OpOk.move rfl) rfl ?_
    refine RunL.ok (OpOk.lenR rfl rfl rd rfl) rfl ?_
    refine RunL.ok (OpOk.asF (OpOk.lss rfl rfl) (by omega)) rfl ?_
    refine RunL.nil ?_
    refine Run.condF rfl ?_
    refine Run.exit rfl ?_
    refine Run.seq ?_
    refine Run.region ?_
    refine RunL.ok (OpOk.assign rfl) rfl ?_
    refine RunL.nil ?_
    refine Run.ret1 Try.func70 rfl rfl ?_
    exact ⟨rfl, rfl⟩
theorem s22 {u1 u2 u3 : Value} {m1 m2 m3 : Nat} {js ws : List Jn} {ps : List Po} (rd1 : Rd w0 A u1 10 m1 (Fl encT47 js)) (rd2 : Rd w0 A u2 3 m2 (Fl encT126 ps)) (rd3 : Rd w0 A u3 10 m3 (Fl encT47 ws)) (hm : m1 ≤ 1048576) :
    Spec Try.prog w0 22 [u1, u2, u3] A (fun v' A' => ∃ J, A' = A * J * own 47 10 v' (missF (ps.map keyP ++ ws.map keyJ) js).length (Fl encT47 (missF (ps.map keyP ++ ws.map keyJ) js))) := by
  have hl1 := rd1.lenFl (fun _ => rfl) (by decide)
  have hl2 := rd2.lenFl (fun _ => rfl) (by decide)
  have hl3 := rd3.lenFl (fun _ => rfl) (by decide)
  subst hl1 hl2 hl3
  have hx1 := rd1.max
  have hx3 := rd3.max
  refine Spec.of_run [(0, u1), (1, u2), (2, u3)] Try.func22 rfl (Nat.le_of_ble_eq_true rfl) (by repeat (first | exact trivial | refine ⟨rfl, ?_⟩)) ?_
  refine Run.seq ?_
  refine Run.region ?_
  refine RunL.ok (OpOk.assign rfl) rfl ?_
  refine RunL.nil ?_
  refine Run.seq ?_
  refine Run.region ?_
  refine RunL.ok (OpOk.assign rfl) rfl ?_
  refine RunL.nil ?_
  refine Run.seq ?_
  refine Run.seq ?_
  refine Run.region ?_
  refine RunL.ok (OpOk.assign rfl) rfl ?_
  refine RunL.nil ?_
  refine Run.block ?_
  refine Run.ent (Ent.ownNil' _ 47 10 (Fl encT47 ([] : List Jn)) rfl) ?_
  refine Run.mem (congrArg (· * _) (sep_emp _).symm) ?_
  refine Run.jump ((Run.loopJ (X := Nat × Asn × Value × List Jn) (fun x => [(8, .int .i64 (x.1 : Int)), (7, x.2.2.1), (0, u1), (1, u2), (2, u3)]) (fun x => A * x.2.1 * own 47 10 x.2.2.1 x.2.2.2.length (Fl encT47 x.2.2.2)) (fun x => x.1 ≤ js.length ∧ x.2.2.2 = missF (ps.map keyP ++ ws.map keyJ) (js.take x.1)) (fun x => js.length - x.1) (0, _, .slice none 0 0, []) ⟨Nat.zero_le _, by simp [missF]⟩ (fun x hx ih => ?_))) ⟨rfl, rfl, rfl, rfl, rfl, trivial⟩ (Grew.of (Eq.trans (frc rfl rfl) (congrArg (· * _) as1)) (Grew.refl _))
  obtain ⟨i, J, v7, out⟩ := x
  simp only at hx ih ⊢
  obtain ⟨hi, hout⟩ := hx
  have hol := missF_len (ps.map keyP ++ ws.map keyJ) (js.take i)
  rw [← hout, List.length_take] at hol
  rcases Nat.lt_or_ge i js.length with hlt | hge
  · have hmn := missF_next (ks := ps.map keyP ++ ws.map keyJ) hlt
    rw [← hout] at hmn
    refine Run.seq ?_
    refine Run.seq ?_
    refine Run.region ?_
    refine RunL.ok (OpOk.move rfl) rfl ?_
    refine RunL.ok (OpOk.move rfl) rfl ?_
    refine RunL.ok (OpOk.lenR rfl rfl rd1.left.left rfl) rfl ?_
    refine RunL.ok (OpOk.asT (OpOk.lss rfl rfl) (by omega)) rfl ?_
    refine RunL.nil ?_
    refine Run.condT rfl ?_
    refine Run.skip ?_
    refine Run.seq ?_
    refine Run.block ?_
    refine Run.seq ?_
    refine Run.know (fun w s => (s.conv rfl).ownRd0) (fun rdy1 => ?_)
    (apply Run.drawD [] (by rfl) (sep_emp _).symm; case hchk => kernel_rfl)
    refine Sd.quiet 0 _ _ rfl rfl rfl rfl rfl (QOp.ok (fun X => OpOk.move rfl)) ?_
    refine Sd.quiet 1 _ _ rfl rfl rfl rfl rfl (QOp.ok (fun X => OpOk.move rfl)) ?_
    refine Sd.quiet 2 _ _ rfl rfl rfl rfl rfl (QOp.ok (fun X => OpOk.move rfl)) ?_
    refine Sd.quiet 3 _ _ rfl rfl rfl rfl rfl (QOp.ok (fun X => OpOk.idxN rfl ti47 rfl rd1.left.left.left.left rfl (by omega))) ?_
    refine Sd.quiet 4 _ _ rfl rfl rfl rfl rfl (QOp.ok (fun X => OpOk.fieldAddrA fld47_0 rfl)) ?_
    refine Sd.quiet 5 _ _ rfl rfl rfl rfl rfl (QOp.ok (fun X => OpOk.loadFl1 default rfl rfl rfl rd1.left.left.left.left (fun _ => rfl) rfl (by omega) rfl)) ?_
    refine Sd.quiet 6 _ _ rfl rfl rfl rfl rfl (QOp.ok (fun X => OpOk.move rfl)) ?_
    refine Sd.quiet 7 _ _ rfl rfl rfl rfl rfl (QOp.ok (fun X => OpOk.move rfl)) ?_
    refine Sd.quiet 8 _ _ rfl rfl rfl rfl rfl (QOp.ok (fun X => OpOk.idxN rfl ti47 rfl rd1.left.left.left.left rfl (by omega))) ?_
    refine Sd.quiet 9 _ _ rfl rfl rfl rfl rfl (QOp.ok (fun X => OpOk.fieldAddrA fld47_1 rfl)) ?_
    refine Sd.quiet 10 _ _ rfl rfl rfl rfl rfl (QOp.ok (fun X => OpOk.loadFl1 default rfl rfl rfl rd1.left.left.left.left (fun _ => rfl) rfl (by omega) rfl)) ?_
    refine Sd.quiet 11 _ _ rfl rfl rfl rfl rfl (QOp.call cal70 rfl (fun X => s70 rd2.left.left.left.left)) ?_
    refine Sd.quiet 12 _ _ rfl rfl rfl rfl rfl (QOp.ok (fun X => OpOk.assign rfl)) ?_
    (apply Sd.tail; case hall => kernel_rfl)
    refine RunL.mem (fl2 (sep_emp _) (sep_emp _)) ?_
    refine RunL.nil ?_
    refine Run.seq ?_
    refine Run.seq ?_
    refine Run.region ?_
    refine RunL.ok (OpOk.assign rfl) rfl ?_
    refine RunL.nil ?_
    refine Run.block ?_
    refine Run.jump ((Run.loopJ (X := Nat × Bool) (fun x => [(10, .int .i64 (x.1 : Int)), (9, .bool x.2), (8, .int .i64 (i : Int)), (7, v7), (0, u1), (1, u2), (2, u3)]) (fun _ => A * J * own 47 10 v7 out.length (Fl encT47 out)) (fun x => x.1 ≤ ws.length ∧ x.2 = decide (((js.getD i default).1, (js.getD i default).2.1) ∈ ps.map keyP ++ (ws.take x.1).map keyJ)) (fun x => ws.length - x.1) (0, decide (((js.getD i default).1, (js.getD i default).2.1) ∈ ps.map keyP)) ⟨Nat.zero_le _, by dsimp only; rw [List.take_zero, List.map_nil, List.append_nil]⟩ (fun x hx ih2 => ?_))) ⟨rfl, rfl, rfl, rfl, rfl, rfl, rfl, trivial⟩ ((Grew.refl _))
    obtain ⟨k, t⟩ := x
    simp only at hx ih2 ⊢
    obtain ⟨hk, htt⟩ := hx
    rcases Nat.lt_or_ge k ws.length with hkt | hkg
    · have e : ps.map keyP ++ (ws.take (k + 1)).map keyJ = ps.map keyP ++ (ws.take k).map keyJ ++ [((ws.getD k default).1, (ws.getD k default).2.1)] := by rw [take_next hkt, List.map_append, List.append_assoc]; rfl
      cases t with
      | true =>
        have e2 : true = decide (((js.getD i default).1, (js.getD i default).2.1) ∈ ps.map keyP ++ (ws.take (k + 1)).map keyJ) := by
          rw [e]
          exact (decide_eq_true (List.mem_append.2 (.inl (of_decide_eq_true htt.symm)))).symm
        refine Run.seq ?_
        refine Run.seq ?_
        refine Run.region ?_
        refine RunL.ok (OpOk.move rfl) rfl ?_
        refine RunL.ok (OpOk.move rfl) rfl ?_
        refine RunL.ok (OpOk.lenR rfl rfl rd3.left.left rfl) rfl ?_
        refine RunL.ok (OpOk.asT (OpOk.lss rfl rfl) (by omega)) rfl ?_
        refine RunL.nil ?_
        refine Run.condT rfl ?_
        refine Run.skip ?_
        refine Run.seq ?_
        refine Run.block ?_
        (apply Run.drawD [27] (by rfl) (sep_emp _).symm; case hchk => kernel_rfl)
        refine Sd.quiet 0 _ _ rfl rfl rfl rfl rfl (QOp.ok (fun X => OpOk.move rfl)) ?_
        refine Sd.quiet 1 _ _ rfl rfl rfl rfl rfl (QOp.ok (fun X => OpOk.move rfl)) ?_
        refine Sd.skip 2 _ rfl rfl rfl rfl rfl ?_
        refine Sd.skip 3 _ rfl rfl rfl rfl rfl ?_
        refine Sd.skip 4 _ rfl rfl rfl rfl rfl ?_
        refine Sd.skip 5 _ rfl rfl rfl rfl rfl ?_
        refine Sd.skip 6 _ rfl rfl rfl rfl rfl ?_
        refine Sd.skip 7 _ rfl rfl rfl rfl rfl ?_
        refine Sd.skip 8 _ rfl rfl rfl rfl rfl ?_
        refine Sd.skip 9 _ rfl rfl rfl rfl rfl ?_
        refine Sd.skip 10 _ rfl rfl rfl rfl rfl ?_
        refine Sd.skip 11 _ rfl rfl rfl rfl rfl ?_
        refine Sd.skip 12 _ rfl rfl rfl rfl rfl ?_
        refine Sd.skip 13 _ rfl rfl rfl rfl rfl ?_
        refine Sd.skip 14 _ rfl rfl rfl rfl rfl ?_
        refine Sd.skip 15 _ rfl rfl rfl rfl rfl ?_
        refine Sd.skip 16 _ rfl rfl rfl rfl rfl ?_
        refine Sd.skip 17 _ rfl rfl rfl rfl rfl ?_
        refine Sd.skip 18 _ rfl rfl rfl rfl rfl ?_
        refine Sd.skip 19 _ rfl rfl rfl rfl rfl ?_
        refine Sd.skip 20 _ rfl rfl rfl rfl rfl ?_
        refine Sd.skip 21 _ rfl rfl rfl rfl rfl ?_
        refine Sd.skip 22 _ rfl rfl rfl rfl rfl ?_
        refine Sd.skip 23 _ rfl rfl rfl rfl rfl ?_
        refine Sd.skip 24 _ rfl rfl rfl rfl rfl ?_
        refine Sd.skip 25 _ rfl rfl rfl rfl rfl ?_
        refine Sd.quiet 26 _ _ rfl rfl rfl rfl rfl (QOp.ok (fun X => OpOk.pickT rfl rfl)) ?_
        (apply Sd.tail; case hall => kernel_rfl)
        refine RunL.mem (fl2 (sep_emp _) (sep_emp _)) ?_
        refine RunL.ok (OpOk.assign rfl) rfl ?_
        refine RunL.nil ?_
        refine Run.inBlock ?_
        refine Run.region ?_
        refine RunL.ok (OpOk.move rfl) rfl ?_
        refine RunL.ok (OpOk.addN _ 1 rfl rfl rfl rfl (by omega)) rfl ?_
        refine RunL.ok (OpOk.assign rfl) rfl ?_
        refine RunL.nil ?_
        refine Run.jump ((ih2 (k + 1, true) ⟨by dsimp only; omega, e2⟩ (by dsimp only; omega))) ⟨rfl, rfl, rfl, rfl, rfl, rfl, rfl, trivial⟩ ((Grew.refl _))
      | false =>
        have hn := of_decide_eq_false htt.symm
        rcases Decidable.em ((ws.getD k default).1 = (js.getD i default).1 ∧ (ws.getD k default).2.1 = (js.getD i default).2.1) with hc | hc
        · have e2 : true = decide (((js.getD i default).1, (js.getD i default).2.1) ∈ ps.map keyP ++ (ws.take (k + 1)).map keyJ) := by
            rw [e, hc.1, hc.2]
            exact (decide_eq_true (List.mem_append.2 (.inr (List.mem_singleton.2 rfl)))).symm
          obtain ⟨hc1, hc2⟩ := hc
          refine Run.seq ?_
          refine Run.seq ?_
          refine Run.region ?_
          refine RunL.ok (OpOk.move rfl) rfl ?_
          refine RunL.ok (OpOk.move rfl) rfl ?_
          refine RunL.ok (OpOk.lenR rfl rfl rd3.left.left rfl) rfl ?_
          refine RunL.ok (OpOk.asT (OpOk.lss rfl rfl) (by omega)) rfl ?_
          refine RunL.nil ?_
          refine Run.condT rfl ?_
          refine Run.skip ?_
          refine Run.seq ?_
          refine Run.block ?_
          (apply Run.drawD [27] (by rfl) (sep_emp _).symm; case hchk => kernel_rfl)
          refine Sd.quiet 0 _ _ rfl rfl rfl rfl rfl (QOp.ok (fun X => OpOk.move rfl)) ?_
          refine Sd.quiet 1 _ _ rfl rfl rfl rfl rfl (QOp.ok (fun X => OpOk.move rfl)) ?_
          refine Sd.quiet 2 _ _ rfl rfl rfl rfl rfl (QOp.ok (fun X => OpOk.move rfl)) ?_
          refine Sd.quiet 3 _ _ rfl rfl rfl rfl rfl (QOp.ok (fun X => OpOk.move rfl)) ?_
          refine Sd.quiet 4 _ _ rfl rfl rfl rfl rfl (QOp.ok (fun X => OpOk.idxN rfl ti47 rfl rd3.left.left.left.left rfl (by omega))) ?_
          refine Sd.quiet 5 _ _ rfl rfl rfl rfl rfl (QOp.ok (fun X => OpOk.fieldAddrA fld47_0 rfl)) ?_
          refine Sd.quiet 6 _ _ rfl rfl rfl rfl rfl (QOp.ok (fun X => OpOk.loadFl1 default rfl rfl rfl rd3.left.left.left.left (fun _ => rfl) rfl (by omega) rfl)) ?_
          refine Sd.quiet 7 _ _ rfl rfl rfl rfl rfl (QOp.ok (fun X => OpOk.move rfl)) ?_
          refine Sd.quiet 8 _ _ rfl rfl rfl rfl rfl (QOp.ok (fun X => OpOk.move rfl)) ?_
          refine Sd.quiet 9 _ _ rfl rfl rfl rfl rfl (QOp.ok (fun X => OpOk.idxN rfl ti47 rfl rd1.left.left.left.left rfl (by omega))) ?_
          refine Sd.quiet 10 _ _ rfl rfl rfl rfl rfl (QOp.ok (fun X => OpOk.fieldAddrA fld47_0 rfl)) ?_
          refine Sd.quiet 11 _ _ rfl rfl rfl rfl rfl (QOp.ok (fun X => OpOk.loadFl1 default rfl rfl rfl rd1.left.left.left.left (fun _ => rfl) rfl (by omega) rfl)) ?_
          refine Sd.quiet 12 _ _ rfl rfl rfl rfl rfl (QOp.ok (fun X => OpOk.asT (OpOk.eql rfl rfl) (by omega))) ?_
          refine Sd.quiet 13 _ _ rfl rfl rfl rfl rfl (QOp.ok (fun X => OpOk.move rfl)) ?_
          refine Sd.quiet 14 _ _ rfl rfl rfl rfl rfl (QOp.ok (fun X => OpOk.move rfl)) ?_
          refine Sd.quiet 15 _ _ rfl rfl rfl rfl rfl (QOp.ok (fun X => OpOk.move rfl)) ?_
          refine Sd.quiet 16 _ _ rfl rfl rfl rfl rfl (QOp.ok (fun X => OpOk.idxN rfl ti47 rfl rd3.left.left.left.left rfl (by omega))) ?_
          refine Sd.quiet 17 _ _ rfl rfl rfl rfl rfl (QOp.ok (fun X => OpOk.fieldAddrA fld47_1 rfl)) ?_
          refine Sd.quiet 18 _ _ rfl rfl rfl rfl rfl (QOp.ok (fun X => OpOk.loadFl1 default rfl rfl rfl rd3.left.left.left.left (fun _ => rfl) rfl (by omega) rfl)) ?_
          refine Sd.quiet 19 _ _ rfl rfl rfl rfl rfl (QOp.ok (fun X => OpOk.move rfl)) ?_
          refine Sd.quiet 20 _ _ rfl rfl rfl rfl rfl (QOp.ok (fun X => OpOk.move rfl)) ?_
          refine Sd.quiet 21 _ _ rfl rfl rfl rfl rfl (QOp.ok (fun X => OpOk.idxN rfl ti47 rfl rd1.left.left.left.left rfl (by omega))) ?_
          refine Sd.quiet 22 _ _ rfl rfl rfl rfl rfl (QOp.ok (fun X => OpOk.fieldAddrA fld47_1 rfl)) ?_
          refine Sd.quiet 23 _ _ rfl rfl rfl rfl rfl (QOp.ok (fun X => OpOk.loadFl1 default rfl rfl rfl rd1.left.left.left.left (fun _ => rfl) rfl (by omega) rfl)) ?_
          refine Sd.quiet 24 _ _ rfl rfl rfl rfl rfl (QOp.ok (fun X => OpOk.asT (OpOk.eql rfl rfl) (by omega))) ?_
          refine Sd.quiet 25 _ _ rfl rfl rfl rfl rfl (QOp.ok (fun X => OpOk.pickT rfl rfl)) ?_
          refine Sd.quiet 26 _ _ rfl rfl rfl rfl rfl (QOp.ok (fun X => OpOk.pickF rfl rfl)) ?_
          (apply Sd.tail; case hall => kernel_rfl)
          refine RunL.mem (fl2 (sep_emp _) (sep_emp _)) ?_
          refine RunL.ok (OpOk.assign rfl) rfl ?_
          refine RunL.nil ?_
          refine Run.inBlock ?_
          refine Run.region ?_
          refine RunL.ok (OpOk.move rfl) rfl ?_
          refine RunL.ok (OpOk.addN _ 1 rfl rfl rfl rfl (by omega)) rfl ?_
          refine RunL.ok (OpOk.assign rfl) rfl ?_
          refine RunL.nil ?_
          refine Run.jump ((ih2 (k + 1, true) ⟨by dsimp only; omega, e2⟩ (by dsimp only; omega))) ⟨rfl, rfl, rfl, rfl, rfl, rfl, rfl, trivial⟩ ((Grew.refl _))
        · have e2 : false = decide (((js.getD i default).1, (js.getD i default).2.1) ∈ ps.map keyP ++ (ws.take (k + 1)).map keyJ) := by
            rw [e]
            refine (decide_eq_false (fun h => ?_)).symm
            rcases List.mem_append.1 h with h | h
            · exact hn h
            · have h := List.mem_singleton.1 h
              simp only [Prod.mk.injEq] at h
              exact hc ⟨h.1.symm, h.2.symm⟩
          refine Run.seq ?_
          refine Run.seq ?_
          refine Run.region ?_
          refine RunL.ok (OpOk.move rfl) rfl ?_
          refine RunL.ok (OpOk.move rfl) rfl ?_
          refine RunL.ok (OpOk.lenR rfl rfl rd3.left.left rfl) rfl ?_
          refine RunL.ok (OpOk.asT (OpOk.lss rfl rfl) (by omega)) rfl ?_
          refine RunL.nil ?_
          refine Run.condT rfl ?_
          refine Run.skip ?_
          refine Run.seq ?_
          refine Run.block ?_
          (apply Run.drawD [27] (by rfl) (sep_emp _).symm; case hchk => kernel_rfl)
          refine Sd.quiet 0 _ _ rfl rfl rfl rfl rfl (QOp.ok (fun X => OpOk.move rfl)) ?_
          refine Sd.quiet 1 _ _ rfl rfl rfl rfl rfl (QOp.ok (fun X => OpOk.move rfl)) ?_
          refine Sd.quiet 2 _ _ rfl rfl rfl rfl rfl (QOp.ok (fun X => OpOk.move rfl)) ?_
          refine Sd.quiet 3 _ _ rfl rfl rfl rfl rfl (QOp.ok (fun X => OpOk.move rfl)) ?_
          refine Sd.quiet 4 _ _ rfl rfl rfl rfl rfl (QOp.ok (fun X => OpOk.idxN rfl ti47 rfl rd3.left.left.left.left rfl (by omega))) ?_
          refine Sd.quiet 5 _ _ rfl rfl rfl rfl rfl (QOp.ok (fun X => OpOk.fieldAddrA fld47_0 rfl)) ?_
          refine Sd.quiet 6 _ _ rfl rfl rfl rfl rfl (QOp.ok (fun X => OpOk.loadFl1 default rfl rfl rfl rd3.left.left.left.left (fun _ => rfl) rfl (by omega) rfl)) ?_
          refine Sd.quiet 7 _ _ rfl rfl rfl rfl rfl (QOp.ok (fun X => OpOk.move rfl)) ?_
          refine Sd.quiet 8 _ _ rfl rfl rfl rfl rfl (QOp.ok (fun X => OpOk.move rfl)) ?_
          refine Sd.quiet 9 _ _ rfl rfl rfl rfl rfl (QOp.ok (fun X => OpOk.idxN rfl ti47 rfl rd1.left.left.left.left rfl (by omega))) ?_
          refine Sd.quiet 10 _ _ rfl rfl rfl rfl rfl (QOp.ok (fun X => OpOk.fieldAddrA fld47_0 rfl)) ?_
          refine Sd.quiet 11 _ _ rfl rfl rfl rfl rfl (QOp.ok (fun X => OpOk.loadFl1 default rfl rfl rfl rd1.left.left.left.left (fun _ => rfl) rfl (by omega) rfl)) ?_
          refine Sd.quiet 12 _ _ rfl rfl rfl rfl rfl (QOp.ok (fun X => OpOk.eql rfl rfl)) ?_
          refine Sd.quiet 13 _ _ rfl rfl rfl rfl rfl (QOp.ok (fun X => OpOk.move rfl)) ?_
          refine Sd.splitD (fun z1 => ?_) (fun z1 => ?_)
          · refine Sd.quiet 14 _ _ rfl rfl rfl rfl rfl (QOp.ok (fun X => OpOk.move rfl)) ?_
            refine Sd.quiet 15 _ _ rfl rfl rfl rfl rfl (QOp.ok (fun X => OpOk.move rfl)) ?_
            refine Sd.quiet 16 _ _ rfl rfl rfl rfl rfl (QOp.ok (fun X => OpOk.idxN rfl ti47 rfl rd3.left.left.left.left rfl (by omega))) ?_
            refine Sd.quiet 17 _ _ rfl rfl rfl rfl rfl (QOp.ok (fun X => OpOk.fieldAddrA fld47_1 rfl)) ?_
            refine Sd.quiet 18 _ _ rfl rfl rfl rfl rfl (QOp.ok (fun X => OpOk.loadFl1 default rfl rfl rfl rd3.left.left.left.left (fun _ => rfl) rfl (by omega) rfl)) ?_
            refine Sd.quiet 19 _ _ rfl rfl rfl rfl rfl (QOp.ok (fun X => OpOk.move rfl)) ?_
            refine Sd.quiet 20 _ _ rfl rfl rfl rfl rfl (QOp.ok (fun X => OpOk.move rfl)) ?_
            refine Sd.quiet 21 _ _ rfl rfl rfl rfl rfl (QOp.ok (fun X => OpOk.idxN rfl ti47 rfl rd1.left.left.left.left rfl (by omega))) ?_
            refine Sd.quiet 22 _ _ rfl rfl rfl rfl rfl (QOp.ok (fun X => OpOk.fieldAddrA fld47_1 rfl)) ?_
            refine Sd.quiet 23 _ _ rfl rfl rfl rfl rfl (QOp.ok (fun X => OpOk.loadFl1 default rfl rfl rfl rd1.left.left.left.left (fun _ => rfl) rfl (by omega) rfl)) ?_
            refine Sd.quiet 24 _ _ rfl rfl rfl rfl rfl (QOp.ok (fun X => OpOk.asF (OpOk.eql rfl rfl) (by omega))) ?_
            refine Sd.quiet 25 _ _ rfl rfl rfl rfl rfl (QOp.ok (fun X => OpOk.pickT rfl rfl)) ?_
            refine Sd.quiet 26 _ _ rfl rfl rfl rfl rfl (QOp.ok (fun X => OpOk.pickF rfl rfl)) ?_
            (apply Sd.tail; case hall => kernel_rfl)
            refine RunL.mem (fl2 (sep_emp _) (sep_emp _)) ?_
            refine RunL.ok (OpOk.assign rfl) rfl ?_
            refine RunL.nil ?_
            refine Run.inBlock ?_
            refine Run.region ?_
            refine RunL.ok (OpOk.move rfl) rfl ?_
            refine RunL.ok (OpOk.addN _ 1 rfl rfl rfl rfl (by omega)) rfl ?_
            refine RunL.ok (OpOk.assign rfl) rfl ?_
            refine RunL.nil ?_
            first | exact absurd ⟨by assumption, by assumption⟩ hc | skip
            refine Run.jump ((ih2 (k + 1, false) ⟨by dsimp only; omega, e2⟩ (by dsimp only; omega))) ⟨rfl, rfl, rfl, rfl, rfl, rfl, rfl, trivial⟩ ((Grew.refl _))
          refine Sd.skip 14 _ rfl rfl rfl rfl rfl ?_
          refine Sd.skip 15 _ rfl rfl rfl rfl rfl ?_
          refine Sd.skip 16 _ rfl rfl rfl rfl rfl ?_
          refine Sd.skip 17 _ rfl rfl rfl rfl rfl ?_
          refine Sd.skip 18 _ rfl rfl rfl rfl rfl ?_
          refine Sd.skip 19 _ rfl rfl rfl rfl rfl ?_
          refine Sd.skip 20 _ rfl rfl rfl rfl rfl ?_
          refine Sd.skip 21 _ rfl rfl rfl rfl rfl ?_
          refine Sd.skip 22 _ rfl rfl rfl rfl rfl ?_
          refine Sd.skip 23 _ rfl rfl rfl rfl rfl ?_
          refine Sd.skip 24 _ rfl rfl rfl rfl rfl ?_
          refine Sd.quiet 25 _ _ rfl rfl rfl rfl rfl (QOp.ok (fun X => OpOk.pickF rfl rfl)) ?_
          refine Sd.quiet 26 _ _ rfl rfl rfl rfl rfl (QOp.ok (fun X => OpOk.pickF rfl rfl)) ?_
          (apply Sd.tail; case hall => kernel_rfl)
          refine RunL.mem (fl2 (sep_emp _) (sep_emp _)) ?_
          refine RunL.ok (OpOk.assign rfl) rfl ?_
          refine RunL.nil ?_
          refine Run.inBlock ?_
          refine Run.region ?_
          refine RunL.ok (OpOk.move rfl) rfl ?_
          refine RunL.ok (OpOk.addN _ 1 rfl rfl rfl rfl (by omega)) rfl ?_
          refine RunL.ok (OpOk.assign rfl) rfl ?_
          refine RunL.nil ?_
          first | exact absurd ⟨by assumption, by assumption⟩ hc | skip
          refine Run.jump ((ih2 (k + 1, false) ⟨by dsimp only; omega, e2⟩ (by dsimp only; omega))) ⟨rfl, rfl, rfl, rfl, rfl, rfl, rfl, trivial⟩ ((Grew.refl _))
    · obtain rfl : k = ws.length := by omega
      clear ih2
      rw [List.take_length] at htt
      have hth : isThere (ps.map keyP ++ ws.map keyJ) (js.getD i default) = t := htt.symm
      rw [hth] at hmn
      cases t with
      | true =>
        rw [if_pos rfl, List.append_nil] at hmn
        refine Run.seq ?_
        refine Run.seq ?_
        refine Run.region ?_
        refine RunL.ok (OpOk.move rfl) rfl ?_
        refine RunL.ok (OpOk.move rfl) rfl ?_
        refine RunL.ok (OpOk.lenR rfl rfl rd3.left.left rfl) rfl ?_
        refine RunL.ok (OpOk.asF (OpOk.lss rfl rfl) (by omega)) rfl ?_
        refine RunL.nil ?_
        refine Run.condF rfl ?_
        refine Run.exit rfl ?_
        refine Run.seq ?_
        refine Run.region ?_
        refine RunL.ok (OpOk.move rfl) rfl ?_
        refine RunL.ok (OpOk.not rfl) rfl ?_
        refine RunL.nil ?_
        refine Run.condF rfl ?_
        refine Run.skip ?_
        refine Run.inBlock ?_
        refine Run.region ?_
        refine RunL.ok (OpOk.move rfl) rfl ?_
        refine RunL.ok (OpOk.addN _ 1 rfl rfl rfl rfl (by omega)) rfl ?_
        refine RunL.ok (OpOk.assign rfl) rfl ?_
        refine RunL.nil ?_
        refine Run.jump ((ih (i + 1, _, v7, out) ⟨by dsimp only; omega, hmn.symm⟩ (by dsimp only; omega))) ⟨rfl, rfl, rfl, rfl, rfl, trivial⟩ (Grew.of (congrArg (· * _) as1) (Grew.refl _))
      | false =>
        rw [if_neg (by decide)] at hmn
        refine Run.seq ?_
        refine Run.seq ?_
        refine Run.region ?_
        refine RunL.ok (OpOk.move rfl) rfl ?_
        refine RunL.ok (OpOk.move rfl) rfl ?_
        refine RunL.ok (OpOk.lenR rfl rfl rd3.left.left rfl) rfl ?_
        refine RunL.ok (OpOk.asF (OpOk.lss rfl rfl) (by omega)) rfl ?_
        refine RunL.nil ?_
        refine Run.condF rfl ?_
        refine Run.exit rfl ?_
        refine Run.seq ?_
        refine Run.region ?_
        refine RunL.ok (OpOk.move rfl) rfl ?_
        refine RunL.ok (OpOk.not rfl) rfl ?_
        refine RunL.nil ?_
        refine Run.condT rfl ?_
        refine Run.region ?_
        refine RunL.ok (OpOk.move rfl) rfl ?_
        refine RunL.ok (OpOk.move rfl) rfl ?_
        refine RunL.ok (OpOk.move rfl) rfl ?_
        refine RunL.ok (OpOk.idxN rfl ti47 rfl rd1.left.left rfl (by omega)) rfl ?_
        refine RunL.ok (OpOk.loadFl default rfl rfl ti47 rfl rd1.left.left (fun _ => rfl) rfl (by omega)) rfl ?_
        refine RunL.litFl (enc := encT47) [js.getD i default] rfl ti47 rfl (fun _ => rfl) rfl rfl (by decide) (by decide) rfl (fun vz1 rdz1 => ?_)
        refine RunL.know (fun w s => (s.conv rfl).ownRd0) (fun rdz3 => ?_)
        refine RunL.appendF rfl ti47 rfl rfl rfl (frl rfl) (Rd.right rdz3) rfl (by decide) (by omega) (by simp only [maxLen]; omega) rfl (fun vz2 rdz2 => ?_)
        refine RunL.ok (OpOk.assign rfl) rfl ?_
        refine RunL.nil ?_
        refine Run.inBlock ?_
        refine Run.region ?_
        refine RunL.ok (OpOk.move rfl) rfl ?_
        refine RunL.ok (OpOk.addN _ 1 rfl rfl rfl rfl (by omega)) rfl ?_
        refine RunL.ok (OpOk.assign rfl) rfl ?_
        refine RunL.nil ?_
        rw [show out.length + 1 = (out ++ [js.getD i default]).length by simp]
        refine Run.jump ((ih (i + 1, _, _, out ++ [js.getD i default]) ⟨by dsimp only; omega, hmn.symm⟩ (by dsimp only; omega))) ⟨rfl, rfl, rfl, rfl, rfl, trivial⟩ (Grew.of (congrArg (· * _) (asg as1)) (Grew.refl _))
  · obtain rfl : i = js.length := by omega
    clear ih
    rw [List.take_length] at hout
    subst hout
    refine Run.seq ?_
    refine Run.seq ?_
    refine Run.region ?_
    refine RunL.ok (OpOk.move rfl) rfl ?_
    refine RunL.ok (OpOk.move rfl) rfl ?_
    refine RunL.ok (OpOk.lenR rfl rfl rd1.left.left rfl) rfl ?_
    refine RunL.ok (OpOk.asF (OpOk.lss rfl rfl) (by omega)) rfl ?_
    refine RunL.nil ?_
    refine Run.condF rfl ?_
    refine Run.exit rfl ?_
    refine Run.seq ?_
    refine Run.region ?_
    refine RunL.ok (OpOk.move rfl) rfl ?_
    refine RunL.ok (OpOk.assign rfl) rfl ?_
    refine RunL.nil ?_
    refine Run.ret1 Try.func22 rfl rfl ?_
    exact ⟨_, (congrArg (· * _) as1)⟩
end
end Go.Proofs.Yteopadjihklkmaa
