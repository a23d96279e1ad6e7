/- Bounds of what files say; the law JournalOpens, walked. -/
import Derived.Test.YteopadjihklkmaaJnI
namespace Go.Proofs.Yteopadjihklkmaa
open Go Go.Proofs
set_option maxRecDepth 100000
set_option maxHeartbeats 4000000
set_option linter.unusedSimpArgs false
theorem says_facts : ∀ (n : Nat) (d : List UInt8), d.length ≤ n → (says d).2 ≤ d.length ∧ (says d).1.length ≤ d.length ∧ ∀ r ∈ (says d).1, r.2.length ≤ 65535 := by
  intro n
  induction n with
  | zero =>
    intro d h
    rw [List.eq_nil_of_length_eq_zero (by omega : d.length = 0), says_nil]
    exact ⟨Nat.le_refl _, Nat.le_refl _, fun r hr => by cases hr⟩
  | succ n ih =>
    intro d h
    cases hn : nextF d with
    | none =>
      rw [says_none hn]
      exact ⟨Nat.zero_le _, Nat.zero_le _, fun r hr => by cases hr⟩
    | some q =>
      obtain ⟨k, body, m⟩ := q
      obtain ⟨_, h5, hl, h65, _, hb⟩ := nextF_some hn
      have hdl : (d.drop m).length = d.length - m := List.length_drop
      obtain ⟨i1, i2, i3⟩ := ih (d.drop m) (by omega)
      rw [says_some hn]
      refine ⟨by dsimp only; omega, by dsimp only; rw [List.length_cons]; omega, fun r hr => ?_⟩
      rcases List.mem_cons.1 hr with rfl | hr
      · dsimp only
        omega
      · exact i3 r hr
def CnOk (m : Nat) (C : Cn) : Prop := C.1.length ≤ 65535 ∧ C.2.2.length ≤ m ∧ ∀ b ∈ C.2.2, b.length ≤ 65535
theorem takeC_ok {m : Nat} {C : Cn} {r : Rw} (h : CnOk m C) (hr : r.2.length ≤ 65535) : CnOk (m + 1) (takeC C r) := by
  obtain ⟨h1, h2, h3⟩ := h
  unfold takeC
  by_cases hk : r.1.toNat = 2
  · rw [if_pos hk]
    exact ⟨hr, Nat.zero_le _, fun b hb => by cases hb⟩
  · rw [if_neg hk]
    refine ⟨h1, by rw [List.length_append, List.length_singleton]; omega, fun b hb => ?_⟩
    rcases List.mem_append.1 hb with hb | hb
    · exact h3 b hb
    · rw [List.mem_singleton.1 hb]; exact hr
theorem foldC_ok : ∀ (R : List Rw) (m : Nat) (C : Cn), CnOk m C → (∀ r ∈ R, r.2.length ≤ 65535) → CnOk (m + R.length) (R.foldl takeC C)
  | [], m, C, h, _ => h
  | r :: R, m, C, h, hr => by
    have := foldC_ok R (m + 1) _ (takeC_ok h (hr r (by simp))) (fun q hq => hr q (by simp [hq]))
    rw [List.length_cons, show m + (R.length + 1) = m + 1 + R.length by omega]
    exact this
theorem contC_ok (d : List UInt8) : CnOk d.length (contC d) := by
  obtain ⟨_, h2, h3⟩ := says_facts d.length d (Nat.le_refl _)
  have h := foldC_ok (says d).1 0 c0 ⟨Nat.zero_le _, Nat.zero_le _, fun b hb => by cases hb⟩ h3
  obtain ⟨a, b, c⟩ := h
  exact ⟨a, by unfold contC; omega, c⟩
theorem recs_ok {recs : List (Value × List UInt8)} {l : List (List UInt8)} {m : Nat} (h : recs.map Prod.snd = l) (hb : ∀ b ∈ l, b.length ≤ m) : ∀ r ∈ recs, r.2.length ≤ m := fun r hr => hb _ (h ▸ List.mem_map.2 ⟨r, hr, rfl⟩)
theorem says_rel {d : List UInt8} {recs : List (Value × List UInt8)} (h : recs.map Prod.snd = (contC d).2.2) : Says ((says d).1.map thing) ((contC d).1, (contC d).2.1, recs.map Prod.snd) := ⟨by
  rw [h, thing_snd]
  exact rel_says d⟩
section
variable {w0 : World} {A : Asn}
theorem journalOpens_spec {u : Value} {bs : List UInt8} (rd : Rd w0 (old w0) u 1 bs.length (B bs)) :
    Spec Try.prog w0 9 [u] (old w0) (fun v' A' => v' = .bool true ∧ Grew (old w0) A') := by
  have hmx := rd.max
  rcases Nat.lt_or_ge 5000 bs.length with hbig | hsm
  · refine Spec.of_run [(0, u)] Try.func9 rfl (Nat.le_of_ble_eq_true rfl) (by repeat (first | exact trivial | refine ⟨rfl, ?_⟩)) ?_
    refine Run.seq ?_
    refine Run.region ?_
    refine RunL.ok (OpOk.assign rfl) rfl ?_
    refine RunL.nil ?_
    refine Run.seq ?_
    refine Run.seq ?_
    refine Run.region ?_
    refine RunL.call cal23 rfl (s23) rfl (fun vx1 Ax1 hx1 => ?_)
    obtain ⟨x2, ⟨rfl, rfl⟩⟩ := hx1
    refine RunL.ok (OpOk.not rfl) rfl ?_
    refine RunL.ok (OpOk.move rfl) rfl ?_
    refine RunL.on rfl rfl ?_
    refine RunL.ok (OpOk.move rfl) rfl ?_
    refine RunL.on rfl rfl ?_
    refine RunL.ok (OpOk.lenR rfl rfl rd.left rfl) rfl ?_
    refine RunL.on rfl rfl ?_
    refine RunL.ok (OpOk.asT (OpOk.gtr rfl rfl) (by omega)) rfl ?_
    refine RunL.ok (OpOk.pickF rfl rfl) rfl ?_
    refine RunL.nil ?_
    refine Run.condT rfl ?_
    refine Run.seq ?_
    refine Run.region ?_
    refine RunL.call cal23 rfl (s23) rfl (fun vx3 Ax3 hx3 => ?_)
    obtain ⟨x4, ⟨rfl, rfl⟩⟩ := hx3
    refine RunL.ok (OpOk.assign rfl) rfl ?_
    refine RunL.nil ?_
    refine Run.ret1 Try.func9 rfl rfl ?_
    exact ⟨rfl, ⟨_, (asg as1)⟩⟩
  · refine Spec.of_run [(0, u)] Try.func9 rfl (Nat.le_of_ble_eq_true rfl) (by repeat (first | exact trivial | refine ⟨rfl, ?_⟩)) ?_
    have efl : ∀ x : Value, flatB [(x, bs)] = bs := fun x => by simp [flatB]
    obtain ⟨hs1, hs2, _⟩ := says_facts bs.length bs (Nat.le_refl _)
    obtain ⟨hc1, hc2, hc3⟩ := contC_ok bs
    have drawStop : True := trivial
    refine Run.seq ?_
    refine Run.region ?_
    refine RunL.ok (OpOk.assign rfl) rfl ?_
    refine RunL.nil ?_
    refine Run.seq ?_
    refine Run.seq ?_
    refine Run.region ?_
    refine RunL.call cal23 rfl (s23) rfl (fun vx1 Ax1 hx1 => ?_)
    obtain ⟨x2, ⟨rfl, rfl⟩⟩ := hx1
    refine RunL.ok (OpOk.not rfl) rfl ?_
    refine RunL.ok (OpOk.move rfl) rfl ?_
    refine RunL.on rfl rfl ?_
    refine RunL.ok (OpOk.move rfl) rfl ?_
    refine RunL.on rfl rfl ?_
    refine RunL.ok (OpOk.lenR rfl rfl rd.left rfl) rfl ?_
    refine RunL.on rfl rfl ?_
    refine RunL.ok (OpOk.asF (OpOk.gtr rfl rfl) (by omega)) rfl ?_
    refine RunL.ok (OpOk.pickF rfl rfl) rfl ?_
    refine RunL.nil ?_
    refine Run.condF rfl ?_
    refine Run.skip ?_
    refine Run.seq ?_
    refine Run.region ?_
    refine RunL.ok (OpOk.move rfl) rfl ?_
    refine RunL.ok (OpOk.lenR rfl rfl rd.left rfl) rfl ?_
    refine RunL.ok (OpOk.addN _ 10 rfl rfl rfl rfl (by omega)) rfl ?_
    refine RunL.call cal24 rfl (s24b (by omega)) rfl (fun vx4 Ax4 hx4 => ?_)
    obtain ⟨x5, ⟨x6, ⟨rfl, rfl⟩⟩⟩ := hx4
    refine RunL.ok (OpOk.move rfl) rfl ?_
    refine RunL.ok (OpOk.ext20 rfl) rfl ?_
    refine RunL.ok (OpOk.ext21 rfl) rfl ?_
    refine RunL.ok (OpOk.assign rfl) rfl ?_
    refine RunL.ok (OpOk.assign rfl) rfl ?_
    refine RunL.nil ?_
    refine Run.seq ?_
    refine Run.seq ?_
    refine Run.region ?_
    refine RunL.ok (OpOk.move rfl) rfl ?_
    refine RunL.ok (OpOk.eqlPN rfl rfl) rfl ?_
    refine RunL.ok (OpOk.move rfl) rfl ?_
    refine RunL.on rfl rfl ?_
    refine RunL.ok (OpOk.move rfl) rfl ?_
    refine RunL.on rfl rfl ?_
    refine RunL.ok (OpOk.as (c := false) (OpOk.neq rfl rfl) (by rw [decide_eq_true (by omega)]; rfl)) rfl ?_
    refine RunL.ok (OpOk.pickF rfl rfl) rfl ?_
    refine RunL.ok (OpOk.move rfl) rfl ?_
    refine RunL.on rfl rfl ?_
    refine RunL.ok (OpOk.move rfl) rfl ?_
    refine RunL.on rfl rfl ?_
    refine RunL.ok (OpOk.move rfl) rfl ?_
    refine RunL.on rfl rfl ?_
    have alx7 : Alls (GB w0) _ [(u, bs)] := (Alls.cons (GB.of rd) Alls.nil)
    refine RunL.litV (ls := [(u, bs)]) alx7.left.left.left rfl ti63 rfl rfl rfl (by decide) rfl (fun vx7 rdx7 => ?_)
    refine RunL.on rfl rfl ?_
    refine RunL.know (fun w s => (s.conv rfl).ownRd0) (fun rdx8 => ?_)
    refine RunL.mem (frc (frl rfl) (frc (frl rfl) rfl)) ?_
    refine RunL.call cal31 rfl (s31b (Rd.right rdx8) alx7.left.left (by simp [flatB]; omega) (by omega) (by omega) (by omega) (by simp [flatB]; omega)) rfl (fun vx10 Ax10 hx10 => ?_)
    obtain ⟨x11, ⟨x12, ⟨rfl, rfl⟩⟩⟩ := hx10
    refine RunL.on rfl rfl ?_
    refine RunL.ok (OpOk.as (c := false) (OpOk.neq rfl rfl) (by rw [decide_eq_true (by omega)]; rfl)) rfl ?_
    refine RunL.ok (OpOk.pickF rfl rfl) rfl ?_
    refine RunL.nil ?_
    refine Run.condF rfl ?_
    refine Run.skip ?_
    refine Run.seq ?_
    refine Run.region ?_
    refine RunL.ok (OpOk.move rfl) rfl ?_
    refine RunL.call cal25 rfl (s25b (by simp [flatB]; omega)) rfl (fun vx13 Ax13 hx13 => ?_)
    obtain ⟨x14, ⟨x15, ⟨x16, ⟨x17, ⟨x18, ⟨x19, ⟨rfl, ⟨x20, rfl⟩⟩⟩⟩⟩⟩⟩⟩ := hx13
    refine RunL.ok (OpOk.move rfl) rfl ?_
    refine RunL.ok (OpOk.ext20 rfl) rfl ?_
    refine RunL.ok (OpOk.ext21 rfl) rfl ?_
    refine RunL.ok (OpOk.assign rfl) rfl ?_
    refine RunL.ok (OpOk.assign rfl) rfl ?_
    refine RunL.nil ?_
    refine Run.seq ?_
    refine Run.region ?_
    refine RunL.ok (OpOk.move rfl) rfl ?_
    refine RunL.know (fun w s => (s.conv rfl).ownsB0) (fun alx21 => ?_)
    refine RunL.call cal34 rfl (s34 rd.left.left.left.left.left.left.left.left.left.left (by omega)) rfl (fun vx22 Ax22 hx22 => ?_)
    obtain ⟨x23, ⟨x24, ⟨rfl, rfl⟩⟩⟩ := hx22
    refine RunL.ok (OpOk.move rfl) rfl ?_
    refine RunL.ok (OpOk.ext20 rfl) rfl ?_
    refine RunL.ok (OpOk.ext21 rfl) rfl ?_
    refine RunL.ok (OpOk.assign rfl) rfl ?_
    refine RunL.ok (OpOk.assign rfl) rfl ?_
    refine RunL.nil ?_
    refine Run.seq ?_
    refine Run.region ?_
    refine RunL.call cal25 rfl (s25a) rfl (fun vx25 Ax25 hx25 => ?_)
    obtain ⟨rfl, rfl⟩ := hx25
    refine RunL.ok (OpOk.move rfl) rfl ?_
    refine RunL.ok (OpOk.ext20 rfl) rfl ?_
    refine RunL.ok (OpOk.ext21 rfl) rfl ?_
    refine RunL.ok (OpOk.assign rfl) rfl ?_
    refine RunL.ok (OpOk.assign rfl) rfl ?_
    refine RunL.nil ?_
    refine Run.seq ?_
    clear drawStop
    rw [efl, List.nil_append] at x20 ⊢
    have hS := says_rel x20
    have hrb := recs_ok x20 (m := 16777216) (fun b hb => Nat.le_trans (hc3 b hb) (by decide))
    have hTl : ((says bs).1.map thing).length ≤ 16777216 := by rw [List.length_map]; omega
    have htl : (bs.take (says bs).2).length ≤ 5000 := by rw [List.length_take]; omega
    refine Run.know (fun w s => (s.conv (frl (frl (frl (frl (frl (frl rfl))))))).ownRd0) (fun rdy1 => ?_)
    refine Run.know (fun w s => (s.conv (frl (frl (frl (frl rfl))))).ownRd0) (fun rdy2 => ?_)
    refine Run.know (fun w s => (s.conv (frl (frl (frl rfl)))).ownRd0) (fun rdy3 => ?_)
    refine Run.know (fun w s => (s.conv rfl).ownRd0) (fun rdy4 => ?_)
    refine Run.drop [2] ?_
    (apply Run.drawD [] (by rfl) (Eq.trans (frc (frl (frl (frl (frl (frl (frl rfl)))))) (frc (frl (frl (frl (frl (frl (frl rfl)))))) (frc (frl (frl rfl)) (frc (frl (frl rfl)) (frc (frl (frl rfl)) (frc (frl (frl rfl)) rfl)))))) (asg (asg (asg (asg (asg rfl)))))); case hchk => kernel_rfl)
    refine Sd.quiet 0 _ _ rfl rfl rfl rfl rfl (QOp.ok (fun X => OpOk.move rfl)) ?_
    refine Sd.quiet 1 _ _ rfl rfl rfl rfl rfl (QOp.ok (fun X => OpOk.neqPN rfl rfl)) ?_
    refine Sd.quiet 2 _ _ rfl rfl rfl rfl rfl (QOp.ok (fun X => OpOk.move rfl)) ?_
    refine Sd.quiet 3 _ _ rfl rfl rfl rfl rfl (QOp.ok (fun X => OpOk.move rfl)) ?_
    refine Sd.quiet 4 _ _ rfl rfl rfl rfl rfl (QOp.ok (fun X => OpOk.asT (OpOk.eql rfl rfl) (by omega))) ?_
    refine Sd.quiet 5 _ _ rfl rfl rfl rfl rfl (QOp.ok (fun X => OpOk.pickT rfl rfl)) ?_
    refine Sd.quiet 6 _ _ rfl rfl rfl rfl rfl (QOp.ok (fun X => OpOk.move rfl)) ?_
    refine Sd.quiet 7 _ _ rfl rfl rfl rfl rfl (QOp.ok (fun X => OpOk.move rfl)) ?_
    (refine Sd.exec 8 rfl rfl rfl rfl rfl ?hrest (by rfl) (fun Xy5 Ky5 hKy5 => ?_); case hrest => kernel_rfl)
    refine RunL.mem (fl2 (sep_emp _) (flS (flS (flS (flS (flS rfl)))))) ?_
    refine RunL.mem (frc (frl (frl rfl)) (frc (frl (frl rfl)) (frc (frl (frl rfl)) (frc (frl (frl rfl)) rfl)))) ?_
    refine RunL.call cal35 rfl (s35) rfl (fun vy6 Ay6 hy6 => ?_)
    obtain ⟨rfl, rfl⟩ := hy6
    refine Sd.ret hKy5 (Eq.trans (frc (frl (frl (frl (frl rfl)))) (frc (frl (frl (frl (frl rfl)))) rfl)) (gp2 (asg (asg (asg (asg (asg rfl))))) (sep_emp _).symm)) ⟨emp, (sep_emp _).symm⟩ ?_
    refine Sd.quiet 9 _ _ rfl rfl rfl rfl rfl (QOp.ok (fun X => OpOk.not rfl)) ?_
    refine Sd.quiet 10 _ _ rfl rfl rfl rfl rfl (QOp.ok (fun X => OpOk.pickT rfl rfl)) ?_
    refine Sd.quiet 11 _ _ rfl rfl rfl rfl rfl (QOp.ok (fun X => OpOk.move rfl)) ?_
    refine Sd.quiet 12 _ _ rfl rfl rfl rfl rfl (QOp.ok (fun X => OpOk.move rfl)) ?_
    refine Sd.quiet 13 _ _ rfl rfl rfl rfl rfl (QOp.ok (fun X => OpOk.move rfl)) ?_
    (refine Sd.exec 14 rfl rfl rfl rfl rfl ?hrest (by rfl) (fun Xy7 Ky7 hKy7 => ?_); case hrest => kernel_rfl)
    refine RunL.mem (fl2 (sep_emp _) (flS (flS (flS (flS (flS rfl)))))) ?_
    refine RunL.mem (frc (frl (frl rfl)) (frc (frl (frl rfl)) (frc (frl (frl rfl)) (frc (frl (frl rfl)) rfl)))) ?_
    refine RunL.call cal36 rfl (s36 (Rd.right rdy4).left.left.left (by assumption) (by assumption) (by assumption) (by omega)) rfl (fun vy8 Ay8 hy8 => ?_)
    obtain ⟨y9, ⟨rfl, rfl⟩⟩ := hy8
    refine Sd.ret hKy7 (Eq.trans (frc (frl (frl (frl (frl (frl rfl))))) (frc (frl (frl (frl (frl (frl rfl))))) rfl)) (gp2 (asg rfl) (asg (asg (asg (asg rfl)))))) ⟨_, (emp_sep _).symm⟩ ?_
    refine Sd.quiet 15 _ _ rfl rfl rfl rfl rfl (QOp.ok (fun X => OpOk.pickT rfl rfl)) ?_
    refine Sd.quiet 16 _ _ rfl rfl rfl rfl rfl (QOp.ok (fun X => OpOk.move rfl)) ?_
    refine Sd.quiet 17 _ _ rfl rfl rfl rfl rfl (QOp.ok (fun X => OpOk.move rfl)) ?_
    refine Sd.quiet 20 _ _ rfl rfl rfl rfl rfl (QOp.ok (fun X => OpOk.move rfl)) ?_
    refine Sd.quiet 21 _ _ rfl rfl rfl rfl rfl (QOp.ok (fun X => OpOk.move rfl)) ?_
    refine Sd.quiet 22 _ _ rfl rfl rfl rfl rfl (QOp.ok (fun X => OpOk.cut rfl ti5 rfl rd.left.left.left.left.left.left.left.left rfl ⟨_, rfl⟩ (by omega) (by omega))) ?_
    refine Sd.quiet 23 _ _ rfl rfl rfl rfl rfl (QOp.ok (fun X => OpOk.strOf rfl rfl rfl rfl (Rd.cutB0 rd.left.left.left.left.left.left.left.left (by omega)))) ?_
    (refine Sd.exec 18 rfl rfl rfl rfl rfl ?hrest (by rfl) (fun Xy10 Ky10 hKy10 => ?_); case hrest => kernel_rfl)
    refine RunL.mem (fl2 (flS (flS (flS (flS rfl)))) (flS rfl)) ?_
    refine RunL.call cal32 rfl (s32 (by omega)) rfl (fun vy11 Ay11 hy11 => ?_)
    obtain rfl := hy11
    refine RunL.know (fun w s => (s.conv rfl).ownRd0) (fun rdy12 => ?_)
    refine Sd.ret hKy10 (Eq.trans rfl (gp2 (sep_emp _).symm (asg (asg (asg (asg (asg (asg (asg rfl))))))))) ⟨_, (asg (asg rfl))⟩ ?_
    refine Sd.quiet 19 _ _ rfl rfl rfl rfl rfl (QOp.ok (fun X => OpOk.strOf rfl rfl rfl rfl (Rd.right (Rd.right rdy12)).left)) ?_
    refine Sd.quiet 24 _ _ rfl rfl rfl rfl rfl (QOp.ok (fun X => OpOk.eqlSS rfl rfl)) ?_
    refine Sd.quiet 25 _ _ rfl rfl rfl rfl rfl (QOp.ok (fun X => OpOk.pickT rfl rfl)) ?_
    refine Sd.quiet 26 _ _ rfl rfl rfl rfl rfl (QOp.ok (fun X => OpOk.move rfl)) ?_
    refine Sd.splitBT (decide_eq_true (by first | omega | with_reducible rfl | assumption)) ?_
    refine Sd.quiet 27 _ _ rfl rfl rfl rfl rfl (QOp.ok (fun X => OpOk.move rfl)) ?_
    refine Sd.quiet 28 _ _ rfl rfl rfl rfl rfl (QOp.ok (fun X => OpOk.eqlPN rfl rfl)) ?_
    refine Sd.quiet 29 _ _ rfl rfl rfl rfl rfl (QOp.ok (fun X => OpOk.pickT rfl rfl)) ?_
    refine Sd.quiet 30 _ _ rfl rfl rfl rfl rfl (QOp.ok (fun X => OpOk.move rfl)) ?_
    refine Sd.quiet 31 _ _ rfl rfl rfl rfl rfl (QOp.ok (fun X => OpOk.move rfl)) ?_
    refine Sd.quiet 32 _ _ rfl rfl rfl rfl rfl (QOp.ok (fun X => OpOk.asT (OpOk.eql rfl rfl) (by omega))) ?_
    refine Sd.quiet 33 _ _ rfl rfl rfl rfl rfl (QOp.ok (fun X => OpOk.pickT rfl rfl)) ?_
    refine Sd.quiet 34 _ _ rfl rfl rfl rfl rfl (QOp.ok (fun X => OpOk.assign rfl)) ?_
    (apply Sd.tail; case hall => kernel_rfl)
    refine RunL.mem (fl2 (flS (flS (flS (flS (flS (flS (flS rfl))))))) (sep_emp _)) ?_
    refine RunL.nil ?_
    refine Run.ret1 Try.func9 rfl rfl ?_
    exact ⟨rfl, ⟨_, (asg (asg (asg (asg (asg (asg (asg (asg (asg (asg (asg (asg (asg as1)))))))))))))⟩⟩
end
end Go.Proofs.Yteopadjihklkmaa
