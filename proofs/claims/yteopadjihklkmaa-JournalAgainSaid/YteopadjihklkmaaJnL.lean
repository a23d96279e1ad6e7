/- The law JournalAgain, walked. -/
import Derived.Test.YteopadjihklkmaaJnK
namespace Go.Proofs.Yteopadjihklkmaa
open Go Go.Proofs
set_option maxRecDepth 100000
set_option maxHeartbeats 4000000
set_option linter.unusedSimpArgs false
set_option linter.unusedVariables false
theorem contC_cut (d : List UInt8) : contC (d.take (says d).2) = contC d := by rw [contC, says_cut, contC]
theorem cut_facts (d : List UInt8) : (says (d.take (says d).2)).2 = (d.take (says d).2).length ∧ contC (d.take (says d).2) = contC d ∧ (d.take (says d).2).length ≤ d.length := by
  obtain ⟨h, _⟩ := says_facts d.length d (Nat.le_refl _)
  exact ⟨by rw [says_cut, List.length_take, Nat.min_eq_left h], contC_cut d, by rw [List.length_take]; omega⟩
section
variable {w0 : World} {A : Asn}
theorem journalAgain_spec {u t : Value} {m n : Nat} {bs body : List UInt8} (rd : Rd w0 (old w0) u 1 m (B bs)) (rd2 : Rd w0 (old w0) t 1 n (B body)) :
    Spec Try.prog w0 7 [u, t] (old w0) (fun v' A' => v' = .bool true ∧ Grew (old w0) A') := by
  have hl := rd.lenB
  subst hl
  have hl2 := rd2.lenB
  subst hl2
  have hmx := rd.max
  have hmx2 := rd2.max
  rcases Nat.lt_or_ge 5000 bs.length with hbig | hsm
  · refine Spec.of_run [(0, u), (1, t)] Try.func7 rfl (Nat.le_of_ble_eq_true rfl) (by repeat (first | exact trivial | refine ⟨rfl, ?_⟩)) ?_
    refine Run.seq ?_
    refine Run.region ?_
    refine RunL.ok (OpOk.assign rfl) rfl ?_
    refine RunL.nil ?_
    refine Run.seq ?_
    refine Run.seq ?_
    refine Run.region ?_
    refine RunL.call cal23 rfl (s23) rfl (fun vx1 Ax1 hx1 => ?_)
    obtain ⟨x2, ⟨rfl, rfl⟩⟩ := hx1
    refine RunL.ok (OpOk.not rfl) rfl ?_
    refine RunL.ok (OpOk.move rfl) rfl ?_
    refine RunL.on rfl rfl ?_
    refine RunL.ok (OpOk.move rfl) rfl ?_
    refine RunL.on rfl rfl ?_
    refine RunL.ok (OpOk.lenR rfl rfl rd.left rfl) rfl ?_
    refine RunL.on rfl rfl ?_
    refine RunL.ok (OpOk.asT (OpOk.gtr rfl rfl) (by omega)) rfl ?_
    refine RunL.ok (OpOk.pickF rfl rfl) rfl ?_
    refine RunL.ok (OpOk.move rfl) rfl ?_
    refine RunL.off rfl rfl rfl rfl ?_
    refine RunL.off rfl rfl rfl rfl ?_
    refine RunL.off rfl rfl rfl rfl ?_
    refine RunL.ok (OpOk.pickT rfl rfl) rfl ?_
    refine RunL.nil ?_
    refine Run.condT rfl ?_
    refine Run.seq ?_
    refine Run.region ?_
    refine RunL.call cal23 rfl (s23) rfl (fun vx3 Ax3 hx3 => ?_)
    obtain ⟨x4, ⟨rfl, rfl⟩⟩ := hx3
    refine RunL.ok (OpOk.assign rfl) rfl ?_
    refine RunL.nil ?_
    refine Run.ret1 Try.func7 rfl rfl ?_
    exact ⟨rfl, ⟨_, (asg as1)⟩⟩
  · rcases Nat.lt_or_ge 5000 body.length with hbig2 | hsm2
    · refine Spec.of_run [(0, u), (1, t)] Try.func7 rfl (Nat.le_of_ble_eq_true rfl) (by repeat (first | exact trivial | refine ⟨rfl, ?_⟩)) ?_
      refine Run.seq ?_
      refine Run.region ?_
      refine RunL.ok (OpOk.assign rfl) rfl ?_
      refine RunL.nil ?_
      refine Run.seq ?_
      refine Run.seq ?_
      refine Run.region ?_
      refine RunL.call cal23 rfl (s23) rfl (fun vx1 Ax1 hx1 => ?_)
      obtain ⟨x2, ⟨rfl, rfl⟩⟩ := hx1
      refine RunL.ok (OpOk.not rfl) rfl ?_
      refine RunL.ok (OpOk.move rfl) rfl ?_
      refine RunL.on rfl rfl ?_
      refine RunL.ok (OpOk.move rfl) rfl ?_
      refine RunL.on rfl rfl ?_
      refine RunL.ok (OpOk.lenR rfl rfl rd.left rfl) rfl ?_
      refine RunL.on rfl rfl ?_
      refine RunL.ok (OpOk.asF (OpOk.gtr rfl rfl) (by omega)) rfl ?_
      refine RunL.ok (OpOk.pickF rfl rfl) rfl ?_
      refine RunL.ok (OpOk.move rfl) rfl ?_
      refine RunL.on rfl rfl ?_
      refine RunL.ok (OpOk.move rfl) rfl ?_
      refine RunL.on rfl rfl ?_
      refine RunL.ok (OpOk.lenR rfl rfl rd2.left rfl) rfl ?_
      refine RunL.on rfl rfl ?_
      refine RunL.ok (OpOk.asT (OpOk.gtr rfl rfl) (by omega)) rfl ?_
      refine RunL.ok (OpOk.pickF rfl rfl) rfl ?_
      refine RunL.nil ?_
      refine Run.condT rfl ?_
      refine Run.seq ?_
      refine Run.region ?_
      refine RunL.call cal23 rfl (s23) rfl (fun vx3 Ax3 hx3 => ?_)
      obtain ⟨x4, ⟨rfl, rfl⟩⟩ := hx3
      refine RunL.ok (OpOk.assign rfl) rfl ?_
      refine RunL.nil ?_
      refine Run.ret1 Try.func7 rfl rfl ?_
      exact ⟨rfl, ⟨_, (asg as1)⟩⟩
    · refine Spec.of_run [(0, u), (1, t)] Try.func7 rfl (Nat.le_of_ble_eq_true rfl) (by repeat (first | exact trivial | refine ⟨rfl, ?_⟩)) ?_
      have efl : ∀ x : Value, flatB [(x, bs)] = bs := fun x => by simp [flatB]
      obtain ⟨hs1, hs2, _⟩ := says_facts bs.length bs (Nat.le_refl _)
      obtain ⟨hc1, hc2, hc3⟩ := contC_ok bs
      refine Run.seq ?_
      refine Run.region ?_
      refine RunL.ok (OpOk.assign rfl) rfl ?_
      refine RunL.nil ?_
      refine Run.seq ?_
      refine Run.seq ?_
      refine Run.region ?_
      refine RunL.call cal23 rfl (s23) rfl (fun vx1 Ax1 hx1 => ?_)
      obtain ⟨x2, ⟨rfl, rfl⟩⟩ := hx1
      refine RunL.ok (OpOk.not rfl) rfl ?_
      refine RunL.ok (OpOk.move rfl) rfl ?_
      refine RunL.on rfl rfl ?_
      refine RunL.ok (OpOk.move rfl) rfl ?_
      refine RunL.on rfl rfl ?_
      refine RunL.ok (OpOk.lenR rfl rfl rd.left rfl) rfl ?_
      refine RunL.on rfl rfl ?_
      refine RunL.ok (OpOk.asF (OpOk.gtr rfl rfl) (by omega)) rfl ?_
      refine RunL.ok (OpOk.pickF rfl rfl) rfl ?_
      refine RunL.ok (OpOk.move rfl) rfl ?_
      refine RunL.on rfl rfl ?_
      refine RunL.ok (OpOk.move rfl) rfl ?_
      refine RunL.on rfl rfl ?_
      refine RunL.ok (OpOk.lenR rfl rfl rd2.left rfl) rfl ?_
      refine RunL.on rfl rfl ?_
      refine RunL.ok (OpOk.asF (OpOk.gtr rfl rfl) (by omega)) rfl ?_
      refine RunL.ok (OpOk.pickF rfl rfl) rfl ?_
      refine RunL.nil ?_
      refine Run.condF rfl ?_
      refine Run.skip ?_
      refine Run.seq ?_
      refine Run.region ?_
      refine RunL.call cal24 rfl (s24b (by omega)) rfl (fun vx4 Ax4 hx4 => ?_)
      obtain ⟨x5, ⟨x6, ⟨rfl, rfl⟩⟩⟩ := hx4
      refine RunL.ok (OpOk.move rfl) rfl ?_
      refine RunL.ok (OpOk.ext20 rfl) rfl ?_
      refine RunL.ok (OpOk.ext21 rfl) rfl ?_
      refine RunL.ok (OpOk.assign rfl) rfl ?_
      refine RunL.ok (OpOk.assign rfl) rfl ?_
      refine RunL.nil ?_
      refine Run.seq ?_
      refine Run.seq ?_
      refine Run.region ?_
      refine RunL.ok (OpOk.move rfl) rfl ?_
      refine RunL.ok (OpOk.eqlPN rfl rfl) rfl ?_
      refine RunL.ok (OpOk.move rfl) rfl ?_
      refine RunL.on rfl rfl ?_
      refine RunL.ok (OpOk.move rfl) rfl ?_
      refine RunL.on rfl rfl ?_
      refine RunL.ok (OpOk.as (c := false) (OpOk.neq rfl rfl) (by rw [decide_eq_true (by omega)]; rfl)) rfl ?_
      refine RunL.ok (OpOk.pickF rfl rfl) rfl ?_
      refine RunL.ok (OpOk.move rfl) rfl ?_
      refine RunL.on rfl rfl ?_
      refine RunL.ok (OpOk.move rfl) rfl ?_
      refine RunL.on rfl rfl ?_
      refine RunL.ok (OpOk.move rfl) rfl ?_
      refine RunL.on rfl rfl ?_
      have alx7 : Alls (GB w0) _ [(u, bs)] := (Alls.cons (GB.of rd) Alls.nil)
      refine RunL.litV (ls := [(u, bs)]) alx7.left.left.left rfl ti63 rfl rfl rfl (by decide) rfl (fun vx7 rdx7 => ?_)
      refine RunL.on rfl rfl ?_
      refine RunL.know (fun w s => (s.conv rfl).ownRd0) (fun rdx8 => ?_)
      refine RunL.mem (frc (frl rfl) (frc (frl rfl) rfl)) ?_
      refine RunL.call cal31 rfl (s31b (Rd.right rdx8) alx7.left.left (by simp [flatB]; omega) (by omega) (by omega) (by omega) (by simp [flatB]; omega)) rfl (fun vx10 Ax10 hx10 => ?_)
      obtain ⟨x11, ⟨x12, ⟨rfl, rfl⟩⟩⟩ := hx10
      refine RunL.on rfl rfl ?_
      refine RunL.ok (OpOk.as (c := false) (OpOk.neq rfl rfl) (by rw [decide_eq_true (by omega)]; rfl)) rfl ?_
      refine RunL.ok (OpOk.pickF rfl rfl) rfl ?_
      refine RunL.nil ?_
      refine Run.condF rfl ?_
      refine Run.skip ?_
      refine Run.seq ?_
      refine Run.region ?_
      refine RunL.ok (OpOk.move rfl) rfl ?_
      refine RunL.call cal25 rfl (s25b (by simp [flatB]; omega)) rfl (fun vx13 Ax13 hx13 => ?_)
      obtain ⟨x14, ⟨x15, ⟨x16, ⟨x17, ⟨x18, ⟨x19, ⟨rfl, ⟨x20, rfl⟩⟩⟩⟩⟩⟩⟩⟩ := hx13
      refine RunL.ok (OpOk.move rfl) rfl ?_
      refine RunL.ok (OpOk.ext20 rfl) rfl ?_
      refine RunL.ok (OpOk.ext21 rfl) rfl ?_
      refine RunL.ok (OpOk.assign rfl) rfl ?_
      refine RunL.ok (OpOk.assign rfl) rfl ?_
      refine RunL.nil ?_
      refine Run.seq ?_
      refine Run.region ?_
      refine RunL.ok (OpOk.move rfl) rfl ?_
      refine RunL.know (fun w s => (s.conv rfl).ownsB0) (fun alx21 => ?_)
      refine RunL.mem (frc (frl (frl (frl (frl rfl)))) (frc (frl (frl (frl (frl rfl)))) rfl)) ?_
      refine RunL.call cal32 rfl (s32 (by simp [flatB]; omega)) rfl (fun vx22 Ax22 hx22 => ?_)
      obtain rfl := hx22
      refine RunL.know (fun w s => (s.conv rfl).ownRd0) (fun rdx23 => ?_)
      refine RunL.ok (OpOk.strOf rfl rfl rfl rfl (Rd.right rdx23)) rfl ?_
      refine RunL.ok (OpOk.assign rfl) rfl ?_
      refine RunL.nil ?_
      refine Run.seq ?_
      refine Run.region ?_
      refine RunL.ok (OpOk.move rfl) rfl ?_
      refine RunL.mem (frc (frl rfl) (frc (frl rfl) rfl)) ?_
      refine RunL.call cal25 rfl (s25b (by simp [flatB]; omega)) rfl (fun vx24 Ax24 hx24 => ?_)
      obtain ⟨x25, ⟨x26, ⟨x27, ⟨x28, ⟨x29, ⟨x30, ⟨rfl, ⟨x31, rfl⟩⟩⟩⟩⟩⟩⟩⟩ := hx24
      refine RunL.ok (OpOk.move rfl) rfl ?_
      refine RunL.ok (OpOk.ext20 rfl) rfl ?_
      refine RunL.ok (OpOk.ext21 rfl) rfl ?_
      refine RunL.ok (OpOk.assign rfl) rfl ?_
      refine RunL.ok (OpOk.assign rfl) rfl ?_
      refine RunL.nil ?_
      refine Run.seq ?_
      refine Run.seq ?_
      refine Run.region ?_
      refine RunL.ok (OpOk.move rfl) rfl ?_
      refine RunL.ok (OpOk.eqlPN rfl rfl) rfl ?_
      refine RunL.ok (OpOk.move rfl) rfl ?_
      refine RunL.on rfl rfl ?_
      refine RunL.ok (OpOk.move rfl) rfl ?_
      refine RunL.on rfl rfl ?_
      refine RunL.ok (OpOk.eqlPN rfl rfl) rfl ?_
      refine RunL.ok (OpOk.pickF rfl rfl) rfl ?_
      refine RunL.ok (OpOk.move rfl) rfl ?_
      refine RunL.on rfl rfl ?_
      refine RunL.ok (OpOk.move rfl) rfl ?_
      refine RunL.on rfl rfl ?_
      refine RunL.ok (OpOk.as (c := false) (OpOk.neq rfl rfl) (by rw [decide_eq_true (by omega)]; rfl)) rfl ?_
      refine RunL.ok (OpOk.pickF rfl rfl) rfl ?_
      refine RunL.ok (OpOk.move rfl) rfl ?_
      refine RunL.on rfl rfl ?_
      refine RunL.ok (OpOk.move rfl) rfl ?_
      refine RunL.on rfl rfl ?_
      refine RunL.ok (OpOk.as (c := false) (OpOk.neq rfl rfl) (by rw [decide_eq_true (by omega)]; rfl)) rfl ?_
      refine RunL.ok (OpOk.pickF rfl rfl) rfl ?_
      refine RunL.ok (OpOk.move rfl) rfl ?_
      refine RunL.on rfl rfl ?_
      refine RunL.ok (OpOk.move rfl) rfl ?_
      refine RunL.on rfl rfl ?_
      refine RunL.know (fun w s => (s.conv rfl).ownsB0) (fun alx32 => ?_)
      refine RunL.mem (frc (frl (frl (frl (frl rfl)))) (frc (frl (frl (frl (frl rfl)))) rfl)) ?_
      refine RunL.call cal32 rfl (s32 (by simp [flatB]; omega)) rfl (fun vx33 Ax33 hx33 => ?_)
      obtain rfl := hx33
      refine RunL.on rfl rfl ?_
      refine RunL.know (fun w s => (s.conv rfl).ownRd0) (fun rdx34 => ?_)
      refine RunL.ok (OpOk.strOf rfl rfl rfl rfl (Rd.right rdx34)) rfl ?_
      refine RunL.on rfl rfl ?_
      refine RunL.ok (OpOk.move rfl) rfl ?_
      refine RunL.on rfl rfl ?_
      refine RunL.ok (OpOk.neqSS rfl rfl) rfl ?_
      refine RunL.ok (OpOk.pickF rfl rfl) rfl ?_
      refine RunL.ok (OpOk.move rfl) rfl ?_
      refine RunL.splitN (t := 84) rfl (fun x35 => ?_) (fun x35 => ?_)
      · refine RunL.off rfl rfl rfl rfl ?_
        refine RunL.off rfl rfl rfl rfl ?_
        refine RunL.off rfl rfl rfl rfl ?_
        refine RunL.off rfl rfl rfl rfl ?_
        refine RunL.off rfl rfl rfl rfl ?_
        refine RunL.ok (OpOk.pickT rfl rfl) rfl ?_
        refine RunL.nil ?_
        refine Run.condT rfl ?_
        refine Run.seq ?_
        refine Run.region ?_
        refine RunL.ok (OpOk.assign rfl) rfl ?_
        refine RunL.nil ?_
        refine Run.ret1 Try.func7 rfl rfl ?_
        exact absurd (by rw [efl, List.nil_append, says_cut, List.take_take, Nat.min_self]) x35
      refine RunL.on rfl rfl ?_
      refine RunL.ok (OpOk.move rfl) rfl ?_
      refine RunL.on rfl rfl ?_
      refine RunL.mem (frc (frl (frl (frl (frl (frl (frl (frl (frl (frl rfl))))))))) (frc (frl (frl (frl (frl (frl (frl (frl (frl (frl rfl))))))))) (frc (frl (frl (frl (frl (frl (frl (frl (frl (frl rfl))))))))) (frc (frl (frl (frl (frl (frl (frl (frl (frl (frl rfl))))))))) rfl)))) ?_
      refine RunL.call cal29 rfl (s29) rfl (fun vx36 Ax36 hx36 => ?_)
      obtain ⟨rfl, rfl⟩ := hx36
      refine RunL.on rfl rfl ?_
      refine RunL.ok (OpOk.move rfl) rfl ?_
      refine RunL.on rfl rfl ?_
      refine RunL.mem (frc (frl (frl (frl (frl (frl (frl (frl rfl))))))) (frc (frl (frl (frl (frl (frl (frl (frl rfl))))))) (frc (frl (frl (frl (frl (frl (frl (frl rfl))))))) (frc (frl (frl (frl (frl (frl (frl (frl rfl))))))) rfl)))) ?_
      refine RunL.call cal29 rfl (s29) rfl (fun vx37 Ax37 hx37 => ?_)
      obtain ⟨rfl, rfl⟩ := hx37
      refine RunL.on rfl rfl ?_
      refine RunL.ok (OpOk.neq rfl rfl) rfl ?_
      refine RunL.ok (OpOk.pickF rfl rfl) rfl ?_
      refine RunL.nil ?_
      refine Run.condN rfl (fun x38 => ?_) (fun x38 => ?_)
      · refine Run.seq ?_
        refine Run.region ?_
        refine RunL.ok (OpOk.assign rfl) rfl ?_
        refine RunL.nil ?_
        refine Run.ret1 Try.func7 rfl rfl ?_
        have e0 : ∀ x : Value, ([] : List UInt8) ++ flatB [(x, bs)] = bs := efl
        rw [e0] at x20 x31
        rw [contC_cut] at x31
        have := congrArg List.length (x20.trans x31.symm)
        rw [List.length_map, List.length_map] at this
        omega
      refine Run.skip ?_
      refine Run.seq ?_
      refine Run.region ?_
      refine RunL.ok (OpOk.move rfl) rfl ?_
      refine RunL.mem (frc (frl (frl (frl (frl rfl)))) (frc (frl (frl (frl (frl rfl)))) (frc (frl (frl (frl (frl rfl)))) (frc (frl (frl (frl (frl rfl)))) rfl)))) ?_
      refine RunL.call cal33 rfl (s33 (by simp [flatB]; omega)) rfl (fun vx39 Ax39 hx39 => ?_)
      obtain ⟨x40, ⟨x41, ⟨rfl, rfl⟩⟩⟩ := hx39
      refine RunL.ok (OpOk.move rfl) rfl ?_
      refine RunL.ok (OpOk.ext20 rfl) rfl ?_
      refine RunL.ok (OpOk.ext21 rfl) rfl ?_
      refine RunL.ok (OpOk.assign rfl) rfl ?_
      refine RunL.ok (OpOk.assign rfl) rfl ?_
      refine RunL.nil ?_
      refine Run.seq ?_
      refine Run.region ?_
      refine RunL.ok (OpOk.move rfl) rfl ?_
      refine RunL.mem (frc (frl (frl (frl (frl (frl (frl rfl)))))) (frc (frl (frl (frl (frl (frl (frl rfl)))))) (frc (frl (frl (frl (frl (frl (frl rfl)))))) (frc (frl (frl (frl (frl (frl (frl rfl)))))) rfl)))) ?_
      have e0 : ∀ x : Value, ([] : List UInt8) ++ flatB [(x, bs)] = bs := efl
      rw [e0] at x20 x31
      clear rdx7 rdx8 rdx23 rdx34 x35
      simp only [e0, contC_cut, says_cut, List.take_take, Nat.min_self] at x31 x38 ⊢
      obtain ⟨hw, hcc, hcl⟩ := cut_facts bs
      generalize hcut : bs.take (says bs).2 = cut at hw hcc hcl ⊢
      generalize hC : contC bs = C at hcc hc1 hc2 hc3 x20 x31 ⊢
      obtain ⟨sn, has, rl⟩ := C
      dsimp only at hc1 hc2 hc3 x20 x31 ⊢
      obtain ⟨cut2, hc2e⟩ : ∃ cut2 : List UInt8, cut ++ rowsB 1 [body] = cut2 := ⟨_, rfl⟩
      have hrl : (rowsB 1 [body]).length = body.length + 5 := by rw [rowsB_cons, List.length_append, rowB_len]; rfl
      have hc2l : cut2.length = cut.length + (body.length + 5) := by rw [← hc2e, List.length_append, hrl]
      have hfb : [body].all fine = true := by simp [fine]; omega
      have hWr : Wr 20000 (-1) cut false 1 (sn, has, x29.map Prod.snd) ([(t, body)].map Prod.snd) 0 cut2 (-1) false (sn, has, x29.map Prod.snd ++ [body]) := Wr.good (l := [body]) hfb (by omega) (by decide) hc2e
      have hm := contC_more (k := 1) (.inl rfl) hw hfb
      rw [hcc, hc2e, ← x31] at hm
      have hm1 : contC cut2 = (sn, has, x29.map Prod.snd ++ [body]) := hm.1
      have hm2 := hm.2
      have hrl1 : x18.length = rl.length := by rw [← x20, List.length_map]
      have hrl2 : x29.length = rl.length := by rw [← x31, List.length_map]
      cases has with
      | true => 
        refine RunL.call cal33 rfl (s33 (by omega)) rfl (fun vy1 Ay1 hy1 => ?_)
        obtain ⟨y2, ⟨y3, ⟨rfl, rfl⟩⟩⟩ := hy1
        refine RunL.ok (OpOk.move rfl) rfl ?_
        refine RunL.ok (OpOk.ext20 rfl) rfl ?_
        refine RunL.ok (OpOk.ext21 rfl) rfl ?_
        refine RunL.ok (OpOk.assign rfl) rfl ?_
        refine RunL.ok (OpOk.assign rfl) rfl ?_
        refine RunL.nil ?_
        refine Run.seq ?_
        refine Run.seq ?_
        refine Run.region ?_
        refine RunL.ok (OpOk.move rfl) rfl ?_
        refine RunL.ok (OpOk.move rfl) rfl ?_
        refine RunL.ok (OpOk.neqB rfl rfl rfl) rfl ?_
        refine RunL.ok (OpOk.move rfl) rfl ?_
        refine RunL.on rfl rfl ?_
        refine RunL.ok (OpOk.move rfl) rfl ?_
        refine RunL.on rfl rfl ?_
        refine RunL.know (fun w s => (s.conv (frl (frl (frl (frl (frl (frl (frl (frl (frl (frl rfl))))))))))).ownRd0) (fun rdy6 => ?_)
        refine RunL.ok (OpOk.strOf rfl rfl rfl rfl (Rd.right rdy6).left.left.left.left.left.left.left.left.left.left) rfl ?_
        refine RunL.on rfl rfl ?_
        refine RunL.ok (OpOk.move rfl) rfl ?_
        refine RunL.on rfl rfl ?_
        refine RunL.know (fun w s => (s.conv (frl (frl (frl (frl rfl))))).ownRd0) (fun rdy7 => ?_)
        refine RunL.ok (OpOk.strOf rfl rfl rfl rfl (Rd.right rdy7).left.left.left.left) rfl ?_
        refine RunL.on rfl rfl ?_
        refine RunL.ok (OpOk.neqSS rfl rfl) rfl ?_
        refine RunL.ok (OpOk.pickF rfl rfl) rfl ?_
        refine RunL.ok (OpOk.move rfl) rfl ?_
        refine RunL.splitNF (t := 111) rfl (by first | omega | with_reducible rfl | assumption) ?_
        refine RunL.on rfl rfl ?_
        refine RunL.ok (OpOk.move rfl) rfl ?_
        refine RunL.on rfl rfl ?_
        refine RunL.ok (OpOk.move rfl) rfl ?_
        refine RunL.on rfl rfl ?_
        have aly9 : Alls (GB w0) _ [(t, body)] := (Alls.cons (GB.of rd2) Alls.nil)
        refine RunL.litV (ls := [(t, body)]) aly9.left.left.left.left.left.left.left.left.left.left.left.left.left.left.left.left.left.left.left.left.left rfl ti63 rfl rfl rfl (by decide) rfl (fun vy9 rdy9 => ?_)
        refine RunL.on rfl rfl ?_
        refine RunL.know (fun w s => (s.conv rfl).ownRd0) (fun rdy10 => ?_)
        refine RunL.mem (frc (frl rfl) (frc (frl rfl) (frc (frl rfl) (frc (frl rfl) (frc (frl (frl (frl (frl (frl (frl (frl (frl (frl (frl rfl)))))))))) (frc (frl (frl (frl (frl (frl (frl (frl (frl (frl (frl rfl)))))))))) rfl)))))) ?_
        refine RunL.call cal28 rfl (s28 (Rd.right rdy10) aly9.left.left.left.left.left.left.left.left.left.left.left.left.left.left.left.left (by assumption) (by omega) (by omega) (by omega) (by omega) (by omega) (by omega)) rfl (fun vy11 Ay11 hy11 => ?_)
        obtain ⟨y12, ⟨y13, ⟨y14, ⟨y15, ⟨y16, ⟨rfl, ⟨y17, rfl⟩⟩⟩⟩⟩⟩⟩ := hy11
        refine RunL.on rfl rfl ?_
        refine RunL.ok (OpOk.as (c := false) (OpOk.neq rfl rfl) (by rw [decide_eq_true (by omega)]; rfl)) rfl ?_
        refine RunL.ok (OpOk.pickF rfl rfl) rfl ?_
        refine RunL.ok (OpOk.move rfl) rfl ?_
        refine RunL.on rfl rfl ?_
        refine RunL.ok (OpOk.move rfl) rfl ?_
        refine RunL.on rfl rfl ?_
        refine RunL.know (fun w s => (s.conv rfl).ownsB0) (fun aly18 => ?_)
        refine RunL.call cal29 rfl (s29) rfl (fun vy19 Ay19 hy19 => ?_)
        obtain ⟨rfl, rfl⟩ := hy19
        refine RunL.on rfl rfl ?_
        refine RunL.ok (OpOk.move rfl) rfl ?_
        refine RunL.on rfl rfl ?_
        refine RunL.mem (frc (frl (frl (frl (frl (frl (frl (frl (frl (frl (frl rfl)))))))))) (frc (frl (frl (frl (frl (frl (frl (frl (frl (frl (frl rfl)))))))))) (frc (frl (frl (frl (frl (frl (frl (frl (frl (frl (frl rfl)))))))))) (frc (frl (frl (frl (frl (frl (frl (frl (frl (frl (frl rfl)))))))))) rfl)))) ?_
        refine RunL.call cal29 rfl (s29) rfl (fun vy20 Ay20 hy20 => ?_)
        obtain ⟨rfl, rfl⟩ := hy20
        refine RunL.on rfl rfl ?_
        refine RunL.ok (OpOk.addN _ 1 rfl rfl rfl rfl (by omega)) rfl ?_
        refine RunL.on rfl rfl ?_
        refine RunL.ok (OpOk.neq rfl rfl) rfl ?_
        refine RunL.ok (OpOk.pickF rfl rfl) rfl ?_
        refine RunL.nil ?_
        refine Run.condN rfl (fun y21 => ?_) (fun y21 => ?_)
        · refine Run.seq ?_
          refine Run.region ?_
          refine RunL.ok (OpOk.assign rfl) rfl ?_
          refine RunL.nil ?_
          refine Run.ret1 Try.func7 rfl rfl ?_
          have := congrArg List.length y17
          simp at this
          omega
        refine Run.skip ?_
        refine Run.seq ?_
        refine Run.region ?_
        refine RunL.alloc ti9 rfl (fun by22 => ?_)
        refine RunL.store ti9 rfl rfl rfl rfl (by exact Nat.le_of_ble_eq_true rfl) (.inl rfl) ?_
        refine RunL.nil ?_
        refine Run.seq ?_
        refine Run.seq ?_
        refine Run.region ?_
        refine RunL.ok (OpOk.move rfl) rfl ?_
        refine RunL.mem (frc (frl (frl (frl (frl (frl rfl))))) (frc (frl (frl (frl (frl (frl rfl))))) (frc (frl (frl (frl (frl (frl rfl))))) (frc (frl (frl (frl (frl (frl rfl))))) rfl)))) ?_
        refine RunL.call cal30 rfl (s30 (by omega)) rfl (fun vy23 Ay23 hy23 => ?_)
        obtain ⟨y24, ⟨y25, ⟨rfl, rfl⟩⟩⟩ := hy23
        refine RunL.nil ?_
        refine Run.block ?_
        have hy15 : y15.length = rl.length + 1 := by have := congrArg List.length y17; simpa [hrl2] using this
        have hlast : ∀ q, q + 1 = y15.length → (y15.getD q default).2 = body := fun q hq => by
          rw [← snd_get (by omega), y17]
          dsimp only
          rw [List.getD_eq_getElem?_getD, List.getElem?_append_right (by rw [List.length_map]; omega), List.length_map, show q - x29.length = 0 by omega]
          rfl
        have hb : ∀ r ∈ y15, r.2.length ≤ 65535 := recs_ok y17 (fun b hb => by
          rcases List.mem_append.1 hb with hb | hb
          · exact hc3 b (x31 ▸ hb)
          · rw [List.mem_singleton.1 hb]; omega)
        refine Run.rangeF0 (Z := Asn × List UInt8) (iterJ (recs := y15) (b := y24) (v := y25) (by omega) (fun r hr => Nat.le_trans (hb r hr) (by decide))) rfl rfl (fun z => old w0 * z.1 * pts x5 (.cells #[.int .i64 (20000), .int .i64 ((-1)), y14] 145 (0, 0)) * own 5 1 y14 (cut2).length (B (cut2)) * pts by22 (.cells #[S z.2] 9 (0, 0)) * pts x25 (.cells #[y12, .bool true, y13, .pointer (some ⟨x5, 0, none⟩), .bool false] 149 (0, 0)) * own 5 1 y12 sn.length (B sn) * own 63 1 y13 y15.length (Fl encV y15)) (fun i z => i = y15.length → z.2 = body) (fun _ _ => False) (x2 * own 63 1 vx7 1 (Fl encV [(u, bs)]) * x12 * x19 * own 5 1 vx22 cut.length (B cut) * x30 * own 5 1 vx33 cut.length (B cut) * x41 * own 5 1 x40 sn.length (B sn) * y3 * own 5 1 y2 sn.length (B sn) * own 63 1 vy9 1 (Fl encV [(t, body)]) * y16 * pts x14 (.cells #[x15, .bool true, x16, .pointer (some ⟨x5, 0, none⟩), .bool false] 149 (0, 0)) * own 5 1 x15 (sn).length (B (sn)) * own 63 1 x16 (x18).length (Fl encV (x18)) * ownsB 5 (x18), []) (fun h => by omega) ?_ (fun RR l rc j z uu J3 hj hz hgo _ _ => ?_) (fun z J3 D hz => ?_) (fun c z J3 D hz => hz.elim)
        · show _ * pts by22 (.cells #[S []] 9 (0, 0)) * _ * _ * _ * _ * _ * _ = _
          dsimp only
          simp only [← sep_assoc]
          exact (frc (frl (frl rfl)) (frc rfl (frc rfl (frc rfl (frc rfl (frc rfl (frc rfl (frc (frl (frl (frl (frl rfl)))) (frc (frl (frl (frl (frl rfl)))) rfl)))))))))
        · obtain ⟨J2, ll⟩ := z
          have hbi := hb _ (getD_mem hj)
          refine Run.region ?_
          refine RunL.ok (OpOk.assign rfl) rfl ?_
          refine RunL.nil ?_
          refine Run.beginRound ?_
          refine Run.block ?_
          refine Run.region ?_
          refine RunL.ok (OpOk.move rfl) rfl ?_
          refine RunL.know (fun w s => (s.conv (frl (frl rfl))).ownRd0) (fun rds1 => ?_)
          refine RunL.ok (OpOk.strOf rfl rfl rfl rfl (Rd.right rds1).left.left) rfl ?_
          refine RunL.store ti9 rfl rfl rfl (frl (frl (frl (frl (frl (frl rfl)))))) (by exact Nat.le_of_ble_eq_true rfl) (.inl rfl) ?_
          refine RunL.nil ?_
          refine Run.inBlock ?_
          refine Run.jump ((hgo (_, (y15.getD j default).2) (fun h => hlast j h) [])) trivial (Grew.of (Eq.trans (frc (frl rfl) (frc (frl rfl) (frc (frl (frl rfl)) (frc (frl (frl rfl)) (frc (frl (frl rfl)) (frc rfl (frc (frl rfl) (frc (frl rfl) rfl)))))))) (congrArg (· * _) (congrArg (· * _) (congrArg (· * _) (congrArg (· * _) (congrArg (· * _) (congrArg (· * _) (congrArg (· * _) (congrArg (· * _) (asg as1)))))))))) (Grew.refl _))
        · obtain ⟨J2, ll⟩ := z
          have hz : ll = body := hz rfl
          dsimp only
          rw [hz]
          refine Run.inBlock ?_
          refine Run.seq ?_
          refine Run.region ?_
          refine RunL.ok (OpOk.move rfl) rfl ?_
          refine RunL.mem (frc (frl (frl (frl (frl (frl (frl (frl rfl))))))) (frc (frl (frl (frl (frl (frl (frl (frl rfl))))))) rfl)) ?_
          refine RunL.call cal25 rfl (s25b (by omega)) rfl (fun vq1 Aq1 hq1 => ?_)
          obtain ⟨q2, ⟨q3, ⟨q4, ⟨q5, ⟨q6, ⟨q7, ⟨rfl, ⟨q8, rfl⟩⟩⟩⟩⟩⟩⟩⟩ := hq1
          refine RunL.ok (OpOk.move rfl) rfl ?_
          refine RunL.ok (OpOk.ext20 rfl) rfl ?_
          refine RunL.ok (OpOk.ext21 rfl) rfl ?_
          refine RunL.ok (OpOk.assign rfl) rfl ?_
          refine RunL.ok (OpOk.assign rfl) rfl ?_
          refine RunL.nil ?_
          refine Run.seq ?_
          refine Run.region ?_
          refine RunL.ok (OpOk.load rfl rfl rfl (Blk.out Blk.pts.left.left.left.left.left.left.left.left.left.left.left.left.left _ _ (by first | rfl | assumption))) rfl ?_
          refine RunL.ok (OpOk.move rfl) rfl ?_
          refine RunL.ok (OpOk.strOf rfl rfl rfl rfl rd2.left.left.left.left.left.left.left.left.left.left.left.left.left.left.left) rfl ?_
          refine RunL.ok (OpOk.eqlSS rfl rfl) rfl ?_
          refine RunL.ok (OpOk.move rfl) rfl ?_
          refine RunL.splitDT (t := 140) rfl (by first | omega | with_reducible rfl | assumption) ?_
          refine RunL.on rfl rfl ?_
          refine RunL.ok (OpOk.move rfl) rfl ?_
          refine RunL.on rfl rfl ?_
          refine RunL.ok (OpOk.neqPN rfl rfl) rfl ?_
          refine RunL.ok (OpOk.pickT rfl rfl) rfl ?_
          refine RunL.ok (OpOk.move rfl) rfl ?_
          refine RunL.on rfl rfl ?_
          refine RunL.ok (OpOk.move rfl) rfl ?_
          refine RunL.on rfl rfl ?_
          refine RunL.ok (OpOk.asT (OpOk.eql rfl rfl) (by omega)) rfl ?_
          refine RunL.ok (OpOk.pickT rfl rfl) rfl ?_
          refine RunL.ok (OpOk.move rfl) rfl ?_
          refine RunL.on rfl rfl ?_
          refine RunL.ok (OpOk.move rfl) rfl ?_
          refine RunL.on rfl rfl ?_
          refine RunL.know (fun w s => (s.conv rfl).ownsB0) (fun alq10 => ?_)
          refine RunL.call cal29 rfl (s29) rfl (fun vq11 Aq11 hq11 => ?_)
          obtain ⟨rfl, rfl⟩ := hq11
          refine RunL.on rfl rfl ?_
          refine RunL.ok (OpOk.move rfl) rfl ?_
          refine RunL.on rfl rfl ?_
          refine RunL.mem (frc (frl (frl (frl (frl (frl (frl (frl (frl (frl rfl))))))))) (frc (frl (frl (frl (frl (frl (frl (frl (frl (frl rfl))))))))) (frc (frl (frl (frl (frl (frl (frl (frl (frl (frl rfl))))))))) (frc (frl (frl (frl (frl (frl (frl (frl (frl (frl rfl))))))))) rfl)))) ?_
          refine RunL.call cal29 rfl (s29) rfl (fun vq12 Aq12 hq12 => ?_)
          obtain ⟨rfl, rfl⟩ := hq12
          refine RunL.on rfl rfl ?_
          refine RunL.ok (OpOk.eql rfl rfl) rfl ?_
          refine RunL.ok (OpOk.pickT rfl rfl) rfl ?_
          refine RunL.ok (OpOk.move rfl) rfl ?_
          refine RunL.splitD (t := 155) rfl (fun q13 => ?_) (fun q13 => ?_)
          · refine RunL.on rfl rfl ?_
            refine RunL.ok (OpOk.move rfl) rfl ?_
            refine RunL.on rfl rfl ?_
            refine RunL.mem (frc (frl (frl (frl (frl (frl (frl (frl (frl rfl)))))))) (frc (frl (frl (frl (frl (frl (frl (frl (frl rfl)))))))) rfl)) ?_
            refine RunL.call cal32 rfl (s32 (by simp; omega)) rfl (fun vq14 Aq14 hq14 => ?_)
            obtain rfl := hq14
            refine RunL.on rfl rfl ?_
            refine RunL.know (fun w s => (s.conv rfl).ownRd0) (fun rdq15 => ?_)
            refine RunL.ok (OpOk.lenR rfl rfl (Rd.right rdq15) rfl) rfl ?_
            refine RunL.on rfl rfl ?_
            refine RunL.ok (OpOk.move rfl) rfl ?_
            refine RunL.on rfl rfl ?_
            refine RunL.ok (OpOk.lenSS rfl rfl rfl) rfl ?_
            refine RunL.on rfl rfl ?_
            refine RunL.ok (OpOk.addN _ 5 rfl rfl rfl rfl (by omega)) rfl ?_
            refine RunL.on rfl rfl ?_
            refine RunL.ok (OpOk.move rfl) rfl ?_
            refine RunL.on rfl rfl ?_
            refine RunL.ok (OpOk.lenR rfl rfl rd2.left.left.left.left.left.left.left.left.left.left.left.left.left.left.left.left rfl) rfl ?_
            refine RunL.on rfl rfl ?_
            refine RunL.ok (OpOk.addN _ _ rfl rfl rfl rfl (by omega)) rfl ?_
            refine RunL.on rfl rfl ?_
            refine RunL.ok (OpOk.eql rfl rfl) rfl ?_
            refine RunL.ok (OpOk.pickT rfl rfl) rfl ?_
            refine RunL.ok (OpOk.assign rfl) rfl ?_
            refine RunL.nil ?_
            refine Run.mem (frc (frl (frl (frl (frl (frl (frl (frl (frl (frl (frl (frl (frl rfl)))))))))))) rfl) ?_
            refine Run.shut ?_
            refine Run.ret1 Try.func7 rfl rfl ?_
            refine ⟨?_, ?_⟩
            · rw [hm2, List.take_length, decide_eq_true (by omega)]
            · repeat (first | exact Grew.refl _ | refine Grew.mul ?_ _)
          refine RunL.off rfl rfl rfl rfl ?_
          refine RunL.off rfl rfl rfl rfl ?_
          refine RunL.off rfl rfl rfl rfl ?_
          refine RunL.off rfl rfl rfl rfl ?_
          refine RunL.off rfl rfl rfl rfl ?_
          refine RunL.off rfl rfl rfl rfl ?_
          refine RunL.off rfl rfl rfl rfl ?_
          refine RunL.off rfl rfl rfl rfl ?_
          refine RunL.off rfl rfl rfl rfl ?_
          refine RunL.off rfl rfl rfl rfl ?_
          refine RunL.ok (OpOk.pickF rfl rfl) rfl ?_
          refine RunL.ok (OpOk.assign rfl) rfl ?_
          refine RunL.nil ?_
          refine Run.mem (frc (frl (frl (frl (frl (frl (frl (frl (frl (frl (frl (frl rfl))))))))))) rfl) ?_
          refine Run.shut ?_
          refine Run.ret1 Try.func7 rfl rfl ?_
          have := congrArg List.length q8
          rw [hm1] at this
          simp at this
          omega
      | false =>
        refine RunL.call cal33 rfl (s33 (by omega)) rfl (fun vy1 Ay1 hy1 => ?_)
        obtain ⟨y2, ⟨y3, ⟨rfl, rfl⟩⟩⟩ := hy1
        refine RunL.ok (OpOk.move rfl) rfl ?_
        refine RunL.ok (OpOk.ext20 rfl) rfl ?_
        refine RunL.ok (OpOk.ext21 rfl) rfl ?_
        refine RunL.ok (OpOk.assign rfl) rfl ?_
        refine RunL.ok (OpOk.assign rfl) rfl ?_
        refine RunL.nil ?_
        refine Run.seq ?_
        refine Run.seq ?_
        refine Run.region ?_
        refine RunL.ok (OpOk.move rfl) rfl ?_
        refine RunL.ok (OpOk.move rfl) rfl ?_
        refine RunL.ok (OpOk.neqB rfl rfl rfl) rfl ?_
        refine RunL.ok (OpOk.move rfl) rfl ?_
        refine RunL.on rfl rfl ?_
        refine RunL.ok (OpOk.move rfl) rfl ?_
        refine RunL.on rfl rfl ?_
        refine RunL.know (fun w s => (s.conv (frl (frl (frl (frl (frl (frl (frl (frl (frl (frl rfl))))))))))).ownRd0) (fun rdy6 => ?_)
        refine RunL.ok (OpOk.strOf rfl rfl rfl rfl (Rd.right rdy6).left.left.left.left.left.left.left.left.left.left) rfl ?_
        refine RunL.on rfl rfl ?_
        refine RunL.ok (OpOk.move rfl) rfl ?_
        refine RunL.on rfl rfl ?_
        refine RunL.know (fun w s => (s.conv (frl (frl (frl (frl rfl))))).ownRd0) (fun rdy7 => ?_)
        refine RunL.ok (OpOk.strOf rfl rfl rfl rfl (Rd.right rdy7).left.left.left.left) rfl ?_
        refine RunL.on rfl rfl ?_
        refine RunL.ok (OpOk.neqSS rfl rfl) rfl ?_
        refine RunL.ok (OpOk.pickF rfl rfl) rfl ?_
        refine RunL.ok (OpOk.move rfl) rfl ?_
        refine RunL.splitNF (t := 111) rfl (by first | omega | with_reducible rfl | assumption) ?_
        refine RunL.on rfl rfl ?_
        refine RunL.ok (OpOk.move rfl) rfl ?_
        refine RunL.on rfl rfl ?_
        refine RunL.ok (OpOk.move rfl) rfl ?_
        refine RunL.on rfl rfl ?_
        have aly9 : Alls (GB w0) _ [(t, body)] := (Alls.cons (GB.of rd2) Alls.nil)
        refine RunL.litV (ls := [(t, body)]) aly9.left.left.left.left.left.left.left.left.left.left.left.left.left.left.left.left.left.left.left.left.left rfl ti63 rfl rfl rfl (by decide) rfl (fun vy9 rdy9 => ?_)
        refine RunL.on rfl rfl ?_
        refine RunL.know (fun w s => (s.conv rfl).ownRd0) (fun rdy10 => ?_)
        refine RunL.mem (frc (frl rfl) (frc (frl rfl) (frc (frl rfl) (frc (frl rfl) (frc (frl (frl (frl (frl (frl (frl (frl (frl (frl (frl rfl)))))))))) (frc (frl (frl (frl (frl (frl (frl (frl (frl (frl (frl rfl)))))))))) rfl)))))) ?_
        refine RunL.call cal28 rfl (s28 (Rd.right rdy10) aly9.left.left.left.left.left.left.left.left.left.left.left.left.left.left.left.left (by assumption) (by omega) (by omega) (by omega) (by omega) (by omega) (by omega)) rfl (fun vy11 Ay11 hy11 => ?_)
        obtain ⟨y12, ⟨y13, ⟨y14, ⟨y15, ⟨y16, ⟨rfl, ⟨y17, rfl⟩⟩⟩⟩⟩⟩⟩ := hy11
        refine RunL.on rfl rfl ?_
        refine RunL.ok (OpOk.as (c := false) (OpOk.neq rfl rfl) (by rw [decide_eq_true (by omega)]; rfl)) rfl ?_
        refine RunL.ok (OpOk.pickF rfl rfl) rfl ?_
        refine RunL.ok (OpOk.move rfl) rfl ?_
        refine RunL.on rfl rfl ?_
        refine RunL.ok (OpOk.move rfl) rfl ?_
        refine RunL.on rfl rfl ?_
        refine RunL.know (fun w s => (s.conv rfl).ownsB0) (fun aly18 => ?_)
        refine RunL.call cal29 rfl (s29) rfl (fun vy19 Ay19 hy19 => ?_)
        obtain ⟨rfl, rfl⟩ := hy19
        refine RunL.on rfl rfl ?_
        refine RunL.ok (OpOk.move rfl) rfl ?_
        refine RunL.on rfl rfl ?_
        refine RunL.mem (frc (frl (frl (frl (frl (frl (frl (frl (frl (frl (frl rfl)))))))))) (frc (frl (frl (frl (frl (frl (frl (frl (frl (frl (frl rfl)))))))))) (frc (frl (frl (frl (frl (frl (frl (frl (frl (frl (frl rfl)))))))))) (frc (frl (frl (frl (frl (frl (frl (frl (frl (frl (frl rfl)))))))))) rfl)))) ?_
        refine RunL.call cal29 rfl (s29) rfl (fun vy20 Ay20 hy20 => ?_)
        obtain ⟨rfl, rfl⟩ := hy20
        refine RunL.on rfl rfl ?_
        refine RunL.ok (OpOk.addN _ 1 rfl rfl rfl rfl (by omega)) rfl ?_
        refine RunL.on rfl rfl ?_
        refine RunL.ok (OpOk.neq rfl rfl) rfl ?_
        refine RunL.ok (OpOk.pickF rfl rfl) rfl ?_
        refine RunL.nil ?_
        refine Run.condN rfl (fun y21 => ?_) (fun y21 => ?_)
        · refine Run.seq ?_
          refine Run.region ?_
          refine RunL.ok (OpOk.assign rfl) rfl ?_
          refine RunL.nil ?_
          refine Run.ret1 Try.func7 rfl rfl ?_
          have := congrArg List.length y17
          simp at this
          omega
        refine Run.skip ?_
        refine Run.seq ?_
        refine Run.region ?_
        refine RunL.alloc ti9 rfl (fun by22 => ?_)
        refine RunL.store ti9 rfl rfl rfl rfl (by exact Nat.le_of_ble_eq_true rfl) (.inl rfl) ?_
        refine RunL.nil ?_
        refine Run.seq ?_
        refine Run.seq ?_
        refine Run.region ?_
        refine RunL.ok (OpOk.move rfl) rfl ?_
        refine RunL.mem (frc (frl (frl (frl (frl (frl rfl))))) (frc (frl (frl (frl (frl (frl rfl))))) (frc (frl (frl (frl (frl (frl rfl))))) (frc (frl (frl (frl (frl (frl rfl))))) rfl)))) ?_
        refine RunL.call cal30 rfl (s30 (by omega)) rfl (fun vy23 Ay23 hy23 => ?_)
        obtain ⟨y24, ⟨y25, ⟨rfl, rfl⟩⟩⟩ := hy23
        refine RunL.nil ?_
        refine Run.block ?_
        have hy15 : y15.length = rl.length + 1 := by have := congrArg List.length y17; simpa [hrl2] using this
        have hlast : ∀ q, q + 1 = y15.length → (y15.getD q default).2 = body := fun q hq => by
          rw [← snd_get (by omega), y17]
          dsimp only
          rw [List.getD_eq_getElem?_getD, List.getElem?_append_right (by rw [List.length_map]; omega), List.length_map, show q - x29.length = 0 by omega]
          rfl
        have hb : ∀ r ∈ y15, r.2.length ≤ 65535 := recs_ok y17 (fun b hb => by
          rcases List.mem_append.1 hb with hb | hb
          · exact hc3 b (x31 ▸ hb)
          · rw [List.mem_singleton.1 hb]; omega)
        refine Run.rangeF0 (Z := Asn × List UInt8) (iterJ (recs := y15) (b := y24) (v := y25) (by omega) (fun r hr => Nat.le_trans (hb r hr) (by decide))) rfl rfl (fun z => old w0 * z.1 * pts x5 (.cells #[.int .i64 (20000), .int .i64 ((-1)), y14] 145 (0, 0)) * own 5 1 y14 (cut2).length (B (cut2)) * pts by22 (.cells #[S z.2] 9 (0, 0)) * pts x25 (.cells #[y12, .bool false, y13, .pointer (some ⟨x5, 0, none⟩), .bool false] 149 (0, 0)) * own 5 1 y12 sn.length (B sn) * own 63 1 y13 y15.length (Fl encV y15)) (fun i z => i = y15.length → z.2 = body) (fun _ _ => False) (x2 * own 63 1 vx7 1 (Fl encV [(u, bs)]) * x12 * x19 * own 5 1 vx22 cut.length (B cut) * x30 * own 5 1 vx33 cut.length (B cut) * x41 * own 5 1 x40 sn.length (B sn) * y3 * own 5 1 y2 sn.length (B sn) * own 63 1 vy9 1 (Fl encV [(t, body)]) * y16 * pts x14 (.cells #[x15, .bool false, x16, .pointer (some ⟨x5, 0, none⟩), .bool false] 149 (0, 0)) * own 5 1 x15 (sn).length (B (sn)) * own 63 1 x16 (x18).length (Fl encV (x18)) * ownsB 5 (x18), []) (fun h => by omega) ?_ (fun RR l rc j z uu J3 hj hz hgo _ _ => ?_) (fun z J3 D hz => ?_) (fun c z J3 D hz => hz.elim)
        · show _ * pts by22 (.cells #[S []] 9 (0, 0)) * _ * _ * _ * _ * _ * _ = _
          dsimp only
          simp only [← sep_assoc]
          exact (frc (frl (frl rfl)) (frc rfl (frc rfl (frc rfl (frc rfl (frc rfl (frc rfl (frc (frl (frl (frl (frl rfl)))) (frc (frl (frl (frl (frl rfl)))) rfl)))))))))
        · obtain ⟨J2, ll⟩ := z
          have hbi := hb _ (getD_mem hj)
          refine Run.region ?_
          refine RunL.ok (OpOk.assign rfl) rfl ?_
          refine RunL.nil ?_
          refine Run.beginRound ?_
          refine Run.block ?_
          refine Run.region ?_
          refine RunL.ok (OpOk.move rfl) rfl ?_
          refine RunL.know (fun w s => (s.conv (frl (frl rfl))).ownRd0) (fun rds1 => ?_)
          refine RunL.ok (OpOk.strOf rfl rfl rfl rfl (Rd.right rds1).left.left) rfl ?_
          refine RunL.store ti9 rfl rfl rfl (frl (frl (frl (frl (frl (frl rfl)))))) (by exact Nat.le_of_ble_eq_true rfl) (.inl rfl) ?_
          refine RunL.nil ?_
          refine Run.inBlock ?_
          refine Run.jump ((hgo (_, (y15.getD j default).2) (fun h => hlast j h) [])) trivial (Grew.of (Eq.trans (frc (frl rfl) (frc (frl rfl) (frc (frl (frl rfl)) (frc (frl (frl rfl)) (frc (frl (frl rfl)) (frc rfl (frc (frl rfl) (frc (frl rfl) rfl)))))))) (congrArg (· * _) (congrArg (· * _) (congrArg (· * _) (congrArg (· * _) (congrArg (· * _) (congrArg (· * _) (congrArg (· * _) (congrArg (· * _) (asg as1)))))))))) (Grew.refl _))
        · obtain ⟨J2, ll⟩ := z
          have hz : ll = body := hz rfl
          dsimp only
          rw [hz]
          refine Run.inBlock ?_
          refine Run.seq ?_
          refine Run.region ?_
          refine RunL.ok (OpOk.move rfl) rfl ?_
          refine RunL.mem (frc (frl (frl (frl (frl (frl (frl (frl rfl))))))) (frc (frl (frl (frl (frl (frl (frl (frl rfl))))))) rfl)) ?_
          refine RunL.call cal25 rfl (s25b (by omega)) rfl (fun vq1 Aq1 hq1 => ?_)
          obtain ⟨q2, ⟨q3, ⟨q4, ⟨q5, ⟨q6, ⟨q7, ⟨rfl, ⟨q8, rfl⟩⟩⟩⟩⟩⟩⟩⟩ := hq1
          refine RunL.ok (OpOk.move rfl) rfl ?_
          refine RunL.ok (OpOk.ext20 rfl) rfl ?_
          refine RunL.ok (OpOk.ext21 rfl) rfl ?_
          refine RunL.ok (OpOk.assign rfl) rfl ?_
          refine RunL.ok (OpOk.assign rfl) rfl ?_
          refine RunL.nil ?_
          refine Run.seq ?_
          refine Run.region ?_
          refine RunL.ok (OpOk.load rfl rfl rfl (Blk.out Blk.pts.left.left.left.left.left.left.left.left.left.left.left.left.left _ _ (by first | rfl | assumption))) rfl ?_
          refine RunL.ok (OpOk.move rfl) rfl ?_
          refine RunL.ok (OpOk.strOf rfl rfl rfl rfl rd2.left.left.left.left.left.left.left.left.left.left.left.left.left.left.left) rfl ?_
          refine RunL.ok (OpOk.eqlSS rfl rfl) rfl ?_
          refine RunL.ok (OpOk.move rfl) rfl ?_
          refine RunL.splitDT (t := 140) rfl (by first | omega | with_reducible rfl | assumption) ?_
          refine RunL.on rfl rfl ?_
          refine RunL.ok (OpOk.move rfl) rfl ?_
          refine RunL.on rfl rfl ?_
          refine RunL.ok (OpOk.neqPN rfl rfl) rfl ?_
          refine RunL.ok (OpOk.pickT rfl rfl) rfl ?_
          refine RunL.ok (OpOk.move rfl) rfl ?_
          refine RunL.on rfl rfl ?_
          refine RunL.ok (OpOk.move rfl) rfl ?_
          refine RunL.on rfl rfl ?_
          refine RunL.ok (OpOk.asT (OpOk.eql rfl rfl) (by omega)) rfl ?_
          refine RunL.ok (OpOk.pickT rfl rfl) rfl ?_
          refine RunL.ok (OpOk.move rfl) rfl ?_
          refine RunL.on rfl rfl ?_
          refine RunL.ok (OpOk.move rfl) rfl ?_
          refine RunL.on rfl rfl ?_
          refine RunL.know (fun w s => (s.conv rfl).ownsB0) (fun alq10 => ?_)
          refine RunL.call cal29 rfl (s29) rfl (fun vq11 Aq11 hq11 => ?_)
          obtain ⟨rfl, rfl⟩ := hq11
          refine RunL.on rfl rfl ?_
          refine RunL.ok (OpOk.move rfl) rfl ?_
          refine RunL.on rfl rfl ?_
          refine RunL.mem (frc (frl (frl (frl (frl (frl (frl (frl (frl (frl rfl))))))))) (frc (frl (frl (frl (frl (frl (frl (frl (frl (frl rfl))))))))) (frc (frl (frl (frl (frl (frl (frl (frl (frl (frl rfl))))))))) (frc (frl (frl (frl (frl (frl (frl (frl (frl (frl rfl))))))))) rfl)))) ?_
          refine RunL.call cal29 rfl (s29) rfl (fun vq12 Aq12 hq12 => ?_)
          obtain ⟨rfl, rfl⟩ := hq12
          refine RunL.on rfl rfl ?_
          refine RunL.ok (OpOk.eql rfl rfl) rfl ?_
          refine RunL.ok (OpOk.pickT rfl rfl) rfl ?_
          refine RunL.ok (OpOk.move rfl) rfl ?_
          refine RunL.splitD (t := 155) rfl (fun q13 => ?_) (fun q13 => ?_)
          · refine RunL.on rfl rfl ?_
            refine RunL.ok (OpOk.move rfl) rfl ?_
            refine RunL.on rfl rfl ?_
            refine RunL.mem (frc (frl (frl (frl (frl (frl (frl (frl (frl rfl)))))))) (frc (frl (frl (frl (frl (frl (frl (frl (frl rfl)))))))) rfl)) ?_
            refine RunL.call cal32 rfl (s32 (by simp; omega)) rfl (fun vq14 Aq14 hq14 => ?_)
            obtain rfl := hq14
            refine RunL.on rfl rfl ?_
            refine RunL.know (fun w s => (s.conv rfl).ownRd0) (fun rdq15 => ?_)
            refine RunL.ok (OpOk.lenR rfl rfl (Rd.right rdq15) rfl) rfl ?_
            refine RunL.on rfl rfl ?_
            refine RunL.ok (OpOk.move rfl) rfl ?_
            refine RunL.on rfl rfl ?_
            refine RunL.ok (OpOk.lenSS rfl rfl rfl) rfl ?_
            refine RunL.on rfl rfl ?_
            refine RunL.ok (OpOk.addN _ 5 rfl rfl rfl rfl (by omega)) rfl ?_
            refine RunL.on rfl rfl ?_
            refine RunL.ok (OpOk.move rfl) rfl ?_
            refine RunL.on rfl rfl ?_
            refine RunL.ok (OpOk.lenR rfl rfl rd2.left.left.left.left.left.left.left.left.left.left.left.left.left.left.left.left rfl) rfl ?_
            refine RunL.on rfl rfl ?_
            refine RunL.ok (OpOk.addN _ _ rfl rfl rfl rfl (by omega)) rfl ?_
            refine RunL.on rfl rfl ?_
            refine RunL.ok (OpOk.eql rfl rfl) rfl ?_
            refine RunL.ok (OpOk.pickT rfl rfl) rfl ?_
            refine RunL.ok (OpOk.assign rfl) rfl ?_
            refine RunL.nil ?_
            refine Run.mem (frc (frl (frl (frl (frl (frl (frl (frl (frl (frl (frl (frl (frl rfl)))))))))))) rfl) ?_
            refine Run.shut ?_
            refine Run.ret1 Try.func7 rfl rfl ?_
            refine ⟨?_, ?_⟩
            · rw [hm2, List.take_length, decide_eq_true (by omega)]
            · repeat (first | exact Grew.refl _ | refine Grew.mul ?_ _)
          refine RunL.off rfl rfl rfl rfl ?_
          refine RunL.off rfl rfl rfl rfl ?_
          refine RunL.off rfl rfl rfl rfl ?_
          refine RunL.off rfl rfl rfl rfl ?_
          refine RunL.off rfl rfl rfl rfl ?_
          refine RunL.off rfl rfl rfl rfl ?_
          refine RunL.off rfl rfl rfl rfl ?_
          refine RunL.off rfl rfl rfl rfl ?_
          refine RunL.off rfl rfl rfl rfl ?_
          refine RunL.off rfl rfl rfl rfl ?_
          refine RunL.ok (OpOk.pickF rfl rfl) rfl ?_
          refine RunL.ok (OpOk.assign rfl) rfl ?_
          refine RunL.nil ?_
          refine Run.mem (frc (frl (frl (frl (frl (frl (frl (frl (frl (frl (frl (frl rfl))))))))))) rfl) ?_
          refine Run.shut ?_
          refine Run.ret1 Try.func7 rfl rfl ?_
          have := congrArg List.length q8
          rw [hm1] at this
          simp at this
          omega
end
end Go.Proofs.Yteopadjihklkmaa
