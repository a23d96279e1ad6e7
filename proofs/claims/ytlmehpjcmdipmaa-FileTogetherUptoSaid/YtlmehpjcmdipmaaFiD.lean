/- The law of files written together, walked. -/
import Derived.Test.YtlmehpjcmdipmaaFiB
namespace Go.Proofs.Ytlmehpjcmdipmaa
open Go Go.Proofs
set_option maxRecDepth 100000
set_option maxHeartbeats 4000000
theorem flatB_one (v : Value) (e : List UInt8) : flatB [(v, e)] = e := by simp [flatB]
/-- What is there behind so much, with this power. -/
def heldB (w : Int) (f : List UInt8) : List UInt8 := if w < 0 then f else f.take w.toNat
def leftW (w : Int) (f : List UInt8) : Int := if w < 0 then w else if (f.length : Int) ≤ w then w - f.length else 0
theorem heldB_le (w : Int) (f : List UInt8) : (heldB w f).length ≤ f.length := by
  unfold heldB
  split
  · exact Nat.le_refl _
  · rw [List.length_take]; omega
theorem held_free {w : Int} (h : w < 0) (f : List UInt8) : heldB w f = f ∧ leftW w f = w := ⟨if_pos h, if_pos h⟩
theorem held_nil (w : Int) : w = leftW w (flatB (List.take 0 ([] : List (Value × List UInt8)))) ∧ [] = heldB w (flatB (List.take 0 ([] : List (Value × List UInt8)))) := by
  have e : flatB (List.take 0 ([] : List (Value × List UInt8))) = [] := rfl
  rw [e]
  unfold leftW heldB
  by_cases h : w < 0
  · rw [if_pos h, if_pos h]; exact ⟨rfl, rfl⟩
  · rw [if_neg h, if_neg h, if_pos (by simp; omega)]; exact ⟨by simp, by simp⟩
theorem left_le {w : Int} (f : List UInt8) (h : 0 ≤ w) : leftW w f ≤ w ∧ 0 ≤ leftW w f := by
  unfold leftW
  rw [if_neg (by omega)]
  split <;> omega
theorem heldB_pos {w : Int} (h : 0 ≤ w) (f : List UInt8) : heldB w f = f.take w.toNat := if_neg (by omega)
theorem leftW_in {w : Int} {f : List UInt8} (h : 0 ≤ w) (h1 : (f.length : Int) ≤ w) : leftW w f = w - f.length := by unfold leftW; rw [if_neg (by omega), if_pos h1]
theorem leftW_out {w : Int} {f : List UInt8} (h : 0 ≤ w) (h1 : w < (f.length : Int)) : leftW w f = 0 := by unfold leftW; rw [if_neg (by omega), if_neg (by omega)]
theorem held_fits {w : Int} {f e : List UInt8} (h : 0 ≤ w) (he : (e.length : Int) ≤ leftW w f) : heldB w f ++ e = heldB w (f ++ e) ∧ leftW w f - e.length = leftW w (f ++ e) := by
  have hl : (f ++ e).length = f.length + e.length := List.length_append
  rw [heldB_pos h, heldB_pos h]
  rcases Int.lt_or_le w f.length with h1 | h1
  · rw [leftW_out h h1] at he ⊢
    obtain rfl : e = [] := List.eq_nil_of_length_eq_zero (by omega)
    rw [List.append_nil, List.append_nil, leftW_out h h1]
    exact ⟨rfl, by simp⟩
  · rw [leftW_in h h1] at he ⊢
    rw [leftW_in h (by omega), List.take_of_length_le (by omega), List.take_of_length_le (by omega)]
    exact ⟨rfl, by omega⟩
theorem held_torn {w : Int} {f e : List UInt8} (h : 0 ≤ w) (he : leftW w f < (e.length : Int)) : heldB w f ++ e.take (leftW w f).toNat = heldB w (f ++ e) ∧ 0 = leftW w (f ++ e) := by
  have hl : (f ++ e).length = f.length + e.length := List.length_append
  rw [heldB_pos h, heldB_pos h]
  rcases Int.lt_or_le w f.length with h1 | h1
  · rw [leftW_out h h1]
    rw [leftW_out h (by omega), List.take_append_of_le_length (by omega)]
    exact ⟨by simp, rfl⟩
  · rw [leftW_in h h1] at he ⊢
    rw [leftW_out h (by omega), List.take_append, show (w - (f.length : Int)).toNat = w.toNat - f.length by omega, List.take_of_length_le (i := w.toNat) (l := f) (by omega)]
    exact ⟨rfl, rfl⟩
theorem fileTogether_spec {w0 : World} {s n : Int} {u : Value} {ls : List (Value × List UInt8)} (rd : Rd w0 (old w0) u 1 ls.length (Fl encV ls)) (al : Alls (GB w0) (old w0) ls) (hsz : (flatB ls).length ≤ 1048576) (hs2 : s ≤ 9223372036854775807) (hn1 : -9223372036854775808 ≤ n) (hn2 : n ≤ 9223372036854775807) :
    Spec Try.prog w0 9 [.int .i64 s, .int .i64 n, u] (old w0) (fun v' A' => v' = .bool true ∧ Grew (old w0) A') := by
  have hmax := rd.max
  have hmx : max n (-1) ≤ 9223372036854775807 := by omega
  refine Spec.of_run [(0, .int .i64 s), (1, .int .i64 n), (2, u)] Try.func9 rfl (Nat.le_of_ble_eq_true rfl) (by repeat (first | exact trivial | refine ⟨rfl, ?_⟩)) ?_
  rcases Int.lt_or_le s 0 with hs | hs
  · refine Run.seq ?_
    refine Run.region ?_
    refine RunL.ok (OpOk.assign rfl) rfl ?_
    refine RunL.nil ?_
    refine Run.seq ?_
    refine Run.seq ?_
    refine Run.region ?_
    refine RunL.call cal28 rfl (s28) rfl (fun vx1 Ax1 hx1 => ?_)
    obtain ⟨x2, ⟨rfl, rfl⟩⟩ := hx1
    refine RunL.ok (OpOk.not rfl) rfl ?_
    refine RunL.nil ?_
    refine Run.condF rfl ?_
    refine Run.skip ?_
    refine Run.seq ?_
    refine Run.region ?_
    refine RunL.ok (OpOk.move rfl) rfl ?_
    refine RunL.call cal29 rfl (s29a (by assumption)) rfl (fun vx3 Ax3 hx3 => ?_)
    obtain ⟨rfl, rfl⟩ := hx3
    refine RunL.ok (OpOk.move rfl) rfl ?_
    refine RunL.ok (OpOk.ext20 rfl) rfl ?_
    refine RunL.ok (OpOk.ext21 rfl) rfl ?_
    refine RunL.ok (OpOk.assign rfl) rfl ?_
    refine RunL.ok (OpOk.assign rfl) rfl ?_
    refine RunL.nil ?_
    refine Run.seq ?_
    refine Run.region ?_
    refine RunL.ok (OpOk.move rfl) rfl ?_
    refine RunL.call cal29 rfl (s29a (by assumption)) rfl (fun vx4 Ax4 hx4 => ?_)
    obtain ⟨rfl, rfl⟩ := hx4
    refine RunL.ok (OpOk.move rfl) rfl ?_
    refine RunL.ok (OpOk.ext20 rfl) rfl ?_
    refine RunL.ok (OpOk.ext21 rfl) rfl ?_
    refine RunL.ok (OpOk.assign rfl) rfl ?_
    refine RunL.ok (OpOk.assign rfl) rfl ?_
    refine RunL.nil ?_
    refine Run.seq ?_
    refine Run.seq ?_
    refine Run.region ?_
    refine RunL.ok (OpOk.move rfl) rfl ?_
    refine RunL.ok (OpOk.eqlPN rfl rfl) rfl ?_
    refine RunL.ok (OpOk.move rfl) rfl ?_
    refine RunL.off rfl rfl rfl rfl ?_
    refine RunL.off rfl rfl rfl rfl ?_
    refine RunL.ok (OpOk.pickT rfl rfl) rfl ?_
    refine RunL.ok (OpOk.move rfl) rfl ?_
    refine RunL.off rfl rfl rfl rfl ?_
    refine RunL.off rfl rfl rfl rfl ?_
    refine RunL.ok (OpOk.pickT rfl rfl) rfl ?_
    refine RunL.ok (OpOk.move rfl) rfl ?_
    refine RunL.off rfl rfl rfl rfl ?_
    refine RunL.off rfl rfl rfl rfl ?_
    refine RunL.ok (OpOk.pickT rfl rfl) rfl ?_
    refine RunL.nil ?_
    refine Run.condT rfl ?_
    refine Run.seq ?_
    refine Run.region ?_
    refine RunL.ok (OpOk.move rfl) rfl ?_
    refine RunL.ok (OpOk.asT (OpOk.lss rfl rfl) (by omega)) rfl ?_
    refine RunL.ok (OpOk.assign rfl) rfl ?_
    refine RunL.nil ?_
    refine Run.ret1 Try.func9 rfl rfl ?_
    exact ⟨rfl, ⟨_, as1⟩⟩
  · refine Run.seq ?_
    refine Run.region ?_
    refine RunL.ok (OpOk.assign rfl) rfl ?_
    refine RunL.nil ?_
    refine Run.seq ?_
    refine Run.seq ?_
    refine Run.region ?_
    refine RunL.call cal28 rfl (s28) rfl (fun vx1 Ax1 hx1 => ?_)
    obtain ⟨x2, ⟨rfl, rfl⟩⟩ := hx1
    refine RunL.ok (OpOk.not rfl) rfl ?_
    refine RunL.nil ?_
    refine Run.condF rfl ?_
    refine Run.skip ?_
    refine Run.seq ?_
    refine Run.region ?_
    refine RunL.ok (OpOk.move rfl) rfl ?_
    refine RunL.call cal29 rfl (s29b (by assumption)) rfl (fun vx4 Ax4 hx4 => ?_)
    obtain ⟨x5, ⟨x6, ⟨rfl, rfl⟩⟩⟩ := hx4
    refine RunL.ok (OpOk.move rfl) rfl ?_
    refine RunL.ok (OpOk.ext20 rfl) rfl ?_
    refine RunL.ok (OpOk.ext21 rfl) rfl ?_
    refine RunL.ok (OpOk.assign rfl) rfl ?_
    refine RunL.ok (OpOk.assign rfl) rfl ?_
    refine RunL.nil ?_
    refine Run.seq ?_
    refine Run.region ?_
    refine RunL.ok (OpOk.move rfl) rfl ?_
    refine RunL.call cal29 rfl (s29b (by assumption)) rfl (fun vx8 Ax8 hx8 => ?_)
    obtain ⟨x9, ⟨x10, ⟨rfl, rfl⟩⟩⟩ := hx8
    refine RunL.ok (OpOk.move rfl) rfl ?_
    refine RunL.ok (OpOk.ext20 rfl) rfl ?_
    refine RunL.ok (OpOk.ext21 rfl) rfl ?_
    refine RunL.ok (OpOk.assign rfl) rfl ?_
    refine RunL.ok (OpOk.assign rfl) rfl ?_
    refine RunL.nil ?_
    refine Run.seq ?_
    refine Run.seq ?_
    refine Run.region ?_
    refine RunL.ok (OpOk.move rfl) rfl ?_
    refine RunL.ok (OpOk.eqlPN rfl rfl) rfl ?_
    refine RunL.ok (OpOk.move rfl) rfl ?_
    refine RunL.on rfl rfl ?_
    refine RunL.ok (OpOk.move rfl) rfl ?_
    refine RunL.on rfl rfl ?_
    refine RunL.ok (OpOk.eqlPN rfl rfl) rfl ?_
    refine RunL.ok (OpOk.pickF rfl rfl) rfl ?_
    refine RunL.ok (OpOk.move rfl) rfl ?_
    refine RunL.on rfl rfl ?_
    refine RunL.ok (OpOk.move rfl) rfl ?_
    refine RunL.on rfl rfl ?_
    refine RunL.ok (OpOk.as (c := false) (OpOk.neq rfl rfl) (by rw [decide_eq_true (by omega)]; rfl)) rfl ?_
    refine RunL.ok (OpOk.pickF rfl rfl) rfl ?_
    refine RunL.ok (OpOk.move rfl) rfl ?_
    refine RunL.on rfl rfl ?_
    refine RunL.ok (OpOk.move rfl) rfl ?_
    refine RunL.on rfl rfl ?_
    refine RunL.ok (OpOk.as (c := false) (OpOk.neq rfl rfl) (by rw [decide_eq_true (by omega)]; rfl)) rfl ?_
    refine RunL.ok (OpOk.pickF rfl rfl) rfl ?_
    refine RunL.nil ?_
    refine Run.condF rfl ?_
    refine Run.skip ?_
    refine Run.seq ?_
    refine Run.region ?_
    refine RunL.ok (OpOk.move rfl) rfl ?_
    refine RunL.ok (OpOk.move rfl) rfl ?_
    refine RunL.mem (frc (frl (frl rfl)) (frc (frl (frl rfl)) rfl)) ?_
    refine RunL.call cal30 rfl (s30) rfl (fun vx11 Ax11 hx11 => ?_)
    obtain ⟨rfl, rfl⟩ := hx11
    refine RunL.nil ?_
    refine Run.seq ?_
    refine Run.region ?_
    refine RunL.ok (OpOk.move rfl) rfl ?_
    refine RunL.ok (OpOk.move rfl) rfl ?_
    refine RunL.mem (frc (frl (frl rfl)) (frc (frl (frl rfl)) rfl)) ?_
    refine RunL.call cal30 rfl (s30) rfl (fun vx12 Ax12 hx12 => ?_)
    obtain ⟨rfl, rfl⟩ := hx12
    refine RunL.nil ?_
    refine Run.seq ?_
    refine Run.region ?_
    refine RunL.ok (OpOk.assign rfl) rfl ?_
    refine RunL.nil ?_
    refine Run.seq ?_
    refine Run.seq ?_
    refine Run.region ?_
    refine RunL.ok (OpOk.assign rfl) rfl ?_
    refine RunL.nil ?_
    refine Run.block ?_
    refine Run.jump ((Run.loopJ (X := Nat) (fun i => [(12, .int .i64 (i : Int)), (11, .int .i64 ((flatB (ls.take i)).length : Int)), (9, .pointer (some ⟨x9, 0, none⟩)), (7, .pointer (some ⟨x5, 0, none⟩)), (0, .int .i64 s), (1, .int .i64 n), (2, u)]) (fun _ => old w0 * x2 * pts x5 (.cells #[.int .i64 (s), .int .i64 (max n (-1)), x6] 100 (0, 0)) * own 5 1 x6 ((List.nil : List UInt8)).length (B ((List.nil : List UInt8))) * pts x9 (.cells #[.int .i64 (s), .int .i64 (max n (-1)), x10] 100 (0, 0)) * own 5 1 x10 ((List.nil : List UInt8)).length (B ((List.nil : List UInt8)))) (fun i => i ≤ ls.length) (fun i => ls.length - i) 0 (Nat.zero_le _) (fun i hi ih => ?_))) ⟨rfl, rfl, rfl, rfl, rfl, rfl, rfl, trivial⟩ ((Grew.refl _))
    rcases Nat.lt_or_ge i ls.length with hlt | hge
    · have hv := Fl_V ls i hlt
      have rdi : Rd w0 (old w0) (ls.getD i default).1 1 (ls.getD i default).2.length (B (ls.getD i default).2) := al.get hlt
      have hftl := congrArg List.length (flatB_take hlt)
      rw [List.length_append] at hftl
      have hf2 := flatB_le ls (i + 1)
      refine Run.seq ?_
      refine Run.seq ?_
      refine Run.region ?_
      refine RunL.ok (OpOk.move rfl) rfl ?_
      refine RunL.ok (OpOk.move rfl) rfl ?_
      refine RunL.ok (OpOk.lenR rfl rfl rd.left.left.left.left.left rfl) rfl ?_
      refine RunL.ok (OpOk.asT (OpOk.lss rfl rfl) (by omega)) rfl ?_
      refine RunL.nil ?_
      refine Run.condT rfl ?_
      refine Run.skip ?_
      refine Run.seq ?_
      refine Run.block ?_
      refine Run.region ?_
      refine RunL.ok (OpOk.move rfl) rfl ?_
      refine RunL.ok (OpOk.move rfl) rfl ?_
      refine RunL.ok (OpOk.move rfl) rfl ?_
      refine RunL.ok (OpOk.idx1N rfl ti37 rfl rd.left.left.left.left.left rfl (by omega)) rfl ?_
      refine RunL.ok (OpOk.load rfl rfl rfl (Rd.cell rd.left.left.left.left.left (by first | assumption | rfl))) rfl ?_
      refine RunL.ok (OpOk.lenR rfl rfl rdi.left.left.left.left.left rfl) rfl ?_
      refine RunL.ok (OpOk.addN _ _ rfl rfl rfl rfl (by omega)) rfl ?_
      refine RunL.ok (OpOk.assign rfl) rfl ?_
      refine RunL.nil ?_
      refine Run.inBlock ?_
      refine Run.region ?_
      refine RunL.ok (OpOk.move rfl) rfl ?_
      refine RunL.ok (OpOk.addN _ 1 rfl rfl rfl rfl (by omega)) rfl ?_
      refine RunL.ok (OpOk.assign rfl) rfl ?_
      refine RunL.nil ?_
      refine Run.jump ((ih (i + 1) (by omega) (by omega))) ⟨rfl, lkI rfl (by omega), rfl, rfl, rfl, rfl, rfl, trivial⟩ ((Grew.refl _))
    · obtain rfl : i = ls.length := by omega
      rw [List.take_length]
      clear ih
      have h0 : (List.nil : List UInt8).length = 0 := rfl
      rcases Int.lt_or_le s (flatB ls).length with hf | hf
      · refine Run.seq ?_
        refine Run.seq ?_
        refine Run.region ?_
        refine RunL.ok (OpOk.move rfl) rfl ?_
        refine RunL.ok (OpOk.move rfl) rfl ?_
        refine RunL.ok (OpOk.lenR rfl rfl rd.left.left.left.left.left rfl) rfl ?_
        refine RunL.ok (OpOk.asF (OpOk.lss rfl rfl) (by omega)) rfl ?_
        refine RunL.nil ?_
        refine Run.condF rfl ?_
        refine Run.exit rfl ?_
        refine Run.seq ?_
        refine Run.region ?_
        refine RunL.ok (OpOk.move rfl) rfl ?_
        refine RunL.ok (OpOk.move rfl) rfl ?_
        refine RunL.mem (frc (frl (frl rfl)) (frc (frl (frl rfl)) rfl)) ?_
        refine RunL.call cal32 rfl (s32a rd.left.left.left al.left.left.left (by omega) (by assumption) (by assumption) (by assumption) (by omega)) rfl (fun vy1 Ay1 hy1 => ?_)
        obtain ⟨y2, ⟨y3, ⟨rfl, rfl⟩⟩⟩ := hy1
        refine RunL.ok (OpOk.assign rfl) rfl ?_
        refine RunL.nil ?_
        refine Run.seq ?_
        refine Run.seq ?_
        refine Run.region ?_
        refine RunL.ok (OpOk.move rfl) rfl ?_
        refine RunL.ok (OpOk.move rfl) rfl ?_
        refine RunL.ok (OpOk.asT (OpOk.gtr rfl rfl) (by omega)) rfl ?_
        refine RunL.nil ?_
        refine Run.condT rfl ?_
        refine Run.seq ?_
        refine Run.region ?_
        refine RunL.ok (OpOk.move rfl) rfl ?_
        refine RunL.ok (OpOk.asT (OpOk.eql rfl rfl) (by omega)) rfl ?_
        refine RunL.ok (OpOk.move rfl) rfl ?_
        refine RunL.on rfl rfl ?_
        refine RunL.ok (OpOk.move rfl) rfl ?_
        refine RunL.on rfl rfl ?_
        refine RunL.call cal33 rfl (s33) rfl (fun vy4 Ay4 hy4 => ?_)
        obtain ⟨rfl, rfl⟩ := hy4
        refine RunL.on rfl rfl ?_
        refine RunL.ok (OpOk.asT (OpOk.eql rfl rfl) (by omega)) rfl ?_
        refine RunL.ok (OpOk.pickT rfl rfl) rfl ?_
        refine RunL.ok (OpOk.assign rfl) rfl ?_
        refine RunL.nil ?_
        refine Run.ret1 Try.func9 rfl rfl ?_
        exact ⟨rfl, ⟨_, (asg (asg (asg (asg (asg as1)))))⟩⟩
      · rcases Int.lt_or_le n 0 with hw | hw
        · refine Run.seq ?_
          refine Run.seq ?_
          refine Run.region ?_
          refine RunL.ok (OpOk.move rfl) rfl ?_
          refine RunL.ok (OpOk.move rfl) rfl ?_
          refine RunL.ok (OpOk.lenR rfl rfl rd.left.left.left.left.left rfl) rfl ?_
          refine RunL.ok (OpOk.asF (OpOk.lss rfl rfl) (by omega)) rfl ?_
          refine RunL.nil ?_
          refine Run.condF rfl ?_
          refine Run.exit rfl ?_
          refine Run.seq ?_
          refine Run.region ?_
          refine RunL.ok (OpOk.move rfl) rfl ?_
          refine RunL.ok (OpOk.move rfl) rfl ?_
          refine RunL.mem (frc (frl (frl rfl)) (frc (frl (frl rfl)) rfl)) ?_
          refine RunL.call cal32 rfl (s32b rd.left.left.left al.left.left.left (by omega) (by omega) (by assumption) (by assumption) (by omega)) rfl (fun vy2 Ay2 hy2 => ?_)
          obtain ⟨y3, ⟨y4, ⟨rfl, rfl⟩⟩⟩ := hy2
          refine RunL.ok (OpOk.assign rfl) rfl ?_
          refine RunL.nil ?_
          refine Run.seq ?_
          refine Run.seq ?_
          refine Run.region ?_
          refine RunL.ok (OpOk.move rfl) rfl ?_
          refine RunL.ok (OpOk.move rfl) rfl ?_
          refine RunL.ok (OpOk.asF (OpOk.gtr rfl rfl) (by omega)) rfl ?_
          refine RunL.nil ?_
          refine Run.condF rfl ?_
          refine Run.skip ?_
          refine Run.seq ?_
          refine Run.seq ?_
          refine Run.region ?_
          refine RunL.ok (OpOk.assign rfl) rfl ?_
          refine RunL.nil ?_
          refine Run.block ?_
          simp only [List.nil_append]
          refine Run.jump ((Run.loopJ (X := Nat × Asn × Value × Int × List UInt8) (fun x => [(14, .int .i64 (x.1 : Int)), (13, .int .i64 0), (11, .int .i64 ((flatB ls).length : Int)), (9, .pointer (some ⟨x9, 0, none⟩)), (7, .pointer (some ⟨x5, 0, none⟩)), (0, .int .i64 s), (1, .int .i64 n), (2, u)]) (fun x => old w0 * x.2.1 * pts x5 (.cells #[.int .i64 (s), .int .i64 (max n (-1)), y3] 100 (0, 0)) * own 5 1 y3 (flatB ls).length (B (flatB ls)) * pts x9 (.cells #[.int .i64 (s), .int .i64 (x.2.2.2.1), x.2.2.1] 100 (0, 0)) * own 5 1 x.2.2.1 (x.2.2.2.2).length (B (x.2.2.2.2))) (fun x => x.1 ≤ ls.length ∧ x.2.2.2.1 = leftW (max n (-1)) (flatB (ls.take x.1)) ∧ x.2.2.2.2 = heldB (max n (-1)) (flatB (ls.take x.1))) (fun x => ls.length - x.1) (0, _, x10, max n (-1), []) ⟨Nat.zero_le _, (held_nil _).1, (held_nil _).2⟩ (fun x hx ih3 => ?_))) ⟨rfl, rfl, rfl, rfl, rfl, rfl, rfl, rfl, trivial⟩ (Grew.of (Eq.trans (frc (frl (frl (frl rfl))) (frc (frl (frl (frl rfl))) rfl)) (congrArg (· * _) (congrArg (· * _) (congrArg (· * _) (congrArg (· * _) (asg as1)))))) (Grew.refl _))
          obtain ⟨i, J, v, w, b⟩ := x
          simp only at hx ih3 ⊢
          obtain ⟨hx, rfl, rfl⟩ := hx
          rcases Nat.lt_or_ge i ls.length with hlt | hge
          · have hv := Fl_V ls i hlt
            have rdi : Rd w0 (old w0) (ls.getD i default).1 1 (ls.getD i default).2.length (B (ls.getD i default).2) := al.get hlt
            have hft := flatB_take hlt
            have hftl := congrArg List.length hft
            rw [List.length_append] at hftl
            have hf2 := flatB_le ls (i + 1)
            have hhl := heldB_le (max n (-1)) (flatB (ls.take i))
            have hone := flatB_one (ls.getD i default).1 (ls.getD i default).2
            have honl := congrArg List.length hone
            rcases Int.lt_or_le n 0 with hneg | hpos
            · obtain ⟨g1, g2⟩ := held_free (w := max n (-1)) (by omega) (flatB (ls.take i))
              obtain ⟨g3, g4⟩ := held_free (w := max n (-1)) (by omega) (flatB (ls.take (i + 1)))
              rw [g2]
              refine Run.seq ?_
              refine Run.seq ?_
              refine Run.region ?_
              refine RunL.ok (OpOk.move rfl) rfl ?_
              refine RunL.ok (OpOk.move rfl) rfl ?_
              refine RunL.ok (OpOk.lenR rfl rfl rd.left.left.left.left.left rfl) rfl ?_
              refine RunL.ok (OpOk.asT (OpOk.lss rfl rfl) (by omega)) rfl ?_
              refine RunL.nil ?_
              refine Run.condT rfl ?_
              refine Run.skip ?_
              refine Run.seq ?_
              refine Run.block ?_
              refine Run.region ?_
              refine RunL.ok (OpOk.move rfl) rfl ?_
              refine RunL.ok (OpOk.move rfl) rfl ?_
              refine RunL.ok (OpOk.move rfl) rfl ?_
              refine RunL.ok (OpOk.idx1N rfl ti37 rfl rd.left.left.left.left.left rfl (by omega)) rfl ?_
              refine RunL.ok (OpOk.load rfl rfl rfl (Rd.cell rd.left.left.left.left.left (by first | assumption | rfl))) rfl ?_
              have alt1 : Alls (GB w0) _ [((ls.getD i default).fst, (ls.getD i default).snd)] := (Alls.cons (GB.of rdi) Alls.nil)
              refine RunL.litV (ls := [((ls.getD i default).fst, (ls.getD i default).snd)]) alt1.left.left.left.left.left rfl ti37 rfl rfl rfl (by decide) rfl (fun vt1 rdt1 => ?_)
              refine RunL.know (fun w s => (s.conv rfl).ownRd0) (fun rdt2 => ?_)
              refine RunL.mem (frc (frl rfl) (frc (frl rfl) rfl)) ?_
              refine RunL.call cal32 rfl (s32b (Rd.right rdt2) alt1.left.left.left.left (by omega) (by omega) (by assumption) (by assumption) (by omega)) rfl (fun vt4 At4 ht4 => ?_)
              obtain ⟨t5, ⟨t6, ⟨rfl, rfl⟩⟩⟩ := ht4
              refine RunL.nil ?_
              refine Run.inBlock ?_
              refine Run.region ?_
              refine RunL.ok (OpOk.move rfl) rfl ?_
              refine RunL.ok (OpOk.addN _ 1 rfl rfl rfl rfl (by omega)) rfl ?_
              refine RunL.ok (OpOk.assign rfl) rfl ?_
              refine RunL.nil ?_
              rw [hone, g1, ← hft]
              refine Run.jump ((ih3 (i + 1, _, _, max n (-1), flatB (ls.take (i + 1))) ⟨by simp; omega, g4.symm, g3.symm⟩ (by simp; omega))) ⟨rfl, rfl, rfl, rfl, rfl, rfl, rfl, rfl, trivial⟩ (Grew.of (Eq.trans (frc rfl (frc rfl (frc (frl (frl rfl)) (frc (frl (frl rfl)) rfl)))) (congrArg (· * _) (congrArg (· * _) (congrArg (· * _) (congrArg (· * _) (asg (asg as1))))))) (Grew.refl _))
            · omega
          · obtain rfl : i = ls.length := by omega
            rw [List.take_length] at *
            clear ih3
            obtain ⟨g1, g2⟩ := held_free (w := max n (-1)) (by omega) (flatB ls)
            rw [g1, g2]
            refine Run.seq ?_
            refine Run.seq ?_
            refine Run.region ?_
            refine RunL.ok (OpOk.move rfl) rfl ?_
            refine RunL.ok (OpOk.move rfl) rfl ?_
            refine RunL.ok (OpOk.lenR rfl rfl rd.left.left.left.left.left rfl) rfl ?_
            refine RunL.ok (OpOk.asF (OpOk.lss rfl rfl) (by omega)) rfl ?_
            refine RunL.nil ?_
            refine Run.condF rfl ?_
            refine Run.exit rfl ?_
            refine Run.seq ?_
            refine Run.seq ?_
            refine Run.region ?_
            refine RunL.ok (OpOk.move rfl) rfl ?_
            refine RunL.ok (OpOk.asF (OpOk.geq rfl rfl) (by omega)) rfl ?_
            refine RunL.ok (OpOk.move rfl) rfl ?_
            refine RunL.off rfl rfl rfl rfl ?_
            refine RunL.off rfl rfl rfl rfl ?_
            refine RunL.off rfl rfl rfl rfl ?_
            refine RunL.ok (OpOk.pickF rfl rfl) rfl ?_
            refine RunL.nil ?_
            refine Run.condF rfl ?_
            refine Run.skip ?_
            refine Run.seq ?_
            refine Run.know (fun w s => (s.conv (frl (frl rfl))).ownRd0) (fun rdt1 => ?_)
            refine Run.know (fun w s => (s.conv rfl).ownRd0) (fun rdt2 => ?_)
            (apply Run.drawD [] (by rfl) (Eq.trans rfl (asg (asg (asg rfl)))); case hchk => kernel_rfl)
            refine Sd.quiet 0 _ _ rfl rfl rfl rfl rfl (QOp.ok (fun X => OpOk.move rfl)) ?_
            refine Sd.quiet 1 _ _ rfl rfl rfl rfl rfl (QOp.ok (fun X => OpOk.asT (OpOk.eql rfl rfl) (by omega))) ?_
            refine Sd.quiet 2 _ _ rfl rfl rfl rfl rfl (QOp.ok (fun X => OpOk.move rfl)) ?_
            refine Sd.quiet 3 _ _ rfl rfl rfl rfl rfl (QOp.ok (fun X => OpOk.move rfl)) ?_
            refine Sd.quiet 6 _ _ rfl rfl rfl rfl rfl (QOp.ok (fun X => OpOk.move rfl)) ?_
            (refine Sd.exec 4 rfl rfl rfl rfl rfl ?hrest (by rfl) (fun Xt3 Kt3 hKt3 => ?_); case hrest => kernel_rfl)
            refine RunL.mem (fl2 (sep_emp _) (flS (flS (flS rfl)))) ?_
            refine RunL.mem (frc (frl (frl rfl)) (frc (frl (frl rfl)) rfl)) ?_
            refine RunL.call cal31 rfl (s31 (by omega)) rfl (fun vt4 At4 ht4 => ?_)
            obtain rfl := ht4
            refine RunL.know (fun w s => (s.conv rfl).ownRd0) (fun rdt5 => ?_)
            refine Sd.ret hKt3 (Eq.trans (frc (frl (frl (frl rfl))) (frc (frl (frl (frl rfl))) rfl)) (gp2 (asg rfl) (asg (asg rfl)))) ⟨_, (emp_sep _).symm⟩ ?_
            refine Sd.quiet 5 _ _ rfl rfl rfl rfl rfl (QOp.ok (fun X => OpOk.strOf rfl rfl rfl rfl (Rd.right (Rd.right rdt5)).left)) ?_
            (refine Sd.exec 7 rfl rfl rfl rfl rfl ?hrest (by rfl) (fun Xt6 Kt6 hKt6 => ?_); case hrest => kernel_rfl)
            refine RunL.mem (fl2 (flS (flS rfl)) (flS rfl)) ?_
            refine RunL.call cal31 rfl (s31 (by omega)) rfl (fun vt7 At7 ht7 => ?_)
            obtain rfl := ht7
            refine RunL.know (fun w s => (s.conv rfl).ownRd0) (fun rdt8 => ?_)
            refine Sd.ret hKt6 (Eq.trans rfl (gp2 (sep_emp _).symm (asg (asg (asg (asg (asg rfl))))))) ⟨_, (asg (asg rfl))⟩ ?_
            refine Sd.quiet 8 _ _ rfl rfl rfl rfl rfl (QOp.ok (fun X => OpOk.strOf rfl rfl rfl rfl (Rd.right (Rd.right rdt8)).left)) ?_
            refine Sd.quiet 9 _ _ rfl rfl rfl rfl rfl (QOp.ok (fun X => OpOk.eqlSS rfl rfl)) ?_
            refine Sd.quiet 10 _ _ rfl rfl rfl rfl rfl (QOp.ok (fun X => OpOk.pickT rfl rfl)) ?_
            refine Sd.quiet 11 _ _ rfl rfl rfl rfl rfl (QOp.ok (fun X => OpOk.assign rfl)) ?_
            (apply Sd.tail; case hall => kernel_rfl)
            refine RunL.mem (fl2 (flS (flS (flS (flS (flS rfl))))) (sep_emp _)) ?_
            refine RunL.nil ?_
            refine Run.ret1 Try.func9 rfl rfl ?_
            rw [decide_eq_true (by first | omega | with_reducible rfl | assumption)]
            exact ⟨rfl, ⟨_, (asg (asg (asg (asg (asg (asg as1))))))⟩⟩
        · rcases Int.lt_or_le n (flatB ls).length with hn | hn
          · refine Run.seq ?_
            refine Run.seq ?_
            refine Run.region ?_
            refine RunL.ok (OpOk.move rfl) rfl ?_
            refine RunL.ok (OpOk.move rfl) rfl ?_
            refine RunL.ok (OpOk.lenR rfl rfl rd.left.left.left.left.left rfl) rfl ?_
            refine RunL.ok (OpOk.asF (OpOk.lss rfl rfl) (by omega)) rfl ?_
            refine RunL.nil ?_
            refine Run.condF rfl ?_
            refine Run.exit rfl ?_
            refine Run.seq ?_
            refine Run.region ?_
            refine RunL.ok (OpOk.move rfl) rfl ?_
            refine RunL.ok (OpOk.move rfl) rfl ?_
            refine RunL.mem (frc (frl (frl rfl)) (frc (frl (frl rfl)) rfl)) ?_
            refine RunL.call cal32 rfl (s32d rd.left.left.left al.left.left.left (by omega) (by omega) (by omega) (by assumption) (by assumption) (by omega)) rfl (fun vy4 Ay4 hy4 => ?_)
            obtain ⟨y5, ⟨y6, ⟨rfl, rfl⟩⟩⟩ := hy4
            refine RunL.ok (OpOk.assign rfl) rfl ?_
            refine RunL.nil ?_
            refine Run.seq ?_
            refine Run.seq ?_
            refine Run.region ?_
            refine RunL.ok (OpOk.move rfl) rfl ?_
            refine RunL.ok (OpOk.move rfl) rfl ?_
            refine RunL.ok (OpOk.asF (OpOk.gtr rfl rfl) (by omega)) rfl ?_
            refine RunL.nil ?_
            refine Run.condF rfl ?_
            refine Run.skip ?_
            refine Run.seq ?_
            refine Run.seq ?_
            refine Run.region ?_
            refine RunL.ok (OpOk.assign rfl) rfl ?_
            refine RunL.nil ?_
            refine Run.block ?_
            simp only [List.nil_append]
            refine Run.jump ((Run.loopJ (X := Nat × Asn × Value × Int × List UInt8) (fun x => [(14, .int .i64 (x.1 : Int)), (13, .int .i64 30), (11, .int .i64 ((flatB ls).length : Int)), (9, .pointer (some ⟨x9, 0, none⟩)), (7, .pointer (some ⟨x5, 0, none⟩)), (0, .int .i64 s), (1, .int .i64 n), (2, u)]) (fun x => old w0 * x.2.1 * pts x5 (.cells #[.int .i64 (s), .int .i64 (0), y5] 100 (0, 0)) * own 5 1 y5 (List.take (max n (-1)).toNat (flatB ls)).length (B (List.take (max n (-1)).toNat (flatB ls))) * pts x9 (.cells #[.int .i64 (s), .int .i64 (x.2.2.2.1), x.2.2.1] 100 (0, 0)) * own 5 1 x.2.2.1 (x.2.2.2.2).length (B (x.2.2.2.2))) (fun x => x.1 ≤ ls.length ∧ x.2.2.2.1 = leftW (max n (-1)) (flatB (ls.take x.1)) ∧ x.2.2.2.2 = heldB (max n (-1)) (flatB (ls.take x.1))) (fun x => ls.length - x.1) (0, _, x10, max n (-1), []) ⟨Nat.zero_le _, (held_nil _).1, (held_nil _).2⟩ (fun x hx ih3 => ?_))) ⟨rfl, rfl, rfl, rfl, rfl, rfl, rfl, rfl, trivial⟩ (Grew.of (Eq.trans (frc (frl (frl (frl rfl))) (frc (frl (frl (frl rfl))) rfl)) (congrArg (· * _) (congrArg (· * _) (congrArg (· * _) (congrArg (· * _) (asg as1)))))) (Grew.refl _))
            obtain ⟨i, J, v, w, b⟩ := x
            simp only at hx ih3 ⊢
            obtain ⟨hx, rfl, rfl⟩ := hx
            rcases Nat.lt_or_ge i ls.length with hlt | hge
            · have hv := Fl_V ls i hlt
              have rdi : Rd w0 (old w0) (ls.getD i default).1 1 (ls.getD i default).2.length (B (ls.getD i default).2) := al.get hlt
              have hft := flatB_take hlt
              have hftl := congrArg List.length hft
              rw [List.length_append] at hftl
              have hf2 := flatB_le ls (i + 1)
              have hhl := heldB_le (max n (-1)) (flatB (ls.take i))
              have hone := flatB_one (ls.getD i default).1 (ls.getD i default).2
              have honl := congrArg List.length hone
              rcases Int.lt_or_le n 0 with hneg | hpos
              · omega
              · obtain ⟨g5, g6⟩ := left_le (w := max n (-1)) (flatB (ls.take i)) (by omega)
                rcases Int.lt_or_le (leftW (max n (-1)) (flatB (ls.take i))) (ls.getD i default).2.length with hc | hc
                · obtain ⟨g1, g2⟩ := held_torn (w := max n (-1)) (by omega) hc
                  refine Run.seq ?_
                  refine Run.seq ?_
                  refine Run.region ?_
                  refine RunL.ok (OpOk.move rfl) rfl ?_
                  refine RunL.ok (OpOk.move rfl) rfl ?_
                  refine RunL.ok (OpOk.lenR rfl rfl rd.left.left.left.left.left rfl) rfl ?_
                  refine RunL.ok (OpOk.asT (OpOk.lss rfl rfl) (by omega)) rfl ?_
                  refine RunL.nil ?_
                  refine Run.condT rfl ?_
                  refine Run.skip ?_
                  refine Run.seq ?_
                  refine Run.block ?_
                  refine Run.region ?_
                  refine RunL.ok (OpOk.move rfl) rfl ?_
                  refine RunL.ok (OpOk.move rfl) rfl ?_
                  refine RunL.ok (OpOk.move rfl) rfl ?_
                  refine RunL.ok (OpOk.idx1N rfl ti37 rfl rd.left.left.left.left.left rfl (by omega)) rfl ?_
                  refine RunL.ok (OpOk.load rfl rfl rfl (Rd.cell rd.left.left.left.left.left (by first | assumption | rfl))) rfl ?_
                  have alt1 : Alls (GB w0) _ [((ls.getD i default).fst, (ls.getD i default).snd)] := (Alls.cons (GB.of rdi) Alls.nil)
                  refine RunL.litV (ls := [((ls.getD i default).fst, (ls.getD i default).snd)]) alt1.left.left.left.left.left rfl ti37 rfl rfl rfl (by decide) rfl (fun vt1 rdt1 => ?_)
                  refine RunL.know (fun w s => (s.conv rfl).ownRd0) (fun rdt2 => ?_)
                  refine RunL.mem (frc (frl rfl) (frc (frl rfl) rfl)) ?_
                  refine RunL.call cal32 rfl (s32d (Rd.right rdt2) alt1.left.left.left.left (by omega) (by assumption) (by omega) (by assumption) (by assumption) (by omega)) rfl (fun vt6 At6 ht6 => ?_)
                  obtain ⟨t7, ⟨t8, ⟨rfl, rfl⟩⟩⟩ := ht6
                  refine RunL.nil ?_
                  refine Run.inBlock ?_
                  refine Run.region ?_
                  refine RunL.ok (OpOk.move rfl) rfl ?_
                  refine RunL.ok (OpOk.addN _ 1 rfl rfl rfl rfl (by omega)) rfl ?_
                  refine RunL.ok (OpOk.assign rfl) rfl ?_
                  refine RunL.nil ?_
                  simp only [hone, g1, ← hft]
                  refine Run.jump ((ih3 (i + 1, _, _, 0, heldB (max n (-1)) (flatB (ls.take (i + 1)))) ⟨by simp; omega, by show (0 : Int) = leftW (max n (-1)) (flatB (ls.take (i + 1))); rw [hft]; exact g2, rfl⟩ (by simp; omega))) ⟨rfl, rfl, rfl, rfl, rfl, rfl, rfl, rfl, trivial⟩ (Grew.of (Eq.trans (frc rfl (frc rfl (frc (frl (frl rfl)) (frc (frl (frl rfl)) rfl)))) (congrArg (· * _) (congrArg (· * _) (congrArg (· * _) (congrArg (· * _) (asg (asg as1))))))) (Grew.refl _))
                · obtain ⟨g1, g2⟩ := held_fits (w := max n (-1)) (by omega) hc
                  refine Run.seq ?_
                  refine Run.seq ?_
                  refine Run.region ?_
                  refine RunL.ok (OpOk.move rfl) rfl ?_
                  refine RunL.ok (OpOk.move rfl) rfl ?_
                  refine RunL.ok (OpOk.lenR rfl rfl rd.left.left.left.left.left rfl) rfl ?_
                  refine RunL.ok (OpOk.asT (OpOk.lss rfl rfl) (by omega)) rfl ?_
                  refine RunL.nil ?_
                  refine Run.condT rfl ?_
                  refine Run.skip ?_
                  refine Run.seq ?_
                  refine Run.block ?_
                  refine Run.region ?_
                  refine RunL.ok (OpOk.move rfl) rfl ?_
                  refine RunL.ok (OpOk.move rfl) rfl ?_
                  refine RunL.ok (OpOk.move rfl) rfl ?_
                  refine RunL.ok (OpOk.idx1N rfl ti37 rfl rd.left.left.left.left.left rfl (by omega)) rfl ?_
                  refine RunL.ok (OpOk.load rfl rfl rfl (Rd.cell rd.left.left.left.left.left (by first | assumption | rfl))) rfl ?_
                  have alt1 : Alls (GB w0) _ [((ls.getD i default).fst, (ls.getD i default).snd)] := (Alls.cons (GB.of rdi) Alls.nil)
                  refine RunL.litV (ls := [((ls.getD i default).fst, (ls.getD i default).snd)]) alt1.left.left.left.left.left rfl ti37 rfl rfl rfl (by decide) rfl (fun vt1 rdt1 => ?_)
                  refine RunL.know (fun w s => (s.conv rfl).ownRd0) (fun rdt2 => ?_)
                  refine RunL.mem (frc (frl rfl) (frc (frl rfl) rfl)) ?_
                  refine RunL.call cal32 rfl (s32c (Rd.right rdt2) alt1.left.left.left.left (by omega) (by assumption) (by omega) (by assumption) (by assumption) (by omega) (by omega)) rfl (fun vt5 At5 ht5 => ?_)
                  obtain ⟨t6, ⟨t7, ⟨rfl, rfl⟩⟩⟩ := ht5
                  refine RunL.nil ?_
                  refine Run.inBlock ?_
                  refine Run.region ?_
                  refine RunL.ok (OpOk.move rfl) rfl ?_
                  refine RunL.ok (OpOk.addN _ 1 rfl rfl rfl rfl (by omega)) rfl ?_
                  refine RunL.ok (OpOk.assign rfl) rfl ?_
                  refine RunL.nil ?_
                  rw [hone, g1, g2, ← hft]
                  refine Run.jump ((ih3 (i + 1, _, _, leftW (max n (-1)) (flatB (ls.take (i + 1))), heldB (max n (-1)) (flatB (ls.take (i + 1)))) ⟨by simp; omega, rfl, rfl⟩ (by simp; omega))) ⟨rfl, rfl, rfl, rfl, rfl, rfl, rfl, rfl, trivial⟩ (Grew.of (Eq.trans (frc rfl (frc rfl (frc (frl (frl rfl)) (frc (frl (frl rfl)) rfl)))) (congrArg (· * _) (congrArg (· * _) (congrArg (· * _) (congrArg (· * _) (asg (asg as1))))))) (Grew.refl _))
            · obtain rfl : i = ls.length := by omega
              rw [List.take_length] at *
              clear ih3
              have g1 : heldB (max n (-1)) (flatB ls) = (flatB ls).take (max n (-1)).toNat := if_neg (by omega)
              have g2 : ((flatB ls).take (max n (-1)).toNat).length = n.toNat := by rw [List.length_take]; omega
              rw [g1]
              refine Run.seq ?_
              refine Run.seq ?_
              refine Run.region ?_
              refine RunL.ok (OpOk.move rfl) rfl ?_
              refine RunL.ok (OpOk.move rfl) rfl ?_
              refine RunL.ok (OpOk.lenR rfl rfl rd.left.left.left.left.left rfl) rfl ?_
              refine RunL.ok (OpOk.asF (OpOk.lss rfl rfl) (by omega)) rfl ?_
              refine RunL.nil ?_
              refine Run.condF rfl ?_
              refine Run.exit rfl ?_
              refine Run.seq ?_
              refine Run.seq ?_
              refine Run.region ?_
              refine RunL.ok (OpOk.move rfl) rfl ?_
              refine RunL.ok (OpOk.asT (OpOk.geq rfl rfl) (by omega)) rfl ?_
              refine RunL.ok (OpOk.move rfl) rfl ?_
              refine RunL.on rfl rfl ?_
              refine RunL.ok (OpOk.move rfl) rfl ?_
              refine RunL.on rfl rfl ?_
              refine RunL.ok (OpOk.move rfl) rfl ?_
              refine RunL.on rfl rfl ?_
              refine RunL.ok (OpOk.asT (OpOk.lss rfl rfl) (by omega)) rfl ?_
              refine RunL.ok (OpOk.pickT rfl rfl) rfl ?_
              refine RunL.nil ?_
              refine Run.condT rfl ?_
              refine Run.seq ?_
              refine Run.know (fun w s => (s.conv (frl (frl rfl))).ownRd0) (fun rdt1 => ?_)
              refine Run.know (fun w s => (s.conv rfl).ownRd0) (fun rdt2 => ?_)
              (apply Run.drawD [] (by rfl) (Eq.trans rfl (asg (asg (asg rfl)))); case hchk => kernel_rfl)
              refine Sd.quiet 0 _ _ rfl rfl rfl rfl rfl (QOp.ok (fun X => OpOk.move rfl)) ?_
              refine Sd.quiet 1 _ _ rfl rfl rfl rfl rfl (QOp.ok (fun X => OpOk.asT (OpOk.eql rfl rfl) (by omega))) ?_
              refine Sd.quiet 2 _ _ rfl rfl rfl rfl rfl (QOp.ok (fun X => OpOk.move rfl)) ?_
              refine Sd.quiet 3 _ _ rfl rfl rfl rfl rfl (QOp.ok (fun X => OpOk.move rfl)) ?_
              refine Sd.quiet 6 _ _ rfl rfl rfl rfl rfl (QOp.ok (fun X => OpOk.move rfl)) ?_
              (refine Sd.exec 4 rfl rfl rfl rfl rfl ?hrest (by rfl) (fun Xt3 Kt3 hKt3 => ?_); case hrest => kernel_rfl)
              refine RunL.mem (fl2 (sep_emp _) (flS (flS (flS rfl)))) ?_
              refine RunL.mem (frc (frl (frl rfl)) (frc (frl (frl rfl)) rfl)) ?_
              refine RunL.call cal31 rfl (s31 (by omega)) rfl (fun vt4 At4 ht4 => ?_)
              obtain rfl := ht4
              refine RunL.know (fun w s => (s.conv rfl).ownRd0) (fun rdt5 => ?_)
              refine Sd.ret hKt3 (Eq.trans (frc (frl rfl) (frc (frl rfl) (frc (frl rfl) (frc (frl rfl) rfl)))) (gp2 (asg (asg (asg rfl))) rfl)) ⟨_, (emp_sep _).symm⟩ ?_
              refine Sd.quiet 5 _ _ rfl rfl rfl rfl rfl (QOp.ok (fun X => OpOk.strOf rfl rfl rfl rfl (Rd.right rdt5).left)) ?_
              (refine Sd.exec 7 rfl rfl rfl rfl rfl ?hrest (by rfl) (fun Xt6 Kt6 hKt6 => ?_); case hrest => kernel_rfl)
              refine RunL.mem (fl2 rfl (flS (flS (flS rfl)))) ?_
              refine RunL.mem (frc (frl (frl rfl)) (frc (frl (frl rfl)) rfl)) ?_
              refine RunL.call cal31 rfl (s31 (by omega)) rfl (fun vt7 At7 ht7 => ?_)
              obtain rfl := ht7
              refine RunL.know (fun w s => (s.conv rfl).ownRd0) (fun rdt8 => ?_)
              refine Sd.ret hKt6 (Eq.trans (frc (frl (frl (frl rfl))) (frc (frl (frl (frl rfl))) rfl)) (gp2 (asg rfl) (asg (asg (asg rfl))))) ⟨_, (asg (asg rfl))⟩ ?_
              refine Sd.quiet 8 _ _ rfl rfl rfl rfl rfl (QOp.ok (fun X => OpOk.strOf rfl rfl rfl rfl (Rd.right (Rd.right rdt8)).left)) ?_
              refine Sd.quiet 9 _ _ rfl rfl rfl rfl rfl (QOp.ok (fun X => OpOk.eqlSS rfl rfl)) ?_
              refine Sd.quiet 10 _ _ rfl rfl rfl rfl rfl (QOp.ok (fun X => OpOk.pickT rfl rfl)) ?_
              refine Sd.quiet 11 _ _ rfl rfl rfl rfl rfl (QOp.ok (fun X => OpOk.move rfl)) ?_
              refine Sd.splitBT (decide_eq_true (by first | omega | with_reducible rfl | assumption)) ?_
              refine Sd.quiet 12 _ _ rfl rfl rfl rfl rfl (QOp.ok (fun X => OpOk.move rfl)) ?_
              refine Sd.quiet 14 _ _ rfl rfl rfl rfl rfl (QOp.ok (fun X => OpOk.move rfl)) ?_
              (refine Sd.exec 13 rfl rfl rfl rfl rfl ?hrest (by rfl) (fun Xt9 Kt9 hKt9 => ?_); case hrest => kernel_rfl)
              refine RunL.mem (fl2 (flS (flS (flS rfl))) (flS rfl)) ?_
              refine RunL.call cal33 rfl (s33) rfl (fun vt10 At10 ht10 => ?_)
              obtain ⟨rfl, rfl⟩ := ht10
              refine Sd.ret hKt9 (Eq.trans rfl (gp2 (sep_emp _).symm (asg (asg (asg (asg (asg rfl))))))) ⟨_, (asg rfl)⟩ ?_
              refine Sd.quiet 15 _ _ rfl rfl rfl rfl rfl (QOp.ok (fun X => OpOk.asT (OpOk.eql rfl rfl) (by omega))) ?_
              refine Sd.quiet 16 _ _ rfl rfl rfl rfl rfl (QOp.ok (fun X => OpOk.pickT rfl rfl)) ?_
              refine Sd.quiet 17 _ _ rfl rfl rfl rfl rfl (QOp.ok (fun X => OpOk.assign rfl)) ?_
              (apply Sd.tail; case hall => kernel_rfl)
              refine RunL.mem (fl2 (flS (flS (flS (flS (flS rfl))))) (sep_emp _)) ?_
              refine RunL.nil ?_
              refine Run.ret1 Try.func9 rfl rfl ?_
              exact ⟨rfl, ⟨_, (asg (asg (asg (asg (asg (asg as1))))))⟩⟩
          · refine Run.seq ?_
            refine Run.seq ?_
            refine Run.region ?_
            refine RunL.ok (OpOk.move rfl) rfl ?_
            refine RunL.ok (OpOk.move rfl) rfl ?_
            refine RunL.ok (OpOk.lenR rfl rfl rd.left.left.left.left.left rfl) rfl ?_
            refine RunL.ok (OpOk.asF (OpOk.lss rfl rfl) (by omega)) rfl ?_
            refine RunL.nil ?_
            refine Run.condF rfl ?_
            refine Run.exit rfl ?_
            refine Run.seq ?_
            refine Run.region ?_
            refine RunL.ok (OpOk.move rfl) rfl ?_
            refine RunL.ok (OpOk.move rfl) rfl ?_
            refine RunL.mem (frc (frl (frl rfl)) (frc (frl (frl rfl)) rfl)) ?_
            refine RunL.call cal32 rfl (s32c rd.left.left.left al.left.left.left (by omega) (by omega) (by omega) (by assumption) (by assumption) (by assumption) (by omega)) rfl (fun vy3 Ay3 hy3 => ?_)
            obtain ⟨y4, ⟨y5, ⟨rfl, rfl⟩⟩⟩ := hy3
            refine RunL.ok (OpOk.assign rfl) rfl ?_
            refine RunL.nil ?_
            refine Run.seq ?_
            refine Run.seq ?_
            refine Run.region ?_
            refine RunL.ok (OpOk.move rfl) rfl ?_
            refine RunL.ok (OpOk.move rfl) rfl ?_
            refine RunL.ok (OpOk.asF (OpOk.gtr rfl rfl) (by omega)) rfl ?_
            refine RunL.nil ?_
            refine Run.condF rfl ?_
            refine Run.skip ?_
            refine Run.seq ?_
            refine Run.seq ?_
            refine Run.region ?_
            refine RunL.ok (OpOk.assign rfl) rfl ?_
            refine RunL.nil ?_
            refine Run.block ?_
            simp only [List.nil_append]
            refine Run.jump ((Run.loopJ (X := Nat × Asn × Value × Int × List UInt8) (fun x => [(14, .int .i64 (x.1 : Int)), (13, .int .i64 0), (11, .int .i64 ((flatB ls).length : Int)), (9, .pointer (some ⟨x9, 0, none⟩)), (7, .pointer (some ⟨x5, 0, none⟩)), (0, .int .i64 s), (1, .int .i64 n), (2, u)]) (fun x => old w0 * x.2.1 * pts x5 (.cells #[.int .i64 (s), .int .i64 (max n (-1) - ((flatB ls).length : Int)), y4] 100 (0, 0)) * own 5 1 y4 (flatB ls).length (B (flatB ls)) * pts x9 (.cells #[.int .i64 (s), .int .i64 (x.2.2.2.1), x.2.2.1] 100 (0, 0)) * own 5 1 x.2.2.1 (x.2.2.2.2).length (B (x.2.2.2.2))) (fun x => x.1 ≤ ls.length ∧ x.2.2.2.1 = leftW (max n (-1)) (flatB (ls.take x.1)) ∧ x.2.2.2.2 = heldB (max n (-1)) (flatB (ls.take x.1))) (fun x => ls.length - x.1) (0, _, x10, max n (-1), []) ⟨Nat.zero_le _, (held_nil _).1, (held_nil _).2⟩ (fun x hx ih3 => ?_))) ⟨rfl, rfl, rfl, rfl, rfl, rfl, rfl, rfl, trivial⟩ (Grew.of (Eq.trans (frc (frl (frl (frl rfl))) (frc (frl (frl (frl rfl))) rfl)) (congrArg (· * _) (congrArg (· * _) (congrArg (· * _) (congrArg (· * _) (asg as1)))))) (Grew.refl _))
            obtain ⟨i, J, v, w, b⟩ := x
            simp only at hx ih3 ⊢
            obtain ⟨hx, rfl, rfl⟩ := hx
            rcases Nat.lt_or_ge i ls.length with hlt | hge
            · have hv := Fl_V ls i hlt
              have rdi : Rd w0 (old w0) (ls.getD i default).1 1 (ls.getD i default).2.length (B (ls.getD i default).2) := al.get hlt
              have hft := flatB_take hlt
              have hftl := congrArg List.length hft
              rw [List.length_append] at hftl
              have hf2 := flatB_le ls (i + 1)
              have hhl := heldB_le (max n (-1)) (flatB (ls.take i))
              have hone := flatB_one (ls.getD i default).1 (ls.getD i default).2
              have honl := congrArg List.length hone
              rcases Int.lt_or_le n 0 with hneg | hpos
              · omega
              · obtain ⟨g5, g6⟩ := left_le (w := max n (-1)) (flatB (ls.take i)) (by omega)
                rcases Int.lt_or_le (leftW (max n (-1)) (flatB (ls.take i))) (ls.getD i default).2.length with hc | hc
                · obtain ⟨g1, g2⟩ := held_torn (w := max n (-1)) (by omega) hc
                  refine Run.seq ?_
                  refine Run.seq ?_
                  refine Run.region ?_
                  refine RunL.ok (OpOk.move rfl) rfl ?_
                  refine RunL.ok (OpOk.move rfl) rfl ?_
                  refine RunL.ok (OpOk.lenR rfl rfl rd.left.left.left.left.left rfl) rfl ?_
                  refine RunL.ok (OpOk.asT (OpOk.lss rfl rfl) (by omega)) rfl ?_
                  refine RunL.nil ?_
                  refine Run.condT rfl ?_
                  refine Run.skip ?_
                  refine Run.seq ?_
                  refine Run.block ?_
                  refine Run.region ?_
                  refine RunL.ok (OpOk.move rfl) rfl ?_
                  refine RunL.ok (OpOk.move rfl) rfl ?_
                  refine RunL.ok (OpOk.move rfl) rfl ?_
                  refine RunL.ok (OpOk.idx1N rfl ti37 rfl rd.left.left.left.left.left rfl (by omega)) rfl ?_
                  refine RunL.ok (OpOk.load rfl rfl rfl (Rd.cell rd.left.left.left.left.left (by first | assumption | rfl))) rfl ?_
                  have alt1 : Alls (GB w0) _ [((ls.getD i default).fst, (ls.getD i default).snd)] := (Alls.cons (GB.of rdi) Alls.nil)
                  refine RunL.litV (ls := [((ls.getD i default).fst, (ls.getD i default).snd)]) alt1.left.left.left.left.left rfl ti37 rfl rfl rfl (by decide) rfl (fun vt1 rdt1 => ?_)
                  refine RunL.know (fun w s => (s.conv rfl).ownRd0) (fun rdt2 => ?_)
                  refine RunL.mem (frc (frl rfl) (frc (frl rfl) rfl)) ?_
                  refine RunL.call cal32 rfl (s32d (Rd.right rdt2) alt1.left.left.left.left (by omega) (by assumption) (by omega) (by assumption) (by assumption) (by omega)) rfl (fun vt6 At6 ht6 => ?_)
                  obtain ⟨t7, ⟨t8, ⟨rfl, rfl⟩⟩⟩ := ht6
                  refine RunL.nil ?_
                  refine Run.inBlock ?_
                  refine Run.region ?_
                  refine RunL.ok (OpOk.move rfl) rfl ?_
                  refine RunL.ok (OpOk.addN _ 1 rfl rfl rfl rfl (by omega)) rfl ?_
                  refine RunL.ok (OpOk.assign rfl) rfl ?_
                  refine RunL.nil ?_
                  simp only [hone, g1, ← hft]
                  refine Run.jump ((ih3 (i + 1, _, _, 0, heldB (max n (-1)) (flatB (ls.take (i + 1)))) ⟨by simp; omega, by show (0 : Int) = leftW (max n (-1)) (flatB (ls.take (i + 1))); rw [hft]; exact g2, rfl⟩ (by simp; omega))) ⟨rfl, rfl, rfl, rfl, rfl, rfl, rfl, rfl, trivial⟩ (Grew.of (Eq.trans (frc rfl (frc rfl (frc (frl (frl rfl)) (frc (frl (frl rfl)) rfl)))) (congrArg (· * _) (congrArg (· * _) (congrArg (· * _) (congrArg (· * _) (asg (asg as1))))))) (Grew.refl _))
                · obtain ⟨g1, g2⟩ := held_fits (w := max n (-1)) (by omega) hc
                  refine Run.seq ?_
                  refine Run.seq ?_
                  refine Run.region ?_
                  refine RunL.ok (OpOk.move rfl) rfl ?_
                  refine RunL.ok (OpOk.move rfl) rfl ?_
                  refine RunL.ok (OpOk.lenR rfl rfl rd.left.left.left.left.left rfl) rfl ?_
                  refine RunL.ok (OpOk.asT (OpOk.lss rfl rfl) (by omega)) rfl ?_
                  refine RunL.nil ?_
                  refine Run.condT rfl ?_
                  refine Run.skip ?_
                  refine Run.seq ?_
                  refine Run.block ?_
                  refine Run.region ?_
                  refine RunL.ok (OpOk.move rfl) rfl ?_
                  refine RunL.ok (OpOk.move rfl) rfl ?_
                  refine RunL.ok (OpOk.move rfl) rfl ?_
                  refine RunL.ok (OpOk.idx1N rfl ti37 rfl rd.left.left.left.left.left rfl (by omega)) rfl ?_
                  refine RunL.ok (OpOk.load rfl rfl rfl (Rd.cell rd.left.left.left.left.left (by first | assumption | rfl))) rfl ?_
                  have alt1 : Alls (GB w0) _ [((ls.getD i default).fst, (ls.getD i default).snd)] := (Alls.cons (GB.of rdi) Alls.nil)
                  refine RunL.litV (ls := [((ls.getD i default).fst, (ls.getD i default).snd)]) alt1.left.left.left.left.left rfl ti37 rfl rfl rfl (by decide) rfl (fun vt1 rdt1 => ?_)
                  refine RunL.know (fun w s => (s.conv rfl).ownRd0) (fun rdt2 => ?_)
                  refine RunL.mem (frc (frl rfl) (frc (frl rfl) rfl)) ?_
                  refine RunL.call cal32 rfl (s32c (Rd.right rdt2) alt1.left.left.left.left (by omega) (by assumption) (by omega) (by assumption) (by assumption) (by omega) (by omega)) rfl (fun vt5 At5 ht5 => ?_)
                  obtain ⟨t6, ⟨t7, ⟨rfl, rfl⟩⟩⟩ := ht5
                  refine RunL.nil ?_
                  refine Run.inBlock ?_
                  refine Run.region ?_
                  refine RunL.ok (OpOk.move rfl) rfl ?_
                  refine RunL.ok (OpOk.addN _ 1 rfl rfl rfl rfl (by omega)) rfl ?_
                  refine RunL.ok (OpOk.assign rfl) rfl ?_
                  refine RunL.nil ?_
                  rw [hone, g1, g2, ← hft]
                  refine Run.jump ((ih3 (i + 1, _, _, leftW (max n (-1)) (flatB (ls.take (i + 1))), heldB (max n (-1)) (flatB (ls.take (i + 1)))) ⟨by simp; omega, rfl, rfl⟩ (by simp; omega))) ⟨rfl, rfl, rfl, rfl, rfl, rfl, rfl, rfl, trivial⟩ (Grew.of (Eq.trans (frc rfl (frc rfl (frc (frl (frl rfl)) (frc (frl (frl rfl)) rfl)))) (congrArg (· * _) (congrArg (· * _) (congrArg (· * _) (congrArg (· * _) (asg (asg as1))))))) (Grew.refl _))
            · obtain rfl : i = ls.length := by omega
              rw [List.take_length] at *
              clear ih3
              have g1 : heldB (max n (-1)) (flatB ls) = flatB ls := by unfold heldB; rw [if_neg (by omega), List.take_of_length_le (by omega)]
              rw [g1]
              refine Run.seq ?_
              refine Run.seq ?_
              refine Run.region ?_
              refine RunL.ok (OpOk.move rfl) rfl ?_
              refine RunL.ok (OpOk.move rfl) rfl ?_
              refine RunL.ok (OpOk.lenR rfl rfl rd.left.left.left.left.left rfl) rfl ?_
              refine RunL.ok (OpOk.asF (OpOk.lss rfl rfl) (by omega)) rfl ?_
              refine RunL.nil ?_
              refine Run.condF rfl ?_
              refine Run.exit rfl ?_
              refine Run.seq ?_
              refine Run.seq ?_
              refine Run.region ?_
              refine RunL.ok (OpOk.move rfl) rfl ?_
              refine RunL.ok (OpOk.asT (OpOk.geq rfl rfl) (by omega)) rfl ?_
              refine RunL.ok (OpOk.move rfl) rfl ?_
              refine RunL.on rfl rfl ?_
              refine RunL.ok (OpOk.move rfl) rfl ?_
              refine RunL.on rfl rfl ?_
              refine RunL.ok (OpOk.move rfl) rfl ?_
              refine RunL.on rfl rfl ?_
              refine RunL.ok (OpOk.asF (OpOk.lss rfl rfl) (by omega)) rfl ?_
              refine RunL.ok (OpOk.pickT rfl rfl) rfl ?_
              refine RunL.nil ?_
              refine Run.condF rfl ?_
              refine Run.skip ?_
              refine Run.seq ?_
              refine Run.know (fun w s => (s.conv (frl (frl rfl))).ownRd0) (fun rdt1 => ?_)
              refine Run.know (fun w s => (s.conv rfl).ownRd0) (fun rdt2 => ?_)
              (apply Run.drawD [] (by rfl) (Eq.trans rfl (asg (asg (asg rfl)))); case hchk => kernel_rfl)
              refine Sd.quiet 0 _ _ rfl rfl rfl rfl rfl (QOp.ok (fun X => OpOk.move rfl)) ?_
              refine Sd.quiet 1 _ _ rfl rfl rfl rfl rfl (QOp.ok (fun X => OpOk.asT (OpOk.eql rfl rfl) (by omega))) ?_
              refine Sd.quiet 2 _ _ rfl rfl rfl rfl rfl (QOp.ok (fun X => OpOk.move rfl)) ?_
              refine Sd.quiet 3 _ _ rfl rfl rfl rfl rfl (QOp.ok (fun X => OpOk.move rfl)) ?_
              refine Sd.quiet 6 _ _ rfl rfl rfl rfl rfl (QOp.ok (fun X => OpOk.move rfl)) ?_
              (refine Sd.exec 4 rfl rfl rfl rfl rfl ?hrest (by rfl) (fun Xt3 Kt3 hKt3 => ?_); case hrest => kernel_rfl)
              refine RunL.mem (fl2 (sep_emp _) (flS (flS (flS rfl)))) ?_
              refine RunL.mem (frc (frl (frl rfl)) (frc (frl (frl rfl)) rfl)) ?_
              refine RunL.call cal31 rfl (s31 (by omega)) rfl (fun vt4 At4 ht4 => ?_)
              obtain rfl := ht4
              refine RunL.know (fun w s => (s.conv rfl).ownRd0) (fun rdt5 => ?_)
              refine Sd.ret hKt3 (Eq.trans (frc (frl (frl (frl rfl))) (frc (frl (frl (frl rfl))) rfl)) (gp2 (asg rfl) (asg (asg rfl)))) ⟨_, (emp_sep _).symm⟩ ?_
              refine Sd.quiet 5 _ _ rfl rfl rfl rfl rfl (QOp.ok (fun X => OpOk.strOf rfl rfl rfl rfl (Rd.right (Rd.right rdt5)).left)) ?_
              (refine Sd.exec 7 rfl rfl rfl rfl rfl ?hrest (by rfl) (fun Xt6 Kt6 hKt6 => ?_); case hrest => kernel_rfl)
              refine RunL.mem (fl2 (flS (flS rfl)) (flS rfl)) ?_
              refine RunL.call cal31 rfl (s31 (by omega)) rfl (fun vt7 At7 ht7 => ?_)
              obtain rfl := ht7
              refine RunL.know (fun w s => (s.conv rfl).ownRd0) (fun rdt8 => ?_)
              refine Sd.ret hKt6 (Eq.trans rfl (gp2 (sep_emp _).symm (asg (asg (asg (asg (asg rfl))))))) ⟨_, (asg (asg rfl))⟩ ?_
              refine Sd.quiet 8 _ _ rfl rfl rfl rfl rfl (QOp.ok (fun X => OpOk.strOf rfl rfl rfl rfl (Rd.right (Rd.right rdt8)).left)) ?_
              refine Sd.quiet 9 _ _ rfl rfl rfl rfl rfl (QOp.ok (fun X => OpOk.eqlSS rfl rfl)) ?_
              refine Sd.quiet 10 _ _ rfl rfl rfl rfl rfl (QOp.ok (fun X => OpOk.pickT rfl rfl)) ?_
              refine Sd.quiet 11 _ _ rfl rfl rfl rfl rfl (QOp.ok (fun X => OpOk.assign rfl)) ?_
              (apply Sd.tail; case hall => kernel_rfl)
              refine RunL.mem (fl2 (flS (flS (flS (flS (flS rfl))))) (sep_emp _)) ?_
              refine RunL.nil ?_
              refine Run.ret1 Try.func9 rfl rfl ?_
              rw [decide_eq_true (by first | omega | with_reducible rfl | assumption)]
              exact ⟨rfl, ⟨_, (asg (asg (asg (asg (asg (asg as1))))))⟩⟩
end Go.Proofs.Ytlmehpjcmdipmaa
