/- Journals opened. -/
import Derived.Test.YteopadjihklkmaaJnB
namespace Go.Proofs.Yteopadjihklkmaa
open Go Go.Proofs
set_option maxRecDepth 100000
set_option maxHeartbeats 4000000
set_option linter.unusedSimpArgs false
abbrev Rw := UInt8 × List UInt8
def saysN : Nat → List UInt8 → List Rw × Nat
  | 0, _ => ([], 0)
  | k + 1, d => match nextF d with
    | none => ([], 0)
    | some (kd, body, n) => ((kd, body) :: (saysN k (d.drop n)).1, n + (saysN k (d.drop n)).2)
/-- What a file's bytes say: rows, and how many bytes they have. -/
def says (d : List UInt8) : List Rw × Nat := saysN d.length d
theorem nextF_nil : nextF [] = none := by simp [nextF]
theorem saysN_succ : ∀ (k : Nat) (d : List UInt8), d.length ≤ k → saysN (k + 1) d = saysN k d
  | 0, d, h => by
    rw [List.eq_nil_of_length_eq_zero (by omega : d.length = 0)]
    simp only [saysN, nextF_nil]
  | k + 1, d, h => by
    rw [saysN, saysN]
    cases hn : nextF d with
    | none => rfl
    | some r =>
      obtain ⟨kd, body, n⟩ := r
      obtain ⟨_, h5, _⟩ := nextF_some hn
      dsimp only
      rw [saysN_succ k (d.drop n) (by rw [List.length_drop]; omega)]
theorem saysN_enough (d : List UInt8) : ∀ j : Nat, saysN (d.length + j) d = saysN d.length d
  | 0 => rfl
  | j + 1 => by rw [← Nat.add_assoc, saysN_succ _ _ (by omega), saysN_enough d j]
theorem says_none {d : List UInt8} (h : nextF d = none) : says d = ([], 0) := by
  rw [says, ← saysN_enough d 1, saysN, h]
theorem says_some {d body : List UInt8} {k : UInt8} {n : Nat} (h : nextF d = some (k, body, n)) : says d = ((k, body) :: (says (d.drop n)).1, n + (says (d.drop n)).2) := by
  obtain ⟨_, h5, hl, _⟩ := nextF_some h
  have e : saysN d.length (d.drop n) = says (d.drop n) := by
    have := saysN_enough (d.drop n) n
    rw [List.length_drop, Nat.sub_add_cancel hl] at this
    rw [this, says, List.length_drop]
  rw [says, ← saysN_enough d 1, saysN, h]
  dsimp only
  rw [e]
theorem says_nil : says [] = ([], 0) := says_none nextF_nil
/-- What a journal has: its snapshot, whether there is one, its records. -/
abbrev Cn := List UInt8 × Bool × List (List UInt8)
def takeC (c : Cn) (r : Rw) : Cn := if r.1.toNat = 2 then (r.2, true, []) else (c.1, c.2.1, c.2.2 ++ [r.2])
def c0 : Cn := ([], false, [])
def contC (d : List UInt8) : Cn := (says d).1.foldl takeC c0
section
variable {w0 : World} {A : Asn} {fp : Nat} {fv : Value} {s w : Int} {bs : List UInt8}
theorem s25a : Spec Try.prog w0 25 [.pointer none] A (fun v' A' => v' = .tuple #[.pointer none, .int .i64 2] ∧ A' = A) := by
  refine Spec.of_run [(0, .pointer none)] Try.func25 rfl (Nat.le_of_ble_eq_true rfl) (by repeat (first | exact trivial | refine ⟨rfl, ?_⟩)) ?_
  refine Run.seq ?_
  refine Run.region ?_
  refine RunL.ok (OpOk.assign rfl) rfl ?_
  refine RunL.ok (OpOk.assign rfl) rfl ?_
  refine RunL.nil ?_
  refine Run.seq ?_
  refine Run.seq ?_
  refine Run.region ?_
  refine RunL.ok (OpOk.move rfl) rfl ?_
  refine RunL.ok (OpOk.eqlPN rfl rfl) rfl ?_
  refine RunL.nil ?_
  refine Run.condT rfl ?_
  refine Run.seq ?_
  refine Run.region ?_
  refine RunL.ok (OpOk.assign rfl) rfl ?_
  refine RunL.ok (OpOk.assign rfl) rfl ?_
  refine RunL.nil ?_
  refine Run.ret2 Try.func25 rfl rfl rfl ?_
  exact ⟨rfl, rfl⟩
theorem s25b (hlim : bs.length ≤ 16777216) : Spec Try.prog w0 25 [.pointer (some ⟨fp, 0, none⟩)] (A * pts fp (.cells #[.int .i64 (s), .int .i64 (w), fv] 145 (0, 0)) * own 5 1 fv (bs).length (B (bs))) (fun v' A' => ∃ (p : Nat) (sv rv fv2 : Value) (recs : List (Value × List UInt8)) (J : Asn), v' = .tuple #[.pointer (some ⟨p, 0, none⟩), .int .i64 0] ∧ recs.map Prod.snd = (contC bs).2.2 ∧
    A' = A * J * pts fp (.cells #[.int .i64 (s), .int .i64 (w), fv2] 145 (0, 0)) * own 5 1 fv2 (bs.take (says bs).2).length (B (bs.take (says bs).2)) * pts p (.cells #[sv, .bool (contC bs).2.1, rv, .pointer (some ⟨fp, 0, none⟩), .bool false] 149 (0, 0)) * own 5 1 sv ((contC bs).1).length (B ((contC bs).1)) * own 63 1 rv (recs).length (Fl encV (recs)) * ownsB 5 (recs)) := by
  refine Spec.of_run [(0, .pointer (some ⟨fp, 0, none⟩))] Try.func25 rfl (Nat.le_of_ble_eq_true rfl) (by repeat (first | exact trivial | refine ⟨rfl, ?_⟩)) ?_
  refine Run.seq ?_
  refine Run.region ?_
  refine RunL.ok (OpOk.assign rfl) rfl ?_
  refine RunL.ok (OpOk.assign rfl) rfl ?_
  refine RunL.nil ?_
  refine Run.seq ?_
  refine Run.seq ?_
  refine Run.region ?_
  refine RunL.ok (OpOk.move rfl) rfl ?_
  refine RunL.ok (OpOk.eqlPN rfl rfl) rfl ?_
  refine RunL.nil ?_
  refine Run.condF rfl ?_
  refine Run.skip ?_
  refine Run.seq ?_
  refine Run.region ?_
  refine RunL.ok (OpOk.move rfl) rfl ?_
  refine RunL.ok (OpOk.build (cells := #[.slice (none) (0) (0), .bool (false), .slice (none) (0) (0), .pointer (some { block := fp, off := 0 }), .bool (false)]) rfl (fun w => run_build w 149 _ _ (by rfl))) rfl ?_
  refine RunL.box rfl rfl (fun bx1 => ?_)
  refine RunL.ok (OpOk.assign rfl) rfl ?_
  refine RunL.nil ?_
  refine Run.seq ?_
  refine Run.region ?_
  refine RunL.ok (OpOk.move rfl) rfl ?_
  refine RunL.mem (frc (frl rfl) (frc (frl rfl) rfl)) ?_
  refine RunL.call cal32 rfl (s32 (by omega)) rfl (fun vx2 Ax2 hx2 => ?_)
  obtain rfl := hx2
  refine RunL.ok (OpOk.assign rfl) rfl ?_
  refine RunL.nil ?_
  refine Run.seq ?_
  refine Run.region ?_
  refine RunL.ok (OpOk.assign rfl) rfl ?_
  refine RunL.nil ?_
  refine Run.seq ?_
  refine Run.block ?_
  have e1 : own 5 1 (Value.slice none 0 0) (List.length ([] : List UInt8)) (B ([] : List UInt8)) = emp := own_nil_eq 5 1
  have e2 : own 63 1 (Value.slice none 0 0) (List.length ([] : List (Value × List UInt8))) (Fl encV ([] : List (Value × List UInt8))) = emp := own_nil_eq 63 1
  refine Run.mem (A' := A * emp * pts fp (.cells #[.int .i64 (s), .int .i64 (w), fv] 145 (0, 0)) * own 5 1 fv (bs).length (B (bs)) * pts bx1 (.cells #[(Value.slice none 0 0), .bool false, (Value.slice none 0 0), .pointer (some ⟨fp, 0, none⟩), .bool false] 149 (0, 0)) * own 5 1 (Value.slice none 0 0) ((List.nil : List UInt8)).length (B ((List.nil : List UInt8))) * own 63 1 (Value.slice none 0 0) ((List.nil : List (Value × List UInt8))).length (Fl encV ((List.nil : List (Value × List UInt8)))) * ownsB 5 ((List.nil : List (Value × List UInt8))) * own 5 1 vx2 bs.length (B bs)) ?_ ?_
  · rw [e1, e2, ownsB_nil, sep_emp, sep_emp, sep_emp, sep_emp]
    exact (frc rfl (frc (frl (frl rfl)) rfl))
  · refine Run.jump ((Run.loopJ (X := Nat × Asn × (Value × List UInt8 × Bool) × Value × List (Value × List UInt8)) (fun x => [(6, .int .i64 (x.1 : Int)), (5, vx2), (4, .pointer (some ⟨bx1, 0, none⟩)), (0, .pointer (some ⟨fp, 0, none⟩))]) (fun x => A * x.2.1 * pts fp (.cells #[.int .i64 (s), .int .i64 (w), fv] 145 (0, 0)) * own 5 1 fv (bs).length (B (bs)) * pts bx1 (.cells #[(x.2.2.1.1), .bool (x.2.2.1.2.2), (x.2.2.2.1), .pointer (some ⟨fp, 0, none⟩), .bool false] 149 (0, 0)) * own 5 1 (x.2.2.1.1) ((x.2.2.1.2.1)).length (B ((x.2.2.1.2.1))) * own 63 1 (x.2.2.2.1) ((x.2.2.2.2)).length (Fl encV ((x.2.2.2.2))) * ownsB 5 ((x.2.2.2.2)) * own 5 1 vx2 bs.length (B bs)) (fun x => x.1 ≤ bs.length ∧ x.2.2.2.2.length ≤ x.1 ∧ (says bs).2 = x.1 + (says (bs.drop x.1)).2 ∧ contC bs = (says (bs.drop x.1)).1.foldl takeC (x.2.2.1.2.1, x.2.2.1.2.2, x.2.2.2.2.map Prod.snd)) (fun x => bs.length - x.1) (0, _, (.slice none 0 0, [], false), .slice none 0 0, []) ⟨Nat.zero_le _, Nat.le_refl _, by dsimp only; rw [List.drop_zero, Nat.zero_add], by dsimp only; rw [List.drop_zero]; rfl⟩ (fun x hx ih => ?_))) ⟨rfl, rfl, rfl, rfl, trivial⟩ (Grew.of (congrArg (· * _) (congrArg (· * _) (congrArg (· * _) (congrArg (· * _) (congrArg (· * _) (congrArg (· * _) (congrArg (· * _) as1))))))) (Grew.refl _))
    obtain ⟨at_, J, ⟨sv, snap, has⟩, rv, recs⟩ := x
    simp only at hx ih ⊢
    obtain ⟨hi, hrl, hsy, hct⟩ := hx
    refine Run.know (fun w s => s.ownRd0) (fun rdb => ?_)
    have rdd : Rd w0 (own 5 1 vx2 bs.length (B bs)) (Go.Proofs.Yteopadjihklkmaa.cutV vx2 at_ bs.length 1) 1 (bs.length - at_) (B (bs.drop at_)) := by
      have := Rd.cutB rdb hi (Nat.le_refl bs.length)
      rwa [List.take_of_length_le (by rw [List.length_drop]; exact Nat.le_refl _)] at this
    cases hn : nextF (bs.drop at_) with
    | none =>
      clear ih
      have hs := says_none hn
      rw [hs] at hsy hct
      dsimp only [List.foldl_nil] at hsy hct
      refine Run.block ?_
      refine Run.seq ?_
      refine Run.region ?_
      refine RunL.ok (OpOk.move rfl) rfl ?_
      refine RunL.ok (OpOk.move rfl) rfl ?_
      refine RunL.ok (OpOk.cut rfl ti5 rfl (Rd.right rdb) ⟨_, rfl⟩ rfl (by omega) (by omega)) rfl ?_
      refine RunL.know (fun w s => (s.conv (frl rfl)).ownsB0) (fun aly1 => ?_)
      refine RunL.call cal71 rfl (s71a (Rd.right rdd) (by assumption)) rfl (fun vy2 Ay2 hy2 => ?_)
      obtain ⟨y3, ⟨rfl, rfl⟩⟩ := hy2
      refine RunL.ok (OpOk.move rfl) rfl ?_
      refine RunL.ok (OpOk.ext40 rfl) rfl ?_
      refine RunL.ok (OpOk.ext41 rfl) rfl ?_
      refine RunL.ok (OpOk.ext42 rfl) rfl ?_
      refine RunL.ok (OpOk.ext43 rfl) rfl ?_
      refine RunL.ok (OpOk.assign rfl) rfl ?_
      refine RunL.ok (OpOk.assign rfl) rfl ?_
      refine RunL.ok (OpOk.assign rfl) rfl ?_
      refine RunL.ok (OpOk.assign rfl) rfl ?_
      refine RunL.nil ?_
      refine Run.seq ?_
      refine Run.seq ?_
      refine Run.region ?_
      refine RunL.ok (OpOk.move rfl) rfl ?_
      refine RunL.ok (OpOk.not rfl) rfl ?_
      refine RunL.nil ?_
      refine Run.condT rfl ?_
      refine Run.exit rfl ?_
      refine Run.seq ?_
      refine Run.region ?_
      refine RunL.ok (OpOk.move rfl) rfl ?_
      refine RunL.ok (OpOk.move rfl) rfl ?_
      refine RunL.mem (frc (frl (frl (frl (frl (frl (frl rfl)))))) (frc (frl (frl (frl (frl (frl (frl rfl)))))) rfl)) ?_
      refine RunL.call cal73 rfl (s73b (by omega) (by omega)) rfl (fun vy5 Ay5 hy5 => ?_)
      obtain ⟨y6, ⟨rfl, rfl⟩⟩ := hy5
      refine RunL.nil ?_
      refine Run.seq ?_
      refine Run.region ?_
      refine RunL.ok (OpOk.move rfl) rfl ?_
      refine RunL.ok (OpOk.assign rfl) rfl ?_
      refine RunL.ok (OpOk.assign rfl) rfl ?_
      refine RunL.nil ?_
      refine Run.ret2 Try.func25 rfl rfl rfl ?_
      have e5 : contC bs = (snap, has, recs.map Prod.snd) := hct
      rw [e5, hsy, Nat.add_zero, Int.toNat_natCast]
      exact ⟨bx1, sv, rv, y6, recs, J * own 5 1 vx2 bs.length (B bs) * y3, rfl, rfl, by dsimp only; ac_rfl⟩
    | some r =>
      obtain ⟨k, body, n⟩ := r
      obtain ⟨hb, h5, hnl, h65, hk, hbl⟩ := nextF_some hn
      have hs := says_some hn
      rw [List.length_drop] at hnl
      rw [hs] at hsy hct
      rw [List.drop_drop] at hsy hct
      rcases hk with hk | hk
      · have e6 : takeC (snap, has, recs.map Prod.snd) (k, body) = (snap, has, recs.map Prod.snd ++ [body]) := if_neg (by rw [hk]; decide)
        rw [List.foldl_cons, e6] at hct
        refine Run.block ?_
        refine Run.seq ?_
        refine Run.region ?_
        refine RunL.ok (OpOk.move rfl) rfl ?_
        refine RunL.ok (OpOk.move rfl) rfl ?_
        refine RunL.ok (OpOk.cut rfl ti5 rfl (Rd.right rdb) ⟨_, rfl⟩ rfl (by omega) (by omega)) rfl ?_
        refine RunL.know (fun w s => (s.conv (frl rfl)).ownsB0) (fun aly1 => ?_)
        refine RunL.call cal71 rfl (s71b (Rd.right rdd) (by assumption)) rfl (fun vy3 Ay3 hy3 => ?_)
        obtain ⟨y4, ⟨y5, ⟨rfl, ⟨rfl, rdy6⟩⟩⟩⟩ := hy3
        refine RunL.ok (OpOk.move rfl) rfl ?_
        refine RunL.ok (OpOk.ext40 rfl) rfl ?_
        refine RunL.ok (OpOk.ext41 rfl) rfl ?_
        refine RunL.ok (OpOk.ext42 rfl) rfl ?_
        refine RunL.ok (OpOk.ext43 rfl) rfl ?_
        refine RunL.ok (OpOk.assign rfl) rfl ?_
        refine RunL.ok (OpOk.assign rfl) rfl ?_
        refine RunL.ok (OpOk.assign rfl) rfl ?_
        refine RunL.ok (OpOk.assign rfl) rfl ?_
        refine RunL.nil ?_
        refine Run.seq ?_
        refine Run.seq ?_
        refine Run.region ?_
        refine RunL.ok (OpOk.move rfl) rfl ?_
        refine RunL.ok (OpOk.not rfl) rfl ?_
        refine RunL.nil ?_
        refine Run.condF rfl ?_
        refine Run.skip ?_
        refine Run.seq ?_
        refine Run.region ?_
        refine RunL.ok (OpOk.move rfl) rfl ?_
        refine RunL.ok (OpOk.nilOk rfl) rfl ?_
        refine RunL.ok (OpOk.fieldAddr fld149_0 rfl) rfl ?_
        refine RunL.ok (OpOk.move rfl) rfl ?_
        refine RunL.ok (OpOk.move rfl) rfl ?_
        refine RunL.mem (frc (frl (frl (frl rfl))) (frc (frl (frl (frl rfl))) (frc (frl (frl (frl rfl))) (frc (frl (frl (frl rfl))) rfl)))) ?_
        refine RunL.call cal72 rfl (s72b (Rd.right rdy6) (by omega) (by omega) (by omega)) rfl (fun vy8 Ay8 hy8 => ?_)
        obtain ⟨y9, ⟨y10, ⟨y11, ⟨rfl, rfl⟩⟩⟩⟩ := hy8
        refine RunL.nil ?_
        refine Run.region ?_
        refine RunL.ok (OpOk.move rfl) rfl ?_
        refine RunL.ok (OpOk.move rfl) rfl ?_
        refine RunL.ok (OpOk.addN _ _ rfl rfl rfl rfl (by omega)) rfl ?_
        refine RunL.ok (OpOk.assign rfl) rfl ?_
        refine RunL.nil ?_
        refine Run.inBlock ?_
        refine Run.jump ((ih (at_ + n, _, (sv, snap, has), y9, recs ++ [(y10, body)]) ⟨by dsimp only; omega, by dsimp only; rw [List.length_append, List.length_singleton]; omega, by dsimp only; omega, by dsimp only; rw [List.map_append]; exact hct⟩ (by dsimp only; omega))) ⟨rfl, rfl, rfl, rfl, trivial⟩ (Grew.of (Eq.trans (frc (frl (frl (frl (frl (frl (frl (frl rfl))))))) (frc rfl (frc rfl (frc rfl (frc rfl (frc (frl (frl (frl rfl))) (frc (frl (frl (frl rfl))) rfl))))))) (congrArg (· * _) (congrArg (· * _) (congrArg (· * _) (congrArg (· * _) (congrArg (· * _) (congrArg (· * _) (congrArg (· * _) (asg (asg (asg as1))))))))))) (Grew.refl _))
      · have e6 : takeC (snap, has, recs.map Prod.snd) (k, body) = (body, true, []) := if_pos hk
        rw [List.foldl_cons, e6] at hct
        refine Run.block ?_
        refine Run.seq ?_
        refine Run.region ?_
        refine RunL.ok (OpOk.move rfl) rfl ?_
        refine RunL.ok (OpOk.move rfl) rfl ?_
        refine RunL.ok (OpOk.cut rfl ti5 rfl (Rd.right rdb) ⟨_, rfl⟩ rfl (by omega) (by omega)) rfl ?_
        refine RunL.know (fun w s => (s.conv (frl rfl)).ownsB0) (fun aly1 => ?_)
        refine RunL.call cal71 rfl (s71b (Rd.right rdd) (by assumption)) rfl (fun vy3 Ay3 hy3 => ?_)
        obtain ⟨y4, ⟨y5, ⟨rfl, ⟨rfl, rdy6⟩⟩⟩⟩ := hy3
        refine RunL.ok (OpOk.move rfl) rfl ?_
        refine RunL.ok (OpOk.ext40 rfl) rfl ?_
        refine RunL.ok (OpOk.ext41 rfl) rfl ?_
        refine RunL.ok (OpOk.ext42 rfl) rfl ?_
        refine RunL.ok (OpOk.ext43 rfl) rfl ?_
        refine RunL.ok (OpOk.assign rfl) rfl ?_
        refine RunL.ok (OpOk.assign rfl) rfl ?_
        refine RunL.ok (OpOk.assign rfl) rfl ?_
        refine RunL.ok (OpOk.assign rfl) rfl ?_
        refine RunL.nil ?_
        refine Run.seq ?_
        refine Run.seq ?_
        refine Run.region ?_
        refine RunL.ok (OpOk.move rfl) rfl ?_
        refine RunL.ok (OpOk.not rfl) rfl ?_
        refine RunL.nil ?_
        refine Run.condF rfl ?_
        refine Run.skip ?_
        refine Run.seq ?_
        refine Run.region ?_
        refine RunL.ok (OpOk.move rfl) rfl ?_
        refine RunL.ok (OpOk.nilOk rfl) rfl ?_
        refine RunL.ok (OpOk.fieldAddr fld149_0 rfl) rfl ?_
        refine RunL.ok (OpOk.move rfl) rfl ?_
        refine RunL.ok (OpOk.move rfl) rfl ?_
        refine RunL.mem (frc (frl (frl (frl rfl))) (frc (frl (frl (frl rfl))) (frc (frl (frl (frl rfl))) (frc (frl (frl (frl rfl))) rfl)))) ?_
        refine RunL.call cal72 rfl (s72a (Rd.right rdy6) (by omega) (by omega)) rfl (fun vy7 Ay7 hy7 => ?_)
        obtain ⟨y8, ⟨y9, ⟨rfl, rfl⟩⟩⟩ := hy7
        refine RunL.nil ?_
        refine Run.region ?_
        refine RunL.ok (OpOk.move rfl) rfl ?_
        refine RunL.ok (OpOk.move rfl) rfl ?_
        refine RunL.ok (OpOk.addN _ _ rfl rfl rfl rfl (by omega)) rfl ?_
        refine RunL.ok (OpOk.assign rfl) rfl ?_
        refine RunL.nil ?_
        refine Run.inBlock ?_
        refine Run.jump ((ih (at_ + n, _, (y8, body, true), .slice none 0 0, []) ⟨by dsimp only; omega, by dsimp only; exact Nat.zero_le _, by dsimp only; omega, hct⟩ (by dsimp only; omega))) ⟨rfl, rfl, rfl, rfl, trivial⟩ (Grew.of (Eq.trans (frc (frl (frl (frl (frl (frl (frl (frl rfl))))))) (frc rfl (frc rfl (frc rfl (frc rfl (frc (frl (frl (frl rfl))) (frc (frl (frl (frl rfl))) rfl))))))) (congrArg (· * _) (congrArg (· * _) (congrArg (· * _) (congrArg (· * _) (congrArg (· * _) (congrArg (· * _) (congrArg (· * _) (asg (asg (asg as1))))))))))) (Grew.refl _))
end
end Go.Proofs.Yteopadjihklkmaa
