/- Lists of bytes, one behind the other. -/
import Derived.Test.YteopadjihklkmaaLib
import Derived.Test.YteopadjihklkmaaBi
namespace Go.Proofs.Yteopadjihklkmaa
open Go Go.Proofs
set_option maxRecDepth 100000
set_option maxHeartbeats 4000000
/-- Grow of nil: room alone. -/
theorem s107 {w0 : World} {A : Asn} {m : Nat} (hm : m ≤ 140737488355328) :
    Spec Try.prog w0 107 [.slice none 0 0, .int .i64 m] A (fun v' A' => A' = A * own 5 1 v' 0 (B [])) := by
  refine Spec.of_run [(0, .slice none 0 0), (1, .int .i64 m)] Try.func107 rfl (Nat.le_of_ble_eq_true rfl) (by repeat (first | exact trivial | refine ⟨rfl, ?_⟩)) ?_
  repeat (first | refine Run.seq ?_ | refine Run.region ?_ | refine Run.skip ?_ | refine Run.block ?_ | refine Run.inBlock ?_ | refine Run.exit rfl ?_ | refine RunL.nil ?_ | refine RunL.ok (OpOk.assign rfl) rfl ?_ | refine RunL.ok (OpOk.move rfl) rfl ?_ | refine RunL.ok (OpOk.lss rfl rfl) rfl ?_ | refine RunL.ok (OpOk.capV rfl rfl rfl) rfl ?_ | refine RunL.ok (OpOk.lenR rfl rfl (by first | assumption | (apply Rd.left; first | assumption | (apply Rd.left; first | assumption | (apply Rd.left; first | assumption | (apply Rd.left; first | assumption | (apply Rd.left; first | assumption | (apply Rd.left; first | assumption | (apply Rd.left; first | assumption | (apply Rd.left; first | assumption | (apply Rd.left; first | assumption | (apply Rd.left; first | assumption | (apply Rd.left; first | assumption | (apply Rd.left; first | assumption | (apply Rd.left; first | assumption | (apply Rd.left; assumption))))))))))))))) rfl) rfl ?_ | refine RunL.ok (OpOk.lenV rfl rfl rfl) rfl ?_ | refine RunL.ok (OpOk.sub rfl rfl (by first | exact wrapI (by omega) (by omega) | exact wrapU8 (by omega) (by omega) | exact wrapU16 (by omega) (by omega) | exact wrapU64 (by omega) (by omega) | exact wrapU8m _ | exact wrapU16m _ | rfl)) rfl ?_ | refine RunL.ok (OpOk.gtr rfl rfl) rfl ?_)
  refine Run.condD rfl (fun h => ?_) (fun h => ?_)
  · omega
  · repeat (first | refine Run.seq ?_ | refine Run.region ?_ | refine Run.skip ?_ | refine Run.block ?_ | refine Run.inBlock ?_ | refine Run.exit rfl ?_ | refine RunL.nil ?_ | refine RunL.ok (OpOk.assign rfl) rfl ?_ | refine RunL.ok (OpOk.move rfl) rfl ?_ | refine RunL.ok (OpOk.lss rfl rfl) rfl ?_ | refine RunL.ok (OpOk.capV rfl rfl rfl) rfl ?_ | refine RunL.ok (OpOk.lenR rfl rfl (by first | assumption | (apply Rd.left; first | assumption | (apply Rd.left; first | assumption | (apply Rd.left; first | assumption | (apply Rd.left; first | assumption | (apply Rd.left; first | assumption | (apply Rd.left; first | assumption | (apply Rd.left; first | assumption | (apply Rd.left; first | assumption | (apply Rd.left; first | assumption | (apply Rd.left; first | assumption | (apply Rd.left; first | assumption | (apply Rd.left; first | assumption | (apply Rd.left; first | assumption | (apply Rd.left; assumption))))))))))))))) rfl) rfl ?_ | refine RunL.ok (OpOk.lenV rfl rfl rfl) rfl ?_ | refine RunL.ok (OpOk.sub rfl rfl (by first | exact wrapI (by omega) (by omega) | exact wrapU8 (by omega) (by omega) | exact wrapU16 (by omega) (by omega) | exact wrapU64 (by omega) (by omega) | exact wrapU8m _ | exact wrapU16m _ | rfl)) rfl ?_ | refine RunL.ok (OpOk.gtr rfl rfl) rfl ?_)
    refine Run.condD rfl (fun h => ?_) (fun h => ?_)
    · repeat (first | refine Run.seq ?_ | refine Run.region ?_ | refine Run.skip ?_ | refine Run.block ?_ | refine Run.inBlock ?_ | refine Run.exit rfl ?_ | refine RunL.nil ?_ | refine RunL.ok (OpOk.assign rfl) rfl ?_ | refine RunL.ok (OpOk.move rfl) rfl ?_ | refine RunL.ok (OpOk.lss rfl rfl) rfl ?_ | refine RunL.ok (OpOk.capV rfl rfl rfl) rfl ?_ | refine RunL.ok (OpOk.lenR rfl rfl (by first | assumption | (apply Rd.left; first | assumption | (apply Rd.left; first | assumption | (apply Rd.left; first | assumption | (apply Rd.left; first | assumption | (apply Rd.left; first | assumption | (apply Rd.left; first | assumption | (apply Rd.left; first | assumption | (apply Rd.left; first | assumption | (apply Rd.left; first | assumption | (apply Rd.left; first | assumption | (apply Rd.left; first | assumption | (apply Rd.left; first | assumption | (apply Rd.left; first | assumption | (apply Rd.left; assumption))))))))))))))) rfl) rfl ?_ | refine RunL.ok (OpOk.lenV rfl rfl rfl) rfl ?_ | refine RunL.ok (OpOk.sub rfl rfl (by first | exact wrapI (by omega) (by omega) | exact wrapU8 (by omega) (by omega) | exact wrapU16 (by omega) (by omega) | exact wrapU64 (by omega) (by omega) | exact wrapU8m _ | exact wrapU16m _ | rfl)) rfl ?_ | refine RunL.ok (OpOk.gtr rfl rfl) rfl ?_)
      refine RunL.ok (OpOk.cutNil rfl ti5 rfl rfl) rfl ?_
      repeat (first | refine Run.seq ?_ | refine Run.region ?_ | refine Run.skip ?_ | refine Run.block ?_ | refine Run.inBlock ?_ | refine Run.exit rfl ?_ | refine RunL.nil ?_ | refine RunL.ok (OpOk.assign rfl) rfl ?_ | refine RunL.ok (OpOk.move rfl) rfl ?_ | refine RunL.ok (OpOk.lss rfl rfl) rfl ?_ | refine RunL.ok (OpOk.capV rfl rfl rfl) rfl ?_ | refine RunL.ok (OpOk.lenR rfl rfl (by first | assumption | (apply Rd.left; first | assumption | (apply Rd.left; first | assumption | (apply Rd.left; first | assumption | (apply Rd.left; first | assumption | (apply Rd.left; first | assumption | (apply Rd.left; first | assumption | (apply Rd.left; first | assumption | (apply Rd.left; first | assumption | (apply Rd.left; first | assumption | (apply Rd.left; first | assumption | (apply Rd.left; first | assumption | (apply Rd.left; first | assumption | (apply Rd.left; first | assumption | (apply Rd.left; assumption))))))))))))))) rfl) rfl ?_ | refine RunL.ok (OpOk.lenV rfl rfl rfl) rfl ?_ | refine RunL.ok (OpOk.sub rfl rfl (by first | exact wrapI (by omega) (by omega) | exact wrapU8 (by omega) (by omega) | exact wrapU16 (by omega) (by omega) | exact wrapU64 (by omega) (by omega) | exact wrapU8m _ | exact wrapU16m _ | rfl)) rfl ?_ | refine RunL.ok (OpOk.gtr rfl rfl) rfl ?_)
      have em : (m : Int) - (((0 : Nat) : Int) - ((0 : Nat) : Int)) = m := by omega
      simp only [em]
      refine RunL.appendMake (m := m) rfl ti5 rfl rfl rfl rfl rfl (by omega) (by omega) (by simp only [maxLen]; omega) rfl (fun v1 rd1 => ?_)
      repeat (first | refine Run.seq ?_ | refine Run.region ?_ | refine Run.skip ?_ | refine Run.block ?_ | refine Run.inBlock ?_ | refine Run.exit rfl ?_ | refine RunL.nil ?_ | refine RunL.ok (OpOk.assign rfl) rfl ?_ | refine RunL.ok (OpOk.move rfl) rfl ?_ | refine RunL.ok (OpOk.lss rfl rfl) rfl ?_ | refine RunL.ok (OpOk.capV rfl rfl rfl) rfl ?_ | refine RunL.ok (OpOk.lenR rfl rfl (by first | assumption | (apply Rd.left; first | assumption | (apply Rd.left; first | assumption | (apply Rd.left; first | assumption | (apply Rd.left; first | assumption | (apply Rd.left; first | assumption | (apply Rd.left; first | assumption | (apply Rd.left; first | assumption | (apply Rd.left; first | assumption | (apply Rd.left; first | assumption | (apply Rd.left; first | assumption | (apply Rd.left; first | assumption | (apply Rd.left; first | assumption | (apply Rd.left; first | assumption | (apply Rd.left; assumption))))))))))))))) rfl) rfl ?_ | refine RunL.ok (OpOk.lenV rfl rfl rfl) rfl ?_ | refine RunL.ok (OpOk.sub rfl rfl (by first | exact wrapI (by omega) (by omega) | exact wrapU8 (by omega) (by omega) | exact wrapU16 (by omega) (by omega) | exact wrapU64 (by omega) (by omega) | exact wrapU8m _ | exact wrapU16m _ | rfl)) rfl ?_ | refine RunL.ok (OpOk.gtr rfl rfl) rfl ?_)
      refine RunL.cutOwn (j := 0) rfl ti5 rfl rfl rfl (by omega) rfl (fun v2 rd2 => ?_)
      repeat (first | refine Run.seq ?_ | refine Run.region ?_ | refine Run.skip ?_ | refine Run.block ?_ | refine Run.inBlock ?_ | refine Run.exit rfl ?_ | refine RunL.nil ?_ | refine RunL.ok (OpOk.assign rfl) rfl ?_ | refine RunL.ok (OpOk.move rfl) rfl ?_ | refine RunL.ok (OpOk.lss rfl rfl) rfl ?_ | refine RunL.ok (OpOk.capV rfl rfl rfl) rfl ?_ | refine RunL.ok (OpOk.lenR rfl rfl (by first | assumption | (apply Rd.left; first | assumption | (apply Rd.left; first | assumption | (apply Rd.left; first | assumption | (apply Rd.left; first | assumption | (apply Rd.left; first | assumption | (apply Rd.left; first | assumption | (apply Rd.left; first | assumption | (apply Rd.left; first | assumption | (apply Rd.left; first | assumption | (apply Rd.left; first | assumption | (apply Rd.left; first | assumption | (apply Rd.left; first | assumption | (apply Rd.left; first | assumption | (apply Rd.left; assumption))))))))))))))) rfl) rfl ?_ | refine RunL.ok (OpOk.lenV rfl rfl rfl) rfl ?_ | refine RunL.ok (OpOk.sub rfl rfl (by first | exact wrapI (by omega) (by omega) | exact wrapU8 (by omega) (by omega) | exact wrapU16 (by omega) (by omega) | exact wrapU64 (by omega) (by omega) | exact wrapU8m _ | exact wrapU16m _ | rfl)) rfl ?_ | refine RunL.ok (OpOk.gtr rfl rfl) rfl ?_)
      exact Run.ret1 Try.func107 rfl rfl (by simp [B])
    · repeat (first | refine Run.seq ?_ | refine Run.region ?_ | refine Run.skip ?_ | refine Run.block ?_ | refine Run.inBlock ?_ | refine Run.exit rfl ?_ | refine RunL.nil ?_ | refine RunL.ok (OpOk.assign rfl) rfl ?_ | refine RunL.ok (OpOk.move rfl) rfl ?_ | refine RunL.ok (OpOk.lss rfl rfl) rfl ?_ | refine RunL.ok (OpOk.capV rfl rfl rfl) rfl ?_ | refine RunL.ok (OpOk.lenR rfl rfl (by first | assumption | (apply Rd.left; first | assumption | (apply Rd.left; first | assumption | (apply Rd.left; first | assumption | (apply Rd.left; first | assumption | (apply Rd.left; first | assumption | (apply Rd.left; first | assumption | (apply Rd.left; first | assumption | (apply Rd.left; first | assumption | (apply Rd.left; first | assumption | (apply Rd.left; first | assumption | (apply Rd.left; first | assumption | (apply Rd.left; first | assumption | (apply Rd.left; first | assumption | (apply Rd.left; assumption))))))))))))))) rfl) rfl ?_ | refine RunL.ok (OpOk.lenV rfl rfl rfl) rfl ?_ | refine RunL.ok (OpOk.sub rfl rfl (by first | exact wrapI (by omega) (by omega) | exact wrapU8 (by omega) (by omega) | exact wrapU16 (by omega) (by omega) | exact wrapU64 (by omega) (by omega) | exact wrapU8m _ | exact wrapU16m _ | rfl)) rfl ?_ | refine RunL.ok (OpOk.gtr rfl rfl) rfl ?_)
      exact Run.ent (Ent.ownNil _ 5 1) (Run.ret1 Try.func107 rfl rfl rfl)
def flatB (ls : List (Value × List UInt8)) : List UInt8 := ls.flatMap Prod.snd
theorem flatB_append (a b : List (Value × List UInt8)) : flatB (a ++ b) = flatB a ++ flatB b := by simp [flatB]
theorem flatB_take {ls : List (Value × List UInt8)} {i : Nat} (h : i < ls.length) : flatB (ls.take (i + 1)) = flatB (ls.take i) ++ (ls.getD i default).2 := by
  rw [take_next h, flatB_append]; simp [flatB]
theorem flatB_le (ls : List (Value × List UInt8)) (i : Nat) : (flatB (ls.take i)).length ≤ (flatB ls).length := by
  have : flatB ls = flatB (ls.take i) ++ flatB (ls.drop i) := by rw [← flatB_append, List.take_append_drop]
  rw [this, List.length_append]
  omega
theorem s78 {w0 : World} {A : Asn} {u : Value} {m : Nat} {ls : List (Value × List UInt8)} (rd : Rd w0 A u 1 m (Fl encV ls)) (hin : Alls (GB w0) A ls) (hm : (flatB ls).length ≤ 140737488355328) :
    Spec Try.prog w0 78 [u] A (fun v' A' => A' = A * own 5 1 v' (flatB ls).length (B (flatB ls))) := by
  have hl := rd.lenFl (fun _ => rfl) (by decide)
  subst hl
  have hmax := rd.max
  refine Spec.of_run [(0, u)] Try.func78 rfl (Nat.le_of_ble_eq_true rfl) (by repeat (first | exact trivial | refine ⟨rfl, ?_⟩)) ?_
  refine Run.seq ?_
  refine Run.region ?_
  refine RunL.ok (OpOk.assign rfl) rfl ?_
  refine RunL.nil ?_
  refine Run.seq ?_
  refine Run.region ?_
  refine RunL.ok (OpOk.assign rfl) rfl ?_
  refine RunL.nil ?_
  refine Run.seq ?_
  refine Run.seq ?_
  refine Run.region ?_
  refine RunL.ok (OpOk.move rfl) rfl ?_
  refine RunL.ok (OpOk.lenR rfl rfl rd rfl) rfl ?_
  refine RunL.ok (OpOk.move rfl) rfl ?_
  refine RunL.nil ?_
  refine Run.block ?_
  refine Run.jump ((Run.loopJ (X := Nat) (fun i => [(0, u), (3, .int .i64 ((flatB (ls.take i)).length : Int)), (9, u), (10, .int .i64 (ls.length : Int)), (11, .int .i64 i)]) (fun _ => A) (fun i => i ≤ ls.length) (fun i => ls.length - i) 0 (Nat.zero_le _) (fun i hi ih => ?_))) ⟨rfl, rfl, rfl, rfl, rfl, trivial⟩ ((Grew.refl _))
  have hf := flatB_le ls i
  rcases Nat.lt_or_ge i ls.length with hlt | hge
  · have hf2 := flatB_le ls (i + 1)
    have hft := congrArg List.length (flatB_take hlt)
    rw [List.length_append] at hft
    have rdi : Rd w0 A (ls.getD i default).1 1 (ls.getD i default).2.length (B (ls.getD i default).2) := hin.get hlt
    have hv := Fl_V ls i hlt
    refine Run.seq ?_
    refine Run.region ?_
    refine RunL.ok (OpOk.asT (OpOk.lss rfl rfl) (by omega)) rfl ?_
    refine RunL.nil ?_
    refine Run.seq ?_
    refine Run.condT rfl ?_
    refine Run.skip ?_
    refine Run.seq ?_
    refine Run.block ?_
    refine Run.seq ?_
    refine Run.region ?_
    refine RunL.ok (OpOk.idx1N rfl ti63 rfl rd rfl (by omega)) rfl ?_
    refine RunL.ok (OpOk.load rfl rfl rfl (Rd.cell rd (by first | assumption | rfl))) rfl ?_
    refine RunL.ok (OpOk.assign rfl) rfl ?_
    refine RunL.nil ?_
    refine Run.seq ?_
    refine Run.region ?_
    refine RunL.ok (OpOk.move rfl) rfl ?_
    refine RunL.ok (OpOk.move rfl) rfl ?_
    refine RunL.ok (OpOk.lenR rfl rfl rdi rfl) rfl ?_
    refine RunL.ok (OpOk.addN _ _ rfl rfl rfl rfl (by omega)) rfl ?_
    refine RunL.ok (OpOk.assign rfl) rfl ?_
    refine RunL.nil ?_
    refine Run.seq ?_
    refine Run.region ?_
    refine RunL.ok (OpOk.move rfl) rfl ?_
    refine RunL.ok (OpOk.asF (OpOk.lss rfl rfl) (by omega)) rfl ?_
    refine RunL.nil ?_
    refine Run.condF rfl ?_
    refine Run.skip ?_
    refine Run.inBlock ?_
    refine Run.region ?_
    refine RunL.ok (OpOk.addN _ 1 rfl rfl rfl rfl (by omega)) rfl ?_
    refine RunL.ok (OpOk.move rfl) rfl ?_
    refine RunL.nil ?_
    refine Run.jump ((ih (i + 1) (by omega) (by omega))) ⟨rfl, lkI rfl (by omega), rfl, rfl, rfl, trivial⟩ ((Grew.refl _))
  · obtain rfl : i = ls.length := by omega
    rw [List.take_length] at *
    clear ih
    refine Run.seq ?_
    refine Run.region ?_
    refine RunL.ok (OpOk.asF (OpOk.lss rfl rfl) (by omega)) rfl ?_
    refine RunL.nil ?_
    refine Run.seq ?_
    refine Run.condF rfl ?_
    refine Run.exit rfl ?_
    refine Run.seq ?_
    refine Run.region ?_
    refine RunL.ok (OpOk.move rfl) rfl ?_
    refine RunL.call cal107 rfl (s107 (by assumption)) rfl (fun vy1 Ay1 hy1 => ?_)
    obtain rfl := hy1
    refine RunL.ok (OpOk.assign rfl) rfl ?_
    refine RunL.nil ?_
    refine Run.seq ?_
    refine Run.seq ?_
    refine Run.region ?_
    refine RunL.ok (OpOk.move rfl) rfl ?_
    refine RunL.ok (OpOk.lenR rfl rfl rd.left rfl) rfl ?_
    refine RunL.ok (OpOk.move rfl) rfl ?_
    refine RunL.nil ?_
    refine Run.block ?_
    refine Run.jump ((Run.loopJ (X := Nat × Value) (fun x => [(25, u), (26, .int .i64 (ls.length : Int)), (27, .int .i64 x.1), (6, x.2)]) (fun x => A * own 5 1 x.2 (flatB (ls.take x.1)).length (B (flatB (ls.take x.1)))) (fun x => x.1 ≤ ls.length) (fun x => ls.length - x.1) (0, vy1) (Nat.zero_le _) (fun x hx ih => ?_))) ⟨rfl, rfl, rfl, rfl, trivial⟩ (Grew.of (frc rfl rfl) (Grew.refl _))
    obtain ⟨i, v1⟩ := x
    simp only at hx ih ⊢
    rcases Nat.lt_or_ge i ls.length with hlt | hge
    · have hf2 := flatB_le ls (i + 1)
      have hft := congrArg List.length (flatB_take hlt)
      rw [List.length_append] at hft
      have rdi : Rd w0 A (ls.getD i default).1 1 (ls.getD i default).2.length (B (ls.getD i default).2) := hin.get hlt
      have hv := Fl_V ls i hlt
      refine Run.seq ?_
      refine Run.region ?_
      refine RunL.ok (OpOk.asT (OpOk.lss rfl rfl) (by omega)) rfl ?_
      refine RunL.nil ?_
      refine Run.seq ?_
      refine Run.condT rfl ?_
      refine Run.skip ?_
      refine Run.seq ?_
      refine Run.block ?_
      refine Run.seq ?_
      refine Run.region ?_
      refine RunL.ok (OpOk.idx1N rfl ti63 rfl rd.left rfl (by omega)) rfl ?_
      refine RunL.ok (OpOk.load rfl rfl rfl (Rd.cell rd.left (by first | assumption | rfl))) rfl ?_
      refine RunL.ok (OpOk.assign rfl) rfl ?_
      refine RunL.nil ?_
      refine Run.region ?_
      refine RunL.ok (OpOk.move rfl) rfl ?_
      refine RunL.ok (OpOk.move rfl) rfl ?_
      refine RunL.appendB rfl ti5 rfl rfl rfl rfl rdi.left (by omega) rfl (fun vz1 rdz1 => ?_)
      refine RunL.ok (OpOk.assign rfl) rfl ?_
      refine RunL.nil ?_
      refine Run.inBlock ?_
      refine Run.region ?_
      refine RunL.ok (OpOk.addN _ 1 rfl rfl rfl rfl (by omega)) rfl ?_
      refine RunL.ok (OpOk.move rfl) rfl ?_
      refine RunL.nil ?_
      rw [← hft, ← flatB_take hlt]
      refine Run.jump ((ih (i + 1, _) (by simp; omega) (by simp; omega))) ⟨rfl, rfl, rfl, rfl, trivial⟩ ((Grew.refl _))
    · obtain rfl : i = ls.length := by omega
      rw [List.take_length]
      refine Run.seq ?_
      refine Run.region ?_
      refine RunL.ok (OpOk.asF (OpOk.lss rfl rfl) (by omega)) rfl ?_
      refine RunL.nil ?_
      refine Run.seq ?_
      refine Run.condF rfl ?_
      refine Run.exit rfl ?_
      refine Run.seq ?_
      refine Run.region ?_
      refine RunL.ok (OpOk.move rfl) rfl ?_
      refine RunL.ok (OpOk.assign rfl) rfl ?_
      refine RunL.nil ?_
      refine Run.ret1 Try.func78 rfl rfl ?_
      exact rfl
end Go.Proofs.Yteopadjihklkmaa
