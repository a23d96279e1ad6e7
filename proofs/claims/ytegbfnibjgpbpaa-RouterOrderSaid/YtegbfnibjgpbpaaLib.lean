/- The library's functions on slices of bytes. -/
import Derived.Test.YtegbfnibjgpbpaaTy
import Derived.Test.YtegbfnibjgpbpaaDd
import Derived.Laws.Tables
namespace Go.Proofs.Ytegbfnibjgpbpaa
open Go Go.Proofs
set_option maxRecDepth 100000
set_option maxHeartbeats 4000000
theorem take_next {α : Type} [Inhabited α] {l : List α} {i : Nat} (h : i < l.length) : l.take (i + 1) = l.take i ++ [l.getD i default] := by
  rw [List.take_succ_eq_append_getElem h, List.getD_eq_getElem?_getD, List.getElem?_eq_getElem h]; rfl
theorem take_nextB {l : List UInt8} {i : Nat} (h : i < l.length) : l.take (i + 1) = l.take i ++ [l.getD i 0] := take_next h
theorem drop_next {α : Type} [Inhabited α] {l : List α} {i : Nat} (h : i < l.length) : l.drop i = l.getD i default :: l.drop (i + 1) := by
  rw [List.getD_eq_getElem?_getD, List.getElem?_eq_getElem h]; exact List.drop_eq_getElem_cons h
theorem Rd.lenB {w0 : World} {A : Asn} {v : Value} {m : Nat} {xs : List UInt8} (rd : Rd w0 A v 1 m (B xs)) : xs.length = m := by have := rd.len; rw [B_length] at this; omega
theorem Rd.lenI {w0 : World} {A : Asn} {v : Value} {m : Nat} {xs : List Int} (rd : Rd w0 A v 1 m (I xs)) : xs.length = m := by have := rd.len; rw [I_length] at this; omega
theorem s80 {w0 : World} {A : Asn} {v : Value} {m : Nat} {bs : List UInt8} (rd : Rd w0 A v 1 m (B bs)) (hm : m ≤ 140737488355328) :
    Spec Try.prog w0 80 [v] A (fun v' A' => A' = A * own 5 1 v' m (B bs)) := by
  obtain ⟨ad, cap, rfl, hcap, ha⟩ := rd.form
  refine Spec.of_run [(0, .slice ad m cap)] Try.func80 rfl (Nat.le_of_ble_eq_true rfl) (by repeat (first | exact trivial | refine ⟨rfl, ?_⟩)) ?_
  cases ad with
  | none =>
    have hm0 : m = 0 := by
      rcases Nat.eq_zero_or_pos m with e | e
      · exact e
      · cases ha e
    subst hm0
    have hb : bs = [] := List.eq_nil_of_length_eq_zero (by have := rd.len; simpa [B] using this)
    subst hb
    refine Run.seq ?_
    refine Run.region ?_
    refine RunL.ok (OpOk.assign rfl) rfl ?_
    refine RunL.nil ?_
    refine Run.seq ?_
    refine Run.seq ?_
    refine Run.region ?_
    refine RunL.ok (OpOk.move rfl) rfl ?_
    refine RunL.ok (OpOk.eqlNil rfl rfl) rfl ?_
    refine RunL.nil ?_
    refine Run.condT rfl ?_
    refine Run.seq ?_
    refine Run.region ?_
    refine RunL.ok (OpOk.assign rfl) rfl ?_
    refine RunL.nil ?_
    refine Run.ent (Ent.ownNil' _ 5 1 (B []) rfl) ?_
    refine Run.ret1 Try.func80 rfl rfl ?_
    exact rfl
  | some a =>
    refine Run.seq ?_
    refine Run.region ?_
    refine RunL.ok (OpOk.assign rfl) rfl ?_
    refine RunL.nil ?_
    refine Run.seq ?_
    refine Run.seq ?_
    refine Run.region ?_
    refine RunL.ok (OpOk.move rfl) rfl ?_
    refine RunL.ok (OpOk.eqlNil rfl rfl) rfl ?_
    refine RunL.nil ?_
    refine Run.condF rfl ?_
    refine Run.skip ?_
    refine Run.seq ?_
    refine Run.region ?_
    refine RunL.lit0B rfl ti5 rfl (fun vy1 rdy1 => ?_)
    refine RunL.ok (OpOk.move rfl) rfl ?_
    refine RunL.appendB0 rfl ti5 rfl rfl rfl rfl rd.left (by omega) rfl (fun vy2 rdy2 => ?_)
    refine RunL.ok (OpOk.assign rfl) rfl ?_
    refine RunL.nil ?_
    refine Run.ret1 Try.func80 rfl rfl ?_
    exact rfl
theorem Run.loopJ {P : Program} {fid : Fid} {n : Nat} {R : Ending → World → Prop} {w0 : World} {k : List Item} {X : Type} (E' : X → Env) (A' : X → Asn) (I : X → Prop) (μ : X → Nat) (x0 : X) {c : Code} (hI : I x0)
    (body : ∀ x, I x → (∀ y, I y → μ y < μ x → Run P fid n R w0 (.inLoop c :: k) (E' y) (A' y)) → Run P fid n R w0 (.code c :: .inLoop c :: k) (E' x) (A' x)) :
    Run P fid n R w0 (.code (.loop c) :: k) (E' x0) (A' x0) := by
  have key : ∀ m x, μ x = m → I x → Run P fid n R w0 (.code c :: .inLoop c :: k) (E' x) (A' x) := by
    intro m
    induction m using Nat.strongRecOn with
    | _ m ih =>
      intro x hm hx
      exact body x hx fun y hy hlt => Run.inLoop (ih (μ y) (hm ▸ hlt) y rfl hy)
  refine ⟨fun a w he hs => ?_⟩
  exact ((key _ x0 rfl hI).out a w he hs).step fun _ => stepR_loop
end Go.Proofs.Ytegbfnibjgpbpaa
