/- Part 6 of the proof of ShellFormats. -/
import Derived.Test.YteopadjihklkmaaMShellFormats5
import Derived.Laws.Tables
section
namespace Go.Proofs.Yteopadjihklkmaa
open Go Go.Proofs
set_option maxRecDepth 100000
set_option maxHeartbeats 4000000
theorem take_next {α : Type} [Inhabited α] {l : List α} {i : Nat} (h : i < l.length) : l.take (i + 1) = l.take i ++ [l.getD i default] := by
  rw [List.take_succ_eq_append_getElem h, List.getD_eq_getElem?_getD, List.getElem?_eq_getElem h]; rfl
theorem take_nextB {l : List UInt8} {i : Nat} (h : i < l.length) : l.take (i + 1) = l.take i ++ [l.getD i 0] := take_next h
theorem drop_next {α : Type} [Inhabited α] {l : List α} {i : Nat} (h : i < l.length) : l.drop i = l.getD i default :: l.drop (i + 1) := by
  rw [List.getD_eq_getElem?_getD, List.getElem?_eq_getElem h]; exact List.drop_eq_getElem_cons h
theorem Rd.lenB {w0 : World} {A : Asn} {v : Value} {m : Nat} {xs : List UInt8} (rd : Rd w0 A v 1 m (B xs)) : xs.length = m := by have := rd.len; rw [B_length] at this; omega
theorem Rd.lenI {w0 : World} {A : Asn} {v : Value} {m : Nat} {xs : List Int} (rd : Rd w0 A v 1 m (I xs)) : xs.length = m := by have := rd.len; rw [I_length] at this; omega
theorem s87 {w0 : World} {A : Asn} {v u : Value} {m q : Nat} {xs ys : List UInt8} (rd : Rd w0 A v 1 m (B xs)) (rd2 : Rd w0 A u 1 q (B ys)) :
    Spec Try.prog w0 87 [v, u] A (fun v' A' => v' = .bool (decide (xs = ys)) ∧ A' = A) := by
  have hx := rd.lenB
  have hy := rd2.lenB
  have hm := rd.max
  refine Spec.of_run [(0, v), (1, u)] Try.func87 rfl (Nat.le_of_ble_eq_true rfl) (by repeat (first | exact trivial | refine ⟨rfl, ?_⟩)) ?_
  refine Run.seq ?_
  refine Run.region ?_
  refine RunL.ok (OpOk.assign rfl) rfl ?_
  refine RunL.nil ?_
  refine Run.seq ?_
  refine Run.seq ?_
  refine Run.region ?_
  refine RunL.ok (OpOk.move rfl) rfl ?_
  refine RunL.ok (OpOk.lenR rfl rfl rd rfl) rfl ?_
  refine RunL.ok (OpOk.move rfl) rfl ?_
  refine RunL.ok (OpOk.lenR rfl rfl rd2 rfl) rfl ?_
  refine RunL.ok (OpOk.neq rfl rfl) rfl ?_
  refine RunL.nil ?_
  refine Run.condN rfl (fun x1 => ?_) (fun x1 => ?_)
  · refine Run.seq ?_
    refine Run.region ?_
    refine RunL.ok (OpOk.assign rfl) rfl ?_
    refine RunL.nil ?_
    refine Run.ret1 Try.func87 rfl rfl ?_
    refine ⟨?_, rfl⟩
    have : xs ≠ ys := fun e => x1 (by subst e; omega)
    simp [this]
  refine Run.skip ?_
  refine Run.seq ?_
  refine Run.seq ?_
  refine Run.region ?_
  refine RunL.ok (OpOk.move rfl) rfl ?_
  refine RunL.ok (OpOk.lenR rfl rfl rd rfl) rfl ?_
  refine RunL.ok (OpOk.move rfl) rfl ?_
  refine RunL.nil ?_
  refine Run.block ?_
  refine Run.loop (X := Nat) (fun i => [(0, v), (1, u), (12, .int .i64 m), (13, .int .i64 i)]) (fun _ => A) (fun i => i ≤ m ∧ xs.take i = ys.take i) (fun i => m - i) 0 ⟨rfl, rfl, rfl, rfl, trivial⟩ rfl ⟨by omega, by simp⟩ (fun i hi ih => ?_)
  obtain ⟨hi1, hi2⟩ := hi
  rcases Nat.lt_or_ge i m with hlt | hge
  · refine Run.seq ?_
    refine Run.region ?_
    refine RunL.ok (OpOk.asT (OpOk.lss rfl rfl) (by omega)) rfl ?_
    refine RunL.nil ?_
    refine Run.seq ?_
    refine Run.condT rfl ?_
    refine Run.skip ?_
    refine Run.seq ?_
    refine Run.block ?_
    refine Run.seq ?_
    refine Run.region ?_
    refine RunL.ok (OpOk.move rfl) rfl ?_
    refine RunL.ok (OpOk.assign rfl) rfl ?_
    refine RunL.nil ?_
    refine Run.seq ?_
    (apply Run.drawD [] (by rfl) (sep_emp _).symm; case hchk => kernel_rfl)
    refine Sd.quiet 0 _ _ rfl rfl rfl rfl rfl (QOp.ok (fun X => OpOk.move rfl)) ?_
    refine Sd.quiet 1 _ _ rfl rfl rfl rfl rfl (QOp.ok (fun X => OpOk.move rfl)) ?_
    refine Sd.quiet 2 _ _ rfl rfl rfl rfl rfl (QOp.ok (fun X => OpOk.idx1N rfl ti5 rfl rd.left.left rfl (by omega))) ?_
    refine Sd.quiet 3 _ _ rfl rfl rfl rfl rfl (QOp.ok (fun X => OpOk.load rfl rfl rfl (Rd.getB rd.left.left (by omega)))) ?_
    refine Sd.quiet 4 _ _ rfl rfl rfl rfl rfl (QOp.ok (fun X => OpOk.move rfl)) ?_
    refine Sd.quiet 5 _ _ rfl rfl rfl rfl rfl (QOp.ok (fun X => OpOk.move rfl)) ?_
    refine Sd.quiet 6 _ _ rfl rfl rfl rfl rfl (QOp.ok (fun X => OpOk.idx1N rfl ti5 rfl rd2.left.left rfl (by omega))) ?_
    refine Sd.quiet 7 _ _ rfl rfl rfl rfl rfl (QOp.ok (fun X => OpOk.load rfl rfl rfl (Rd.getB rd2.left.left (by omega)))) ?_
    refine Sd.quiet 8 _ _ rfl rfl rfl rfl rfl (QOp.ok (fun X => OpOk.neq rfl rfl)) ?_
    (apply Sd.tail; case hall => kernel_rfl)
    refine RunL.mem (fl2 (sep_emp _) (sep_emp _)) ?_
    refine RunL.nil ?_
    refine Run.condN rfl (fun y1 => ?_) (fun y1 => ?_)
    · refine Run.seq ?_
      refine Run.region ?_
      refine RunL.ok (OpOk.assign rfl) rfl ?_
      refine RunL.nil ?_
      refine Run.ret1 Try.func87 rfl rfl ?_
      refine ⟨?_, rfl⟩
      have : xs ≠ ys := fun e => y1 (by subst e; rfl)
      simp [this]
    refine Run.skip ?_
    refine Run.inBlock ?_
    refine Run.region ?_
    refine RunL.ok (OpOk.addN _ 1 rfl rfl rfl rfl (by omega)) rfl ?_
    refine RunL.ok (OpOk.move rfl) rfl ?_
    refine RunL.nil ?_
    have h4 : xs.getD i 0 = ys.getD i 0 := UInt8.toNat_inj.1 (by omega)
    refine Run.jump ((ih (i + 1) ⟨by omega, by rw [take_nextB (by omega), take_nextB (by omega), hi2, h4]⟩ (by omega))) ⟨rfl, rfl, rfl, rfl, trivial⟩ ((Grew.refl _))
  · obtain rfl : i = m := by omega
    rw [List.take_of_length_le (by omega), List.take_of_length_le (by omega)] at hi2
    refine Run.seq ?_
    refine Run.region ?_
    refine RunL.ok (OpOk.asF (OpOk.lss rfl rfl) (by omega)) rfl ?_
    refine RunL.nil ?_
    refine Run.seq ?_
    refine Run.condF rfl ?_
    refine Run.exit rfl ?_
    refine Run.seq ?_
    refine Run.region ?_
    refine RunL.ok (OpOk.assign rfl) rfl ?_
    refine RunL.nil ?_
    refine Run.ret1 Try.func87 rfl rfl ?_
    rw [decide_eq_true (by first | omega | with_reducible rfl | assumption)]
    exact ⟨rfl, rfl⟩
theorem s77 {w0 : World} {A : Asn} {v : Value} {m : Nat} {bs : List UInt8} (rd : Rd w0 A v 1 m (B bs)) (hm : m ≤ 140737488355328) :
    Spec Try.prog w0 77 [v] A (fun v' A' => A' = A * own 5 1 v' m (B bs)) := by
  obtain ⟨ad, cap, rfl, hcap, ha⟩ := rd.form
  refine Spec.of_run [(0, .slice ad m cap)] Try.func77 rfl (Nat.le_of_ble_eq_true rfl) (by repeat (first | exact trivial | refine ⟨rfl, ?_⟩)) ?_
  cases ad with
  | none =>
    have hm0 : m = 0 := by
      rcases Nat.eq_zero_or_pos m with e | e
      · exact e
      · cases ha e
    subst hm0
    have hb : bs = [] := List.eq_nil_of_length_eq_zero (by have := rd.len; simpa [B] using this)
    subst hb
    refine Run.seq ?_
    refine Run.region ?_
    refine RunL.ok (OpOk.assign rfl) rfl ?_
    refine RunL.nil ?_
    refine Run.seq ?_
    refine Run.seq ?_
    refine Run.region ?_
    refine RunL.ok (OpOk.move rfl) rfl ?_
    refine RunL.ok (OpOk.eqlNil rfl rfl) rfl ?_
    refine RunL.nil ?_
    refine Run.condT rfl ?_
    refine Run.seq ?_
    refine Run.region ?_
    refine RunL.ok (OpOk.assign rfl) rfl ?_
    refine RunL.nil ?_
    refine Run.ent (Ent.ownNil' _ 5 1 (B []) rfl) ?_
    refine Run.ret1 Try.func77 rfl rfl ?_
    exact rfl
  | some a =>
    refine Run.seq ?_
    refine Run.region ?_
    refine RunL.ok (OpOk.assign rfl) rfl ?_
    refine RunL.nil ?_
    refine Run.seq ?_
    refine Run.seq ?_
    refine Run.region ?_
    refine RunL.ok (OpOk.move rfl) rfl ?_
    refine RunL.ok (OpOk.eqlNil rfl rfl) rfl ?_
    refine RunL.nil ?_
    refine Run.condF rfl ?_
    refine Run.skip ?_
    refine Run.seq ?_
    refine Run.region ?_
    refine RunL.lit0B rfl ti5 rfl (fun vy1 rdy1 => ?_)
    refine RunL.ok (OpOk.move rfl) rfl ?_
    refine RunL.appendB0 rfl ti5 rfl rfl rfl rfl rd.left (by omega) rfl (fun vy2 rdy2 => ?_)
    refine RunL.ok (OpOk.assign rfl) rfl ?_
    refine RunL.nil ?_
    refine Run.ret1 Try.func77 rfl rfl ?_
    exact rfl
theorem Run.loopJ {P : Program} {fid : Fid} {n : Nat} {R : Ending → World → Prop} {w0 : World} {k : List Item} {X : Type} (E' : X → Env) (A' : X → Asn) (I : X → Prop) (μ : X → Nat) (x0 : X) {c : Code} (hI : I x0)
    (body : ∀ x, I x → (∀ y, I y → μ y < μ x → Run P fid n R w0 (.inLoop c :: k) (E' y) (A' y)) → Run P fid n R w0 (.code c :: .inLoop c :: k) (E' x) (A' x)) :
    Run P fid n R w0 (.code (.loop c) :: k) (E' x0) (A' x0) := by
  have key : ∀ m x, μ x = m → I x → Run P fid n R w0 (.code c :: .inLoop c :: k) (E' x) (A' x) := by
    intro m
    induction m using Nat.strongRecOn with
    | _ m ih =>
      intro x hm hx
      exact body x hx fun y hy hlt => Run.inLoop (ih (μ y) (hm ▸ hlt) y rfl hy)
  refine ⟨fun a w he hs => ?_⟩
  exact ((key _ x0 rfl hI).out a w he hs).step fun _ => stepR_loop
end Go.Proofs.Yteopadjihklkmaa
end

section
namespace Go.Proofs.Yteopadjihklkmaa
open Go Go.Proofs
/-- A slice's header; what it holds stands beside it. -/
def encV {β : Type} (p : Value × β) : List Value := [p.1]
theorem Fl_V {β : Type} [Inhabited β] : ∀ (l : List (Value × β)) (i : Nat), i < l.length → (Fl encV l)[i]? = some (l.getD i default).1
  | [], i, h => by simp at h
  | p :: r, 0, _ => rfl
  | p :: r, i + 1, h => Fl_V r i (by simpa using h)
theorem getD_mem {α : Type} [Inhabited α] {l : List α} {i : Nat} (h : i < l.length) : l.getD i default ∈ l := by
  rw [List.getD_eq_getElem?_getD, List.getElem?_eq_getElem h]; exact List.getElem_mem h
/-- What holds in memory holds in more of it. -/
class Lift {α : Type} (G : Asn → α → Prop) : Prop where
  left : ∀ {A B : Asn} {a : α}, G A a → G (A * B) a
  right : ∀ {A B : Asn} {a : α}, G B a → G (A * B) a
structure Alls {α : Type} (G : Asn → α → Prop) (A : Asn) (ls : List α) : Prop where
  at_ : ∀ p ∈ ls, G A p
section
variable {α : Type} {G : Asn → α → Prop} {A C : Asn} {ls ms : List α}
theorem Alls.left [Lift G] (h : Alls G A ls) : Alls G (A * C) ls := ⟨fun p hp => Lift.left (h.at_ p hp)⟩
theorem Alls.right [Lift G] (h : Alls G C ls) : Alls G (A * C) ls := ⟨fun p hp => Lift.right (h.at_ p hp)⟩
theorem Alls.conv (h : Alls G A ls) (e : A = C) : Alls G C ls := e ▸ h
theorem Alls.nil : Alls G A [] := ⟨fun p hp => by cases hp⟩
theorem Alls.cons {a : α} (h : G A a) (k : Alls G A ls) : Alls G A (a :: ls) := ⟨fun p hp => by
  rcases List.mem_cons.1 hp with rfl | hp
  · exact h
  · exact k.at_ p hp⟩
theorem Alls.append (h : Alls G A ls) (k : Alls G A ms) : Alls G A (ls ++ ms) := ⟨fun p hp => by
  rcases List.mem_append.1 hp with hp | hp
  · exact h.at_ p hp
  · exact k.at_ p hp⟩
theorem Alls.take {i : Nat} (h : Alls G A ls) : Alls G A (ls.take i) := ⟨fun p hp => h.at_ p (List.mem_of_mem_take hp)⟩
theorem Alls.drop {i : Nat} (h : Alls G A ls) : Alls G A (ls.drop i) := ⟨fun p hp => h.at_ p (List.mem_of_mem_drop hp)⟩
theorem Alls.get [Inhabited α] {i : Nat} (h : Alls G A ls) (hi : i < ls.length) : G A (ls.getD i default) := h.at_ _ (getD_mem hi)
end
def GB (w0 : World) (A : Asn) (p : Value × List UInt8) : Prop := Rd w0 A p.1 1 p.2.length (B p.2)
instance {w0 : World} : Lift (GB w0) := ⟨fun h => Rd.left h, fun h => Rd.right h⟩
end Go.Proofs.Yteopadjihklkmaa
end
