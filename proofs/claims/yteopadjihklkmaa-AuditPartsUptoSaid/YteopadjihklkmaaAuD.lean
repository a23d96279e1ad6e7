/- First, over any looks. -/
import Derived.Test.YteopadjihklkmaaAuC
namespace Go.Proofs.Yteopadjihklkmaa
open Go Go.Proofs
set_option maxRecDepth 100000
set_option maxHeartbeats 4000000
set_option linter.unusedSimpArgs false
/-- A method that can be called through an interface value, and what it does. -/
def LookC (w0 : World) (v : Value) (name : String) (args : List Value) (A : Asn) (R : Value → Asn → Prop) : Prop :=
  ∃ (f : FuncId) (t : TypeId) (u r : Value), v = .iface t u ∧ (∀ w, (callMethod (.iface t u) name args.toArray).run Try.prog w = .ok (.enter f (r :: args).toArray) w) ∧ Spec Try.prog w0 f (r :: args) A R
section
variable {n : Nat} {w0 : World} {ops : Array Oper} {l : List Oper} {ty : TypeId} {ps : String} {af : Array Edge} {K : Act → World → Prop} {E : Env} {A : Asn}
theorem RunL.callLook {d : Nat} {name : String} {x : Operand} {v : Value} {args : List Operand} {ats : Array TypeId} {vs : List Value} {R' : Value → Asn → Prop} (hx : ev E x = some v) (hv : evs E args = some vs) (h : LookC w0 v name vs A R') (hd : Nat.blt d n = true)
    (r : ∀ v A', R' v A' → RunL Try.prog n w0 ops l K ((d, v) :: E) A') :
    RunL Try.prog n w0 ops ({ dst := some d, op := .call { callee := .invoke x name, args := args.toArray, argTypes := ats }, type := ty, pos := ps, after := af, guard := none } :: l) K E A := by
  obtain ⟨f, t, u, q, rfl, hm, sp⟩ := h
  exact RunL.callI hx hv (fun w _ => hm w) sp hd r
end
section
variable {σ : Type} (tell : Nat → Po → σ → Bool × σ) (fin : Nat → σ → Bool × σ)
def tellFrom : Nat → Nat → Po → σ → Bool × σ
  | 0, _, _, s => (true, s)
  | n + 1, k, p, s => if (tell k p s).1 = true then tellFrom n (k + 1) p (tell k p s).2 else (false, (tell k p s).2)
def psFrom (n : Nat) : List Po → Nat → σ → Option Nat × σ
  | [], _, s => (none, s)
  | p :: r, i, s => if (tellFrom tell n 0 p s).1 = true then psFrom n r (i + 1) (tellFrom tell n 0 p s).2 else (some i, (tellFrom tell n 0 p s).2)
def finFrom : Nat → Nat → σ → Bool × σ
  | 0, _, s => (true, s)
  | n + 1, k, s => if (fin k s).1 = true then finFrom n (k + 1) (fin k s).2 else (false, (fin k s).2)
def firstF (n : Nat) (ps : List Po) (s : σ) : Int × σ :=
  match psFrom tell n ps 0 s with
  | (some i, s) => ((i : Int), s)
  | (none, s) => if (finFrom fin n 0 s).1 = true then (-1, (finFrom fin n 0 s).2) else ((ps.length : Int), (finFrom fin n 0 s).2)
end
section
variable {w0 : World} {A : Asn}
theorem first_gen {σ : Type} (M : σ → Asn) (tell : Nat → Po → σ → Bool × σ) (fin : Nat → σ → Bool × σ) {ls : List Value} {u1 u2 : Value} {ps : List Po} (s0 : σ) (rd : Rd w0 A u1 3 ps.length (Fl encT126 ps)) (al : Alls (GP w0) A ps) (rd2 : Rd w0 A u2 1 ls.length ls)
    (hT : ∀ k p s X, k < ls.length → p ∈ ps → GP w0 X p → LookC w0 (ls.getD k .nilIface) "Posting" [.agg (encT126 p).toArray] (X * M s) (fun v' A' => v' = .bool (tell k p s).1 ∧ ∃ J, A' = X * J * M (tell k p s).2))
    (hE : ∀ k s X, k < ls.length → LookC w0 (ls.getD k .nilIface) "End" [] (X * M s) (fun v' A' => v' = .bool (fin k s).1 ∧ ∃ J, A' = X * J * M (fin k s).2)) :
    Spec Try.prog w0 15 [u1, u2] (A * M s0) (fun v' A' => v' = .int .i64 (firstF tell fin ls.length ps s0).1 ∧ ∃ J, A' = A * J * M (firstF tell fin ls.length ps s0).2) := by
  have hmx := rd.max
  have hmx2 := rd2.max
  refine Spec.of_run [(0, u1), (1, u2)] Try.func15 rfl (Nat.le_of_ble_eq_true rfl) (by repeat (first | exact trivial | refine ⟨rfl, ?_⟩)) ?_
  refine Run.seq ?_
  refine Run.region ?_
  refine RunL.ok (OpOk.assign rfl) rfl ?_
  refine RunL.nil ?_
  refine Run.seq ?_
  refine Run.seq ?_
  refine Run.region ?_
  refine RunL.ok (OpOk.move rfl) rfl ?_
  refine RunL.ok (OpOk.lenR rfl rfl rd.left rfl) rfl ?_
  refine RunL.ok (OpOk.move rfl) rfl ?_
  refine RunL.nil ?_
  refine Run.block ?_
  refine Run.jump ((Run.loopJ (X := Nat × Asn × σ) (fun x => [(13, .int .i64 (x.1 : Int)), (12, .int .i64 (ps.length : Int)), (11, u1), (0, u1), (1, u2)]) (fun x => A * x.2.1 * M x.2.2) (fun x => x.1 ≤ ps.length ∧ psFrom tell ls.length ps 0 s0 = psFrom tell ls.length (ps.drop x.1) x.1 x.2.2) (fun x => ps.length - x.1) (0, _, s0) ⟨Nat.zero_le _, rfl⟩ (fun x hx ih => ?_))) ⟨rfl, rfl, rfl, rfl, rfl, trivial⟩ (Grew.of (congrArg (· * _) as0) (Grew.refl _))
  obtain ⟨i, J, s⟩ := x
  simp only at hx ih ⊢
  obtain ⟨hi, hp⟩ := hx
  rcases Nat.lt_or_ge i ps.length with hlt | hge
  · have rdi : GP w0 A (ps.getD i default) := al.get hlt
    have hone : ∀ w ∈ (Value.agg (encT126 (ps.getD i default)).toArray).cells.toList, w.oneCell' = true := fun w hw => OneC.one (enc := encT126) _ w hw
    rw [drop_next hlt] at hp
    simp only [psFrom] at hp
    refine Run.seq ?_
    refine Run.region ?_
    refine RunL.ok (OpOk.asT (OpOk.lss rfl rfl) (by omega)) rfl ?_
    refine RunL.nil ?_
    refine Run.seq ?_
    refine Run.condT rfl ?_
    refine Run.skip ?_
    refine Run.seq ?_
    refine Run.block ?_
    refine Run.seq ?_
    refine Run.region ?_
    refine RunL.ok (OpOk.move rfl) rfl ?_
    refine RunL.ok (OpOk.idxN rfl ti126 rfl rd.left.left rfl (by omega)) rfl ?_
    refine RunL.ok (OpOk.loadFl default rfl rfl ti126 rfl rd.left.left (fun _ => rfl) rfl (by omega)) rfl ?_
    refine RunL.alloc ti126 rfl (fun by1 => ?_)
    refine RunL.ok (OpOk.assign rfl) rfl ?_
    refine RunL.storeAll ti126 rfl rfl rfl (fun w hw => OneC.one (enc := encT126) (ps.getD i default) w hw) rfl rfl ?_
    refine RunL.nil ?_
    refine Run.seq ?_
    refine Run.region ?_
    refine RunL.ok (OpOk.move rfl) rfl ?_
    refine RunL.ok (OpOk.lenR rfl rfl rd2.left.left.left rfl) rfl ?_
    refine RunL.ok (OpOk.move rfl) rfl ?_
    refine RunL.nil ?_
    refine Run.block ?_
    refine Run.jump ((Run.loopJ (X := Nat × Asn × σ) (fun x => [(20, .int .i64 (x.1 : Int)), (19, .int .i64 (ls.length : Int)), (18, u2), (6, .pointer (some ⟨by1, 0, none⟩)), (5, .int .i64 (i : Int)), (13, .int .i64 (i : Int)), (12, .int .i64 (ps.length : Int)), (11, u1), (0, u1), (1, u2)]) (fun x => A * x.2.1 * pts by1 (.cells (Value.agg (encT126 (ps.getD i default)).toArray).cells 126 (0, 0)) * M x.2.2) (fun x => x.1 ≤ ls.length ∧ tellFrom tell ls.length 0 (ps.getD i default) s = tellFrom tell (ls.length - x.1) x.1 (ps.getD i default) x.2.2) (fun x => ls.length - x.1) (0, _, s) ⟨Nat.zero_le _, rfl⟩ (fun x hx ih2 => ?_))) ⟨rfl, rfl, rfl, rfl, rfl, rfl, rfl, rfl, rfl, rfl, trivial⟩ (Grew.of (Eq.trans (frc (frl rfl) rfl) (congrArg (· * _) (congrArg (· * _) as1))) (Grew.refl _))
    obtain ⟨k, J2, s2⟩ := x
    simp only at hx ih2 ⊢
    obtain ⟨hk, hq⟩ := hx
    rcases Nat.lt_or_ge k ls.length with hkt | hkg
    · rw [show ls.length - k = (ls.length - (k + 1)) + 1 by omega] at hq
      simp only [tellFrom] at hq
      have hkd : ls[k]? = some (ls.getD k .nilIface) := by rw [List.getD_eq_getElem?_getD, List.getElem?_eq_getElem hkt]; rfl
      refine Run.seq ?_
      refine Run.region ?_
      refine RunL.ok (OpOk.asT (OpOk.lss rfl rfl) (by omega)) rfl ?_
      refine RunL.nil ?_
      refine Run.seq ?_
      refine Run.condT rfl ?_
      refine Run.skip ?_
      refine Run.seq ?_
      refine Run.block ?_
      refine Run.seq ?_
      refine Run.region ?_
      refine RunL.ok (OpOk.idx1N rfl ti121 rfl rd2.left.left.left rfl (by omega)) rfl ?_
      refine RunL.ok (OpOk.load rfl rfl rfl (Rd.cell rd2.left.left.left (by first | assumption | rfl))) rfl ?_
      refine RunL.ok (OpOk.assign rfl) rfl ?_
      refine RunL.nil ?_
      refine Run.seq ?_
      refine Run.region ?_
      refine RunL.ok (OpOk.move rfl) rfl ?_
      refine RunL.ok (OpOk.loadS rfl rfl ti126 rfl Blk.pts.left rfl) rfl ?_
      refine RunL.callLook rfl rfl (hT k (ps.getD i default) s2 _ hkt (getD_mem hlt) (by unfold GP; first | exact Rd.left rdi | exact Rd.left (Rd.left rdi) | exact Rd.left (Rd.left (Rd.left rdi)))) rfl (fun u A' h => ?_)
      obtain ⟨rfl, J3, rfl⟩ := h
      cases hb : (tell k (ps.getD i default) s2).1 with
      | true =>
        rw [hb, if_pos rfl] at hq
        refine RunL.ok (OpOk.not rfl) rfl ?_
        refine RunL.nil ?_
        refine Run.condF rfl ?_
        refine Run.skip ?_
        refine Run.inBlock ?_
        refine Run.region ?_
        refine RunL.ok (OpOk.addN _ 1 rfl rfl rfl rfl (by omega)) rfl ?_
        refine RunL.ok (OpOk.move rfl) rfl ?_
        refine RunL.nil ?_
        refine Run.jump ((ih2 (k + 1, _, (tell k (ps.getD i default) s2).2) ⟨by dsimp only; omega, hq⟩ (by dsimp only; omega))) ⟨rfl, rfl, rfl, rfl, rfl, rfl, rfl, rfl, rfl, rfl, trivial⟩ (Grew.of (Eq.trans (frc rfl (frc (frl rfl) rfl)) (congrArg (· * _) (congrArg (· * _) (asg as1)))) (Grew.refl _))
      | false =>
        rw [hb, if_neg (by decide)] at hq
        have e : firstF tell fin ls.length ps s0 = ((i : Int), (tell k (ps.getD i default) s2).2) := by
          unfold firstF
          rw [hp, hq, if_neg (fun h => by cases h)]
        rw [e]
        refine RunL.ok (OpOk.not rfl) rfl ?_
        refine RunL.nil ?_
        refine Run.condT rfl ?_
        refine Run.seq ?_
        refine Run.region ?_
        refine RunL.ok (OpOk.move rfl) rfl ?_
        refine RunL.ok (OpOk.assign rfl) rfl ?_
        refine RunL.nil ?_
        refine Run.ret1 Try.func15 rfl rfl ?_
        exact ⟨rfl, J2 * pts by1 (.cells (Value.agg (encT126 (ps.getD i default)).toArray).cells 126 (0, 0)) * J3, by ac_rfl⟩
    · obtain rfl : k = ls.length := by omega
      clear ih2
      rw [Nat.sub_self] at hq
      simp only [tellFrom] at hq
      rw [hq, if_pos rfl] at hp
      refine Run.seq ?_
      refine Run.region ?_
      refine RunL.ok (OpOk.asF (OpOk.lss rfl rfl) (by omega)) rfl ?_
      refine RunL.nil ?_
      refine Run.seq ?_
      refine Run.condF rfl ?_
      refine Run.exit rfl ?_
      refine Run.inBlock ?_
      refine Run.region ?_
      refine RunL.ok (OpOk.addN _ 1 rfl rfl rfl rfl (by omega)) rfl ?_
      refine RunL.ok (OpOk.move rfl) rfl ?_
      refine RunL.nil ?_
      refine Run.jump ((ih (i + 1, _, s2) ⟨by dsimp only; omega, hp⟩ (by dsimp only; omega))) ⟨rfl, rfl, rfl, rfl, rfl, trivial⟩ (Grew.of (congrArg (· * _) (asg as1)) (Grew.refl _))
  · obtain rfl : i = ps.length := by omega
    clear ih
    rw [List.drop_length] at hp
    simp only [psFrom] at hp
    refine Run.seq ?_
    refine Run.region ?_
    refine RunL.ok (OpOk.asF (OpOk.lss rfl rfl) (by omega)) rfl ?_
    refine RunL.nil ?_
    refine Run.seq ?_
    refine Run.condF rfl ?_
    refine Run.exit rfl ?_
    refine Run.seq ?_
    refine Run.seq ?_
    refine Run.region ?_
    refine RunL.ok (OpOk.move rfl) rfl ?_
    refine RunL.ok (OpOk.lenR rfl rfl rd2.left.left rfl) rfl ?_
    refine RunL.ok (OpOk.move rfl) rfl ?_
    refine RunL.nil ?_
    refine Run.block ?_
    refine Run.jump ((Run.loopJ (X := Nat × Asn × σ) (fun x => [(33, .int .i64 (x.1 : Int)), (32, .int .i64 (ls.length : Int)), (31, u2), (0, u1)]) (fun x => A * x.2.1 * M x.2.2) (fun x => x.1 ≤ ls.length ∧ finFrom fin ls.length 0 s = finFrom fin (ls.length - x.1) x.1 x.2.2) (fun x => ls.length - x.1) (0, _, s) ⟨Nat.zero_le _, rfl⟩ (fun x hx ih => ?_))) ⟨rfl, rfl, rfl, rfl, trivial⟩ (Grew.of (congrArg (· * _) as1) (Grew.refl _))
    obtain ⟨k, J2, s2⟩ := x
    simp only at hx ih ⊢
    obtain ⟨hk, hq⟩ := hx
    rcases Nat.lt_or_ge k ls.length with hkt | hkg
    · have hkd : ls[k]? = some (ls.getD k .nilIface) := by rw [List.getD_eq_getElem?_getD, List.getElem?_eq_getElem hkt]; rfl
      rw [show ls.length - k = (ls.length - (k + 1)) + 1 by omega] at hq
      simp only [finFrom] at hq
      refine Run.seq ?_
      refine Run.region ?_
      refine RunL.ok (OpOk.asT (OpOk.lss rfl rfl) (by omega)) rfl ?_
      refine RunL.nil ?_
      refine Run.seq ?_
      refine Run.condT rfl ?_
      refine Run.skip ?_
      refine Run.seq ?_
      refine Run.block ?_
      refine Run.seq ?_
      refine Run.region ?_
      refine RunL.ok (OpOk.idx1N rfl ti121 rfl rd2.left.left rfl (by omega)) rfl ?_
      refine RunL.ok (OpOk.load rfl rfl rfl (Rd.cell rd2.left.left (by first | assumption | rfl))) rfl ?_
      refine RunL.ok (OpOk.assign rfl) rfl ?_
      refine RunL.nil ?_
      refine Run.seq ?_
      refine Run.region ?_
      refine RunL.ok (OpOk.move rfl) rfl ?_
      refine RunL.callLook (args := []) (vs := []) rfl rfl (hE k s2 _ hkt) rfl (fun u A' h => ?_)
      obtain ⟨rfl, J3, rfl⟩ := h
      cases hb : (fin k s2).1 with
      | true =>
        rw [hb, if_pos rfl] at hq
        refine RunL.ok (OpOk.not rfl) rfl ?_
        refine RunL.nil ?_
        refine Run.condF rfl ?_
        refine Run.skip ?_
        refine Run.inBlock ?_
        refine Run.region ?_
        refine RunL.ok (OpOk.addN _ 1 rfl rfl rfl rfl (by omega)) rfl ?_
        refine RunL.ok (OpOk.move rfl) rfl ?_
        refine RunL.nil ?_
        refine Run.jump ((ih (k + 1, _, (fin k s2).2) ⟨by dsimp only; omega, hq⟩ (by dsimp only; omega))) ⟨rfl, rfl, rfl, rfl, trivial⟩ (Grew.of (congrArg (· * _) (asg as1)) (Grew.refl _))
      | false =>
        rw [hb, if_neg (by decide)] at hq
        have e : firstF tell fin ls.length ps s0 = ((ps.length : Int), (fin k s2).2) := by
          unfold firstF
          rw [hp]
          dsimp only
          rw [hq, if_neg (fun h => by cases h)]
        rw [e]
        refine RunL.ok (OpOk.not rfl) rfl ?_
        refine RunL.nil ?_
        refine Run.condT rfl ?_
        refine Run.seq ?_
        refine Run.region ?_
        refine RunL.ok (OpOk.move rfl) rfl ?_
        refine RunL.ok (OpOk.lenR rfl rfl rd.left.left.left rfl) rfl ?_
        refine RunL.ok (OpOk.assign rfl) rfl ?_
        refine RunL.nil ?_
        refine Run.ret1 Try.func15 rfl rfl ?_
        exact ⟨rfl, J2 * J3, by ac_rfl⟩
    · obtain rfl : k = ls.length := by omega
      clear ih
      rw [Nat.sub_self] at hq
      simp only [finFrom] at hq
      have e : firstF tell fin ls.length ps s0 = (-1, s2) := by
        unfold firstF
        rw [hp]
        dsimp only
        rw [hq, if_pos rfl]
      rw [e]
      refine Run.seq ?_
      refine Run.region ?_
      refine RunL.ok (OpOk.asF (OpOk.lss rfl rfl) (by omega)) rfl ?_
      refine RunL.nil ?_
      refine Run.seq ?_
      refine Run.condF rfl ?_
      refine Run.exit rfl ?_
      refine Run.seq ?_
      refine Run.region ?_
      refine RunL.ok (OpOk.assign rfl) rfl ?_
      refine RunL.nil ?_
      refine Run.ret1 Try.func15 rfl rfl ?_
      exact ⟨rfl, J2, rfl⟩
end
end Go.Proofs.Yteopadjihklkmaa
