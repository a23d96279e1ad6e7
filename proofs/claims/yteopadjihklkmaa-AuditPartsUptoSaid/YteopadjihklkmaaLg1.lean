/- Sums as the document has them; even shares; copies of shares and postings. -/
import Derived.Test.YteopadjihklkmaaLg0
namespace Go.Proofs.Yteopadjihklkmaa
open Go Go.Proofs
set_option maxRecDepth 100000
set_option maxHeartbeats 4000000
section
variable {w0 : World} {A : Asn}
theorem s104a {u : Value} {m : Nat} {ns : List Int} {n : Int} (rd : Rd w0 A u 1 m (I ns)) (hin : ∀ z ∈ ns, inI z) (hs : sumO 0 ns = some n) :
    Spec Try.prog w0 104 [u] A (fun v' A' => v' = .tuple #[.int .i64 n, .bool true] ∧ A' = A) := by
  have hl := rd.lenI
  subst hl
  have hmx := rd.max
  refine Spec.of_run [(0, u)] Try.func104 rfl (Nat.le_of_ble_eq_true rfl) (by repeat (first | exact trivial | refine ⟨rfl, ?_⟩)) ?_
  refine Run.seq ?_
  refine Run.region ?_
  refine RunL.ok (OpOk.assign rfl) rfl ?_
  refine RunL.ok (OpOk.assign rfl) rfl ?_
  refine RunL.nil ?_
  refine Run.seq ?_
  refine Run.region ?_
  refine RunL.ok (OpOk.assign rfl) rfl ?_
  refine RunL.nil ?_
  refine Run.seq ?_
  refine Run.seq ?_
  refine Run.region ?_
  refine RunL.ok (OpOk.assign rfl) rfl ?_
  refine RunL.nil ?_
  refine Run.block ?_
  refine Run.jump ((Run.loopJ (X := Nat × Int) (fun x => [(5, .int .i64 (x.1 : Int)), (0, u), (4, .int .i64 x.2)]) (fun _ => A) (fun x => x.1 ≤ ns.length ∧ inI x.2 ∧ sumO x.2 (ns.drop x.1) = some n) (fun x => ns.length - x.1) (0, 0) ⟨Nat.zero_le _, ⟨by decide, by decide⟩, hs⟩ (fun x hx ih => ?_))) ⟨rfl, rfl, rfl, trivial⟩ ((Grew.refl _))
  obtain ⟨i, s⟩ := x
  simp only at hx ih ⊢
  obtain ⟨hi, hr, hsum⟩ := hx
  rcases Nat.lt_or_ge i ns.length with hlt | hge
  · have hz := getD_in hin hlt
    rw [sum_next hlt] at hsum
    obtain ⟨hr1, hr2⟩ := hr
    obtain ⟨hz1, hz2⟩ := hz
    rcases Decidable.em (-9223372036854775808 ≤ s + ns.getD i 0 ∧ s + ns.getD i 0 ≤ 9223372036854775807) with hc | hc
    · rw [if_pos hc] at hsum
      have hc1 := hc.1
      have hc2 := hc.2
      refine Run.seq ?_
      refine Run.seq ?_
      refine Run.region ?_
      refine RunL.ok (OpOk.move rfl) rfl ?_
      refine RunL.ok (OpOk.move rfl) rfl ?_
      refine RunL.ok (OpOk.lenR rfl rfl rd rfl) rfl ?_
      refine RunL.ok (OpOk.asT (OpOk.lss rfl rfl) (by omega)) rfl ?_
      refine RunL.nil ?_
      refine Run.condT rfl ?_
      refine Run.skip ?_
      refine Run.seq ?_
      refine Run.block ?_
      refine Run.seq ?_
      refine Run.seq ?_
      refine Run.region ?_
      refine RunL.ok (OpOk.move rfl) rfl ?_
      refine RunL.ok (OpOk.move rfl) rfl ?_
      refine RunL.ok (OpOk.idx1N rfl ti3 rfl rd rfl (by omega)) rfl ?_
      refine RunL.ok (OpOk.load rfl rfl rfl (Rd.getI rd (by omega))) rfl ?_
      refine RunL.ok (OpOk.gtr rfl rfl) rfl ?_
      refine RunL.ok (OpOk.move rfl) rfl ?_
      refine RunL.splitD (t := 17) rfl (fun y1 => ?_) (fun y1 => ?_)
      · refine RunL.on rfl rfl ?_
        refine RunL.ok (OpOk.move rfl) rfl ?_
        refine RunL.on rfl rfl ?_
        refine RunL.ok (OpOk.move rfl) rfl ?_
        refine RunL.on rfl rfl ?_
        refine RunL.ok (OpOk.move rfl) rfl ?_
        refine RunL.on rfl rfl ?_
        refine RunL.ok (OpOk.idx1N rfl ti3 rfl rd rfl (by omega)) rfl ?_
        refine RunL.on rfl rfl ?_
        refine RunL.ok (OpOk.load rfl rfl rfl (Rd.getI rd (by omega))) rfl ?_
        refine RunL.on rfl rfl ?_
        refine RunL.ok (OpOk.sub rfl rfl (wrapI (by omega) (by omega))) rfl ?_
        refine RunL.on rfl rfl ?_
        refine RunL.ok (OpOk.asF (OpOk.gtr rfl rfl) (by omega)) rfl ?_
        refine RunL.ok (OpOk.pickT rfl rfl) rfl ?_
        refine RunL.ok (OpOk.move rfl) rfl ?_
        refine RunL.on rfl rfl ?_
        refine RunL.ok (OpOk.move rfl) rfl ?_
        refine RunL.on rfl rfl ?_
        refine RunL.ok (OpOk.move rfl) rfl ?_
        refine RunL.on rfl rfl ?_
        refine RunL.ok (OpOk.idx1N rfl ti3 rfl rd rfl (by omega)) rfl ?_
        refine RunL.on rfl rfl ?_
        refine RunL.ok (OpOk.load rfl rfl rfl (Rd.getI rd (by omega))) rfl ?_
        refine RunL.on rfl rfl ?_
        refine RunL.ok (OpOk.asF (OpOk.lss rfl rfl) (by omega)) rfl ?_
        refine RunL.on rfl rfl ?_
        refine RunL.ok (OpOk.move rfl) rfl ?_
        refine RunL.off rfl rfl rfl rfl ?_
        refine RunL.off rfl rfl rfl rfl ?_
        refine RunL.off rfl rfl rfl rfl ?_
        refine RunL.off rfl rfl rfl rfl ?_
        refine RunL.off rfl rfl rfl rfl ?_
        refine RunL.off rfl rfl rfl rfl ?_
        refine RunL.off rfl rfl rfl rfl ?_
        refine RunL.on rfl rfl ?_
        refine RunL.ok (OpOk.pickF rfl rfl) rfl ?_
        refine RunL.ok (OpOk.pickF rfl rfl) rfl ?_
        refine RunL.nil ?_
        refine Run.condF rfl ?_
        refine Run.skip ?_
        refine Run.region ?_
        refine RunL.ok (OpOk.move rfl) rfl ?_
        refine RunL.ok (OpOk.move rfl) rfl ?_
        refine RunL.ok (OpOk.move rfl) rfl ?_
        refine RunL.ok (OpOk.idx1N rfl ti3 rfl rd rfl (by omega)) rfl ?_
        refine RunL.ok (OpOk.load rfl rfl rfl (Rd.getI rd (by omega))) rfl ?_
        refine RunL.ok (OpOk.add rfl rfl (wrapI (by omega) (by omega))) rfl ?_
        refine RunL.ok (OpOk.assign rfl) rfl ?_
        refine RunL.nil ?_
        refine Run.inBlock ?_
        refine Run.region ?_
        refine RunL.ok (OpOk.move rfl) rfl ?_
        refine RunL.ok (OpOk.addN _ 1 rfl rfl rfl rfl (by omega)) rfl ?_
        refine RunL.ok (OpOk.assign rfl) rfl ?_
        refine RunL.nil ?_
        refine Run.jump ((ih (i + 1, s + ns.getD i 0) ⟨by dsimp only; omega, hc, hsum⟩ (by dsimp only; omega))) ⟨rfl, rfl, rfl, trivial⟩ ((Grew.refl _))
      refine RunL.off rfl rfl rfl rfl ?_
      refine RunL.off rfl rfl rfl rfl ?_
      refine RunL.off rfl rfl rfl rfl ?_
      refine RunL.off rfl rfl rfl rfl ?_
      refine RunL.off rfl rfl rfl rfl ?_
      refine RunL.off rfl rfl rfl rfl ?_
      refine RunL.off rfl rfl rfl rfl ?_
      refine RunL.ok (OpOk.pickF rfl rfl) rfl ?_
      refine RunL.ok (OpOk.move rfl) rfl ?_
      refine RunL.on rfl rfl ?_
      refine RunL.ok (OpOk.move rfl) rfl ?_
      refine RunL.on rfl rfl ?_
      refine RunL.ok (OpOk.move rfl) rfl ?_
      refine RunL.on rfl rfl ?_
      refine RunL.ok (OpOk.idx1N rfl ti3 rfl rd rfl (by omega)) rfl ?_
      refine RunL.on rfl rfl ?_
      refine RunL.ok (OpOk.load rfl rfl rfl (Rd.getI rd (by omega))) rfl ?_
      refine RunL.on rfl rfl ?_
      refine RunL.ok (OpOk.lss rfl rfl) rfl ?_
      refine RunL.on rfl rfl ?_
      refine RunL.ok (OpOk.move rfl) rfl ?_
      refine RunL.splitD (t := 32) rfl (fun y2 => ?_) (fun y2 => ?_)
      · refine RunL.on rfl rfl ?_
        refine RunL.ok (OpOk.move rfl) rfl ?_
        refine RunL.on rfl rfl ?_
        refine RunL.ok (OpOk.move rfl) rfl ?_
        refine RunL.on rfl rfl ?_
        refine RunL.ok (OpOk.move rfl) rfl ?_
        refine RunL.on rfl rfl ?_
        refine RunL.ok (OpOk.idx1N rfl ti3 rfl rd rfl (by omega)) rfl ?_
        refine RunL.on rfl rfl ?_
        refine RunL.ok (OpOk.load rfl rfl rfl (Rd.getI rd (by omega))) rfl ?_
        refine RunL.on rfl rfl ?_
        refine RunL.ok (OpOk.sub rfl rfl (wrapI (by omega) (by omega))) rfl ?_
        refine RunL.on rfl rfl ?_
        refine RunL.ok (OpOk.asF (OpOk.lss rfl rfl) (by omega)) rfl ?_
        refine RunL.on rfl rfl ?_
        refine RunL.ok (OpOk.pickT rfl rfl) rfl ?_
        refine RunL.ok (OpOk.pickF rfl rfl) rfl ?_
        refine RunL.nil ?_
        refine Run.condF rfl ?_
        refine Run.skip ?_
        refine Run.region ?_
        refine RunL.ok (OpOk.move rfl) rfl ?_
        refine RunL.ok (OpOk.move rfl) rfl ?_
        refine RunL.ok (OpOk.move rfl) rfl ?_
        refine RunL.ok (OpOk.idx1N rfl ti3 rfl rd rfl (by omega)) rfl ?_
        refine RunL.ok (OpOk.load rfl rfl rfl (Rd.getI rd (by omega))) rfl ?_
        refine RunL.ok (OpOk.add rfl rfl (wrapI (by omega) (by omega))) rfl ?_
        refine RunL.ok (OpOk.assign rfl) rfl ?_
        refine RunL.nil ?_
        refine Run.inBlock ?_
        refine Run.region ?_
        refine RunL.ok (OpOk.move rfl) rfl ?_
        refine RunL.ok (OpOk.addN _ 1 rfl rfl rfl rfl (by omega)) rfl ?_
        refine RunL.ok (OpOk.assign rfl) rfl ?_
        refine RunL.nil ?_
        refine Run.jump ((ih (i + 1, s + ns.getD i 0) ⟨by dsimp only; omega, hc, hsum⟩ (by dsimp only; omega))) ⟨rfl, rfl, rfl, trivial⟩ ((Grew.refl _))
      refine RunL.off rfl rfl rfl rfl ?_
      refine RunL.off rfl rfl rfl rfl ?_
      refine RunL.off rfl rfl rfl rfl ?_
      refine RunL.off rfl rfl rfl rfl ?_
      refine RunL.off rfl rfl rfl rfl ?_
      refine RunL.off rfl rfl rfl rfl ?_
      refine RunL.off rfl rfl rfl rfl ?_
      refine RunL.on rfl rfl ?_
      refine RunL.ok (OpOk.pickF rfl rfl) rfl ?_
      refine RunL.ok (OpOk.pickF rfl rfl) rfl ?_
      refine RunL.nil ?_
      refine Run.condF rfl ?_
      refine Run.skip ?_
      refine Run.region ?_
      refine RunL.ok (OpOk.move rfl) rfl ?_
      refine RunL.ok (OpOk.move rfl) rfl ?_
      refine RunL.ok (OpOk.move rfl) rfl ?_
      refine RunL.ok (OpOk.idx1N rfl ti3 rfl rd rfl (by omega)) rfl ?_
      refine RunL.ok (OpOk.load rfl rfl rfl (Rd.getI rd (by omega))) rfl ?_
      refine RunL.ok (OpOk.add rfl rfl (wrapI (by omega) (by omega))) rfl ?_
      refine RunL.ok (OpOk.assign rfl) rfl ?_
      refine RunL.nil ?_
      refine Run.inBlock ?_
      refine Run.region ?_
      refine RunL.ok (OpOk.move rfl) rfl ?_
      refine RunL.ok (OpOk.addN _ 1 rfl rfl rfl rfl (by omega)) rfl ?_
      refine RunL.ok (OpOk.assign rfl) rfl ?_
      refine RunL.nil ?_
      refine Run.jump ((ih (i + 1, s + ns.getD i 0) ⟨by dsimp only; omega, hc, hsum⟩ (by dsimp only; omega))) ⟨rfl, rfl, rfl, trivial⟩ ((Grew.refl _))
    · rw [if_neg hc] at hsum
      cases hsum
  · obtain rfl : i = ns.length := by omega
    clear ih
    rw [List.drop_length] at hsum
    obtain rfl := Option.some.inj hsum
    refine Run.seq ?_
    refine Run.seq ?_
    refine Run.region ?_
    refine RunL.ok (OpOk.move rfl) rfl ?_
    refine RunL.ok (OpOk.move rfl) rfl ?_
    refine RunL.ok (OpOk.lenR rfl rfl rd rfl) rfl ?_
    refine RunL.ok (OpOk.asF (OpOk.lss rfl rfl) (by omega)) rfl ?_
    refine RunL.nil ?_
    refine Run.condF rfl ?_
    refine Run.exit rfl ?_
    refine Run.seq ?_
    refine Run.region ?_
    refine RunL.ok (OpOk.move rfl) rfl ?_
    refine RunL.ok (OpOk.assign rfl) rfl ?_
    refine RunL.ok (OpOk.assign rfl) rfl ?_
    refine RunL.nil ?_
    refine Run.ret2 Try.func104 rfl rfl rfl ?_
    exact ⟨rfl, rfl⟩
theorem s104b {u : Value} {m : Nat} {ns : List Int} (rd : Rd w0 A u 1 m (I ns)) (hin : ∀ z ∈ ns, inI z) (hs : sumO 0 ns = none) :
    Spec Try.prog w0 104 [u] A (fun v' A' => v' = .tuple #[.int .i64 0, .bool false] ∧ A' = A) := by
  have hl := rd.lenI
  subst hl
  have hmx := rd.max
  refine Spec.of_run [(0, u)] Try.func104 rfl (Nat.le_of_ble_eq_true rfl) (by repeat (first | exact trivial | refine ⟨rfl, ?_⟩)) ?_
  refine Run.seq ?_
  refine Run.region ?_
  refine RunL.ok (OpOk.assign rfl) rfl ?_
  refine RunL.ok (OpOk.assign rfl) rfl ?_
  refine RunL.nil ?_
  refine Run.seq ?_
  refine Run.region ?_
  refine RunL.ok (OpOk.assign rfl) rfl ?_
  refine RunL.nil ?_
  refine Run.seq ?_
  refine Run.seq ?_
  refine Run.region ?_
  refine RunL.ok (OpOk.assign rfl) rfl ?_
  refine RunL.nil ?_
  refine Run.block ?_
  refine Run.jump ((Run.loopJ (X := Nat × Int) (fun x => [(5, .int .i64 (x.1 : Int)), (0, u), (4, .int .i64 x.2)]) (fun _ => A) (fun x => x.1 ≤ ns.length ∧ inI x.2 ∧ sumO x.2 (ns.drop x.1) = none) (fun x => ns.length - x.1) (0, 0) ⟨Nat.zero_le _, ⟨by decide, by decide⟩, hs⟩ (fun x hx ih => ?_))) ⟨rfl, rfl, rfl, trivial⟩ ((Grew.refl _))
  obtain ⟨i, s⟩ := x
  simp only at hx ih ⊢
  obtain ⟨hi, hr, hsum⟩ := hx
  rcases Nat.lt_or_ge i ns.length with hlt | hge
  · have hz := getD_in hin hlt
    rw [sum_next hlt] at hsum
    obtain ⟨hr1, hr2⟩ := hr
    obtain ⟨hz1, hz2⟩ := hz
    rcases Decidable.em (-9223372036854775808 ≤ s + ns.getD i 0 ∧ s + ns.getD i 0 ≤ 9223372036854775807) with hc | hc
    · rw [if_pos hc] at hsum
      have hc1 := hc.1
      have hc2 := hc.2
      refine Run.seq ?_
      refine Run.seq ?_
      refine Run.region ?_
      refine RunL.ok (OpOk.move rfl) rfl ?_
      refine RunL.ok (OpOk.move rfl) rfl ?_
      refine RunL.ok (OpOk.lenR rfl rfl rd rfl) rfl ?_
      refine RunL.ok (OpOk.asT (OpOk.lss rfl rfl) (by omega)) rfl ?_
      refine RunL.nil ?_
      refine Run.condT rfl ?_
      refine Run.skip ?_
      refine Run.seq ?_
      refine Run.block ?_
      refine Run.seq ?_
      refine Run.seq ?_
      refine Run.region ?_
      refine RunL.ok (OpOk.move rfl) rfl ?_
      refine RunL.ok (OpOk.move rfl) rfl ?_
      refine RunL.ok (OpOk.idx1N rfl ti3 rfl rd rfl (by omega)) rfl ?_
      refine RunL.ok (OpOk.load rfl rfl rfl (Rd.getI rd (by omega))) rfl ?_
      refine RunL.ok (OpOk.gtr rfl rfl) rfl ?_
      refine RunL.ok (OpOk.move rfl) rfl ?_
      refine RunL.splitD (t := 17) rfl (fun y1 => ?_) (fun y1 => ?_)
      · refine RunL.on rfl rfl ?_
        refine RunL.ok (OpOk.move rfl) rfl ?_
        refine RunL.on rfl rfl ?_
        refine RunL.ok (OpOk.move rfl) rfl ?_
        refine RunL.on rfl rfl ?_
        refine RunL.ok (OpOk.move rfl) rfl ?_
        refine RunL.on rfl rfl ?_
        refine RunL.ok (OpOk.idx1N rfl ti3 rfl rd rfl (by omega)) rfl ?_
        refine RunL.on rfl rfl ?_
        refine RunL.ok (OpOk.load rfl rfl rfl (Rd.getI rd (by omega))) rfl ?_
        refine RunL.on rfl rfl ?_
        refine RunL.ok (OpOk.sub rfl rfl (wrapI (by omega) (by omega))) rfl ?_
        refine RunL.on rfl rfl ?_
        refine RunL.ok (OpOk.asF (OpOk.gtr rfl rfl) (by omega)) rfl ?_
        refine RunL.ok (OpOk.pickT rfl rfl) rfl ?_
        refine RunL.ok (OpOk.move rfl) rfl ?_
        refine RunL.on rfl rfl ?_
        refine RunL.ok (OpOk.move rfl) rfl ?_
        refine RunL.on rfl rfl ?_
        refine RunL.ok (OpOk.move rfl) rfl ?_
        refine RunL.on rfl rfl ?_
        refine RunL.ok (OpOk.idx1N rfl ti3 rfl rd rfl (by omega)) rfl ?_
        refine RunL.on rfl rfl ?_
        refine RunL.ok (OpOk.load rfl rfl rfl (Rd.getI rd (by omega))) rfl ?_
        refine RunL.on rfl rfl ?_
        refine RunL.ok (OpOk.asF (OpOk.lss rfl rfl) (by omega)) rfl ?_
        refine RunL.on rfl rfl ?_
        refine RunL.ok (OpOk.move rfl) rfl ?_
        refine RunL.off rfl rfl rfl rfl ?_
        refine RunL.off rfl rfl rfl rfl ?_
        refine RunL.off rfl rfl rfl rfl ?_
        refine RunL.off rfl rfl rfl rfl ?_
        refine RunL.off rfl rfl rfl rfl ?_
        refine RunL.off rfl rfl rfl rfl ?_
        refine RunL.off rfl rfl rfl rfl ?_
        refine RunL.on rfl rfl ?_
        refine RunL.ok (OpOk.pickF rfl rfl) rfl ?_
        refine RunL.ok (OpOk.pickF rfl rfl) rfl ?_
        refine RunL.nil ?_
        refine Run.condF rfl ?_
        refine Run.skip ?_
        refine Run.region ?_
        refine RunL.ok (OpOk.move rfl) rfl ?_
        refine RunL.ok (OpOk.move rfl) rfl ?_
        refine RunL.ok (OpOk.move rfl) rfl ?_
        refine RunL.ok (OpOk.idx1N rfl ti3 rfl rd rfl (by omega)) rfl ?_
        refine RunL.ok (OpOk.load rfl rfl rfl (Rd.getI rd (by omega))) rfl ?_
        refine RunL.ok (OpOk.add rfl rfl (wrapI (by omega) (by omega))) rfl ?_
        refine RunL.ok (OpOk.assign rfl) rfl ?_
        refine RunL.nil ?_
        refine Run.inBlock ?_
        refine Run.region ?_
        refine RunL.ok (OpOk.move rfl) rfl ?_
        refine RunL.ok (OpOk.addN _ 1 rfl rfl rfl rfl (by omega)) rfl ?_
        refine RunL.ok (OpOk.assign rfl) rfl ?_
        refine RunL.nil ?_
        refine Run.jump ((ih (i + 1, s + ns.getD i 0) ⟨by dsimp only; omega, hc, hsum⟩ (by dsimp only; omega))) ⟨rfl, rfl, rfl, trivial⟩ ((Grew.refl _))
      refine RunL.off rfl rfl rfl rfl ?_
      refine RunL.off rfl rfl rfl rfl ?_
      refine RunL.off rfl rfl rfl rfl ?_
      refine RunL.off rfl rfl rfl rfl ?_
      refine RunL.off rfl rfl rfl rfl ?_
      refine RunL.off rfl rfl rfl rfl ?_
      refine RunL.off rfl rfl rfl rfl ?_
      refine RunL.ok (OpOk.pickF rfl rfl) rfl ?_
      refine RunL.ok (OpOk.move rfl) rfl ?_
      refine RunL.on rfl rfl ?_
      refine RunL.ok (OpOk.move rfl) rfl ?_
      refine RunL.on rfl rfl ?_
      refine RunL.ok (OpOk.move rfl) rfl ?_
      refine RunL.on rfl rfl ?_
      refine RunL.ok (OpOk.idx1N rfl ti3 rfl rd rfl (by omega)) rfl ?_
      refine RunL.on rfl rfl ?_
      refine RunL.ok (OpOk.load rfl rfl rfl (Rd.getI rd (by omega))) rfl ?_
      refine RunL.on rfl rfl ?_
      refine RunL.ok (OpOk.lss rfl rfl) rfl ?_
      refine RunL.on rfl rfl ?_
      refine RunL.ok (OpOk.move rfl) rfl ?_
      refine RunL.splitD (t := 32) rfl (fun y2 => ?_) (fun y2 => ?_)
      · refine RunL.on rfl rfl ?_
        refine RunL.ok (OpOk.move rfl) rfl ?_
        refine RunL.on rfl rfl ?_
        refine RunL.ok (OpOk.move rfl) rfl ?_
        refine RunL.on rfl rfl ?_
        refine RunL.ok (OpOk.move rfl) rfl ?_
        refine RunL.on rfl rfl ?_
        refine RunL.ok (OpOk.idx1N rfl ti3 rfl rd rfl (by omega)) rfl ?_
        refine RunL.on rfl rfl ?_
        refine RunL.ok (OpOk.load rfl rfl rfl (Rd.getI rd (by omega))) rfl ?_
        refine RunL.on rfl rfl ?_
        refine RunL.ok (OpOk.sub rfl rfl (wrapI (by omega) (by omega))) rfl ?_
        refine RunL.on rfl rfl ?_
        refine RunL.ok (OpOk.asF (OpOk.lss rfl rfl) (by omega)) rfl ?_
        refine RunL.on rfl rfl ?_
        refine RunL.ok (OpOk.pickT rfl rfl) rfl ?_
        refine RunL.ok (OpOk.pickF rfl rfl) rfl ?_
        refine RunL.nil ?_
        refine Run.condF rfl ?_
        refine Run.skip ?_
        refine Run.region ?_
        refine RunL.ok (OpOk.move rfl) rfl ?_
        refine RunL.ok (OpOk.move rfl) rfl ?_
        refine RunL.ok (OpOk.move rfl) rfl ?_
        refine RunL.ok (OpOk.idx1N rfl ti3 rfl rd rfl (by omega)) rfl ?_
        refine RunL.ok (OpOk.load rfl rfl rfl (Rd.getI rd (by omega))) rfl ?_
        refine RunL.ok (OpOk.add rfl rfl (wrapI (by omega) (by omega))) rfl ?_
        refine RunL.ok (OpOk.assign rfl) rfl ?_
        refine RunL.nil ?_
        refine Run.inBlock ?_
        refine Run.region ?_
        refine RunL.ok (OpOk.move rfl) rfl ?_
        refine RunL.ok (OpOk.addN _ 1 rfl rfl rfl rfl (by omega)) rfl ?_
        refine RunL.ok (OpOk.assign rfl) rfl ?_
        refine RunL.nil ?_
        refine Run.jump ((ih (i + 1, s + ns.getD i 0) ⟨by dsimp only; omega, hc, hsum⟩ (by dsimp only; omega))) ⟨rfl, rfl, rfl, trivial⟩ ((Grew.refl _))
      refine RunL.off rfl rfl rfl rfl ?_
      refine RunL.off rfl rfl rfl rfl ?_
      refine RunL.off rfl rfl rfl rfl ?_
      refine RunL.off rfl rfl rfl rfl ?_
      refine RunL.off rfl rfl rfl rfl ?_
      refine RunL.off rfl rfl rfl rfl ?_
      refine RunL.off rfl rfl rfl rfl ?_
      refine RunL.on rfl rfl ?_
      refine RunL.ok (OpOk.pickF rfl rfl) rfl ?_
      refine RunL.ok (OpOk.pickF rfl rfl) rfl ?_
      refine RunL.nil ?_
      refine Run.condF rfl ?_
      refine Run.skip ?_
      refine Run.region ?_
      refine RunL.ok (OpOk.move rfl) rfl ?_
      refine RunL.ok (OpOk.move rfl) rfl ?_
      refine RunL.ok (OpOk.move rfl) rfl ?_
      refine RunL.ok (OpOk.idx1N rfl ti3 rfl rd rfl (by omega)) rfl ?_
      refine RunL.ok (OpOk.load rfl rfl rfl (Rd.getI rd (by omega))) rfl ?_
      refine RunL.ok (OpOk.add rfl rfl (wrapI (by omega) (by omega))) rfl ?_
      refine RunL.ok (OpOk.assign rfl) rfl ?_
      refine RunL.nil ?_
      refine Run.inBlock ?_
      refine Run.region ?_
      refine RunL.ok (OpOk.move rfl) rfl ?_
      refine RunL.ok (OpOk.addN _ 1 rfl rfl rfl rfl (by omega)) rfl ?_
      refine RunL.ok (OpOk.assign rfl) rfl ?_
      refine RunL.nil ?_
      refine Run.jump ((ih (i + 1, s + ns.getD i 0) ⟨by dsimp only; omega, hc, hsum⟩ (by dsimp only; omega))) ⟨rfl, rfl, rfl, trivial⟩ ((Grew.refl _))
    · refine Run.seq ?_
      refine Run.seq ?_
      refine Run.region ?_
      refine RunL.ok (OpOk.move rfl) rfl ?_
      refine RunL.ok (OpOk.move rfl) rfl ?_
      refine RunL.ok (OpOk.lenR rfl rfl rd rfl) rfl ?_
      refine RunL.ok (OpOk.asT (OpOk.lss rfl rfl) (by omega)) rfl ?_
      refine RunL.nil ?_
      refine Run.condT rfl ?_
      refine Run.skip ?_
      refine Run.seq ?_
      refine Run.block ?_
      refine Run.seq ?_
      refine Run.seq ?_
      refine Run.region ?_
      refine RunL.ok (OpOk.move rfl) rfl ?_
      refine RunL.ok (OpOk.move rfl) rfl ?_
      refine RunL.ok (OpOk.idx1N rfl ti3 rfl rd rfl (by omega)) rfl ?_
      refine RunL.ok (OpOk.load rfl rfl rfl (Rd.getI rd (by omega))) rfl ?_
      refine RunL.ok (OpOk.gtr rfl rfl) rfl ?_
      refine RunL.ok (OpOk.move rfl) rfl ?_
      refine RunL.splitD (t := 17) rfl (fun y1 => ?_) (fun y1 => ?_)
      · refine RunL.on rfl rfl ?_
        refine RunL.ok (OpOk.move rfl) rfl ?_
        refine RunL.on rfl rfl ?_
        refine RunL.ok (OpOk.move rfl) rfl ?_
        refine RunL.on rfl rfl ?_
        refine RunL.ok (OpOk.move rfl) rfl ?_
        refine RunL.on rfl rfl ?_
        refine RunL.ok (OpOk.idx1N rfl ti3 rfl rd rfl (by omega)) rfl ?_
        refine RunL.on rfl rfl ?_
        refine RunL.ok (OpOk.load rfl rfl rfl (Rd.getI rd (by omega))) rfl ?_
        refine RunL.on rfl rfl ?_
        refine RunL.ok (OpOk.sub rfl rfl (wrapI (by omega) (by omega))) rfl ?_
        refine RunL.on rfl rfl ?_
        refine RunL.ok (OpOk.asT (OpOk.gtr rfl rfl) (by omega)) rfl ?_
        refine RunL.ok (OpOk.pickT rfl rfl) rfl ?_
        refine RunL.ok (OpOk.move rfl) rfl ?_
        refine RunL.off rfl rfl rfl rfl ?_
        refine RunL.off rfl rfl rfl rfl ?_
        refine RunL.off rfl rfl rfl rfl ?_
        refine RunL.off rfl rfl rfl rfl ?_
        refine RunL.off rfl rfl rfl rfl ?_
        refine RunL.off rfl rfl rfl rfl ?_
        refine RunL.off rfl rfl rfl rfl ?_
        refine RunL.off rfl rfl rfl rfl ?_
        refine RunL.off rfl rfl rfl rfl ?_
        refine RunL.off rfl rfl rfl rfl ?_
        refine RunL.off rfl rfl rfl rfl ?_
        refine RunL.off rfl rfl rfl rfl ?_
        refine RunL.off rfl rfl rfl rfl ?_
        refine RunL.off rfl rfl rfl rfl ?_
        refine RunL.ok (OpOk.pickT rfl rfl) rfl ?_
        refine RunL.nil ?_
        refine Run.condT rfl ?_
        refine Run.seq ?_
        refine Run.region ?_
        refine RunL.ok (OpOk.assign rfl) rfl ?_
        refine RunL.ok (OpOk.assign rfl) rfl ?_
        refine RunL.nil ?_
        refine Run.ret2 Try.func104 rfl rfl rfl ?_
        exact ⟨rfl, rfl⟩
      refine RunL.off rfl rfl rfl rfl ?_
      refine RunL.off rfl rfl rfl rfl ?_
      refine RunL.off rfl rfl rfl rfl ?_
      refine RunL.off rfl rfl rfl rfl ?_
      refine RunL.off rfl rfl rfl rfl ?_
      refine RunL.off rfl rfl rfl rfl ?_
      refine RunL.off rfl rfl rfl rfl ?_
      refine RunL.ok (OpOk.pickF rfl rfl) rfl ?_
      refine RunL.ok (OpOk.move rfl) rfl ?_
      refine RunL.on rfl rfl ?_
      refine RunL.ok (OpOk.move rfl) rfl ?_
      refine RunL.on rfl rfl ?_
      refine RunL.ok (OpOk.move rfl) rfl ?_
      refine RunL.on rfl rfl ?_
      refine RunL.ok (OpOk.idx1N rfl ti3 rfl rd rfl (by omega)) rfl ?_
      refine RunL.on rfl rfl ?_
      refine RunL.ok (OpOk.load rfl rfl rfl (Rd.getI rd (by omega))) rfl ?_
      refine RunL.on rfl rfl ?_
      refine RunL.ok (OpOk.asT (OpOk.lss rfl rfl) (by omega)) rfl ?_
      refine RunL.on rfl rfl ?_
      refine RunL.ok (OpOk.move rfl) rfl ?_
      refine RunL.on rfl rfl ?_
      refine RunL.ok (OpOk.move rfl) rfl ?_
      refine RunL.on rfl rfl ?_
      refine RunL.ok (OpOk.move rfl) rfl ?_
      refine RunL.on rfl rfl ?_
      refine RunL.ok (OpOk.move rfl) rfl ?_
      refine RunL.on rfl rfl ?_
      refine RunL.ok (OpOk.idx1N rfl ti3 rfl rd rfl (by omega)) rfl ?_
      refine RunL.on rfl rfl ?_
      refine RunL.ok (OpOk.load rfl rfl rfl (Rd.getI rd (by omega))) rfl ?_
      refine RunL.on rfl rfl ?_
      refine RunL.ok (OpOk.sub rfl rfl (wrapI (by omega) (by omega))) rfl ?_
      refine RunL.on rfl rfl ?_
      refine RunL.ok (OpOk.asT (OpOk.lss rfl rfl) (by omega)) rfl ?_
      refine RunL.on rfl rfl ?_
      refine RunL.ok (OpOk.pickT rfl rfl) rfl ?_
      refine RunL.ok (OpOk.pickF rfl rfl) rfl ?_
      refine RunL.nil ?_
      refine Run.condT rfl ?_
      refine Run.seq ?_
      refine Run.region ?_
      refine RunL.ok (OpOk.assign rfl) rfl ?_
      refine RunL.ok (OpOk.assign rfl) rfl ?_
      refine RunL.nil ?_
      refine Run.ret2 Try.func104 rfl rfl rfl ?_
      exact ⟨rfl, rfl⟩
  · obtain rfl : i = ns.length := by omega
    rw [List.drop_length] at hsum
    cases hsum
/-! Shares. -/
abbrev Sh := Int × Int
def encT132 (p : Sh) : List Value := [.int .i64 p.1, .int .i64 p.2]
instance : OneC encT132 := ⟨fun a u hu => by
  simp only [encT132, List.mem_cons, List.not_mem_nil, or_false] at hu
  rcases hu with rfl | rfl <;> rfl⟩
theorem amt_next {l : List Sh} {i : Nat} (h : i < l.length) : (l.take (i + 1)).map Prod.snd = (l.take i).map Prod.snd ++ [(l.getD i default).2] := by
  rw [take_next h, List.map_append]; rfl
theorem s140 {u : Value} {l : List Sh} {m : Nat} (rd : Rd w0 A u 2 m (Fl encT132 l)) (hin : ∀ p ∈ l, inI p.2) (hlim : l.length ≤ 8796093022208) :
    Spec Try.prog w0 140 [u] A (fun v' A' => ∃ J, v' = .bool (decide (sumO 0 (l.map Prod.snd) = some 0)) ∧ A' = A * J) := by
  have hl0 := rd.lenFl (fun _ => rfl) (by decide)
  subst hl0
  have hin2 : ∀ z ∈ l.map Prod.snd, inI z := fun z hz => by
    obtain ⟨p, hp, rfl⟩ := List.mem_map.1 hz
    exact hin p hp
  refine Spec.of_run [(0, u)] Try.func140 rfl (Nat.le_of_ble_eq_true rfl) (by repeat (first | exact trivial | refine ⟨rfl, ?_⟩)) ?_
  refine Run.seq ?_
  refine Run.region ?_
  refine RunL.ok (OpOk.assign rfl) rfl ?_
  refine RunL.nil ?_
  refine Run.seq ?_
  refine Run.region ?_
  refine RunL.ok (OpOk.assign rfl) rfl ?_
  refine RunL.nil ?_
  refine Run.seq ?_
  refine Run.seq ?_
  refine Run.region ?_
  refine RunL.ok (OpOk.move rfl) rfl ?_
  refine RunL.ok (OpOk.lenR rfl rfl rd rfl) rfl ?_
  refine RunL.ok (OpOk.move rfl) rfl ?_
  refine RunL.nil ?_
  refine Run.block ?_
  refine Run.ent (Ent.ownNil' _ 3 1 (I []) rfl) ?_
  refine Run.mem (congrArg (· * _) (sep_emp _).symm) ?_
  refine Run.jump ((Run.loopJ (X := Nat × Asn × Value) (fun x => [(10, .int .i64 (x.1 : Int)), (9, .int .i64 (l.length : Int)), (8, u), (3, x.2.2)]) (fun x => A * x.2.1 * own 3 1 x.2.2 x.1 (I ((l.take x.1).map Prod.snd))) (fun x => x.1 ≤ l.length) (fun x => l.length - x.1) (0, _, .slice none 0 0) (Nat.zero_le _) (fun x hx ih => ?_))) ⟨rfl, rfl, rfl, rfl, trivial⟩ (Grew.of (Eq.trans (frc rfl rfl) (congrArg (· * _) as1)) (Grew.refl _))
  obtain ⟨i, J, v3⟩ := x
  simp only at hx ih ⊢
  rcases Nat.lt_or_ge i l.length with hlt | hge
  · refine Run.seq ?_
    refine Run.region ?_
    refine RunL.ok (OpOk.asT (OpOk.lss rfl rfl) (by omega)) rfl ?_
    refine RunL.nil ?_
    refine Run.seq ?_
    refine Run.condT rfl ?_
    refine Run.skip ?_
    refine Run.seq ?_
    refine Run.block ?_
    refine Run.seq ?_
    refine Run.region ?_
    refine RunL.ok (OpOk.idxN rfl ti132 rfl rd.left.left rfl (by omega)) rfl ?_
    refine RunL.ok (OpOk.loadFl default rfl rfl ti132 rfl rd.left.left (fun _ => rfl) rfl (by omega)) rfl ?_
    refine RunL.alloc ti132 rfl (fun by1 => ?_)
    refine RunL.storeAll ti132 rfl rfl rfl (fun w hw => OneC.one (enc := encT132) (l.getD i default) w hw) rfl rfl ?_
    refine RunL.nil ?_
    refine Run.region ?_
    refine RunL.ok (OpOk.move rfl) rfl ?_
    refine RunL.ok (OpOk.fieldAddr fld132_1 rfl) rfl ?_
    refine RunL.ok (OpOk.load rfl rfl rfl (Blk.out Blk.pts _ _ (by first | rfl | assumption))) rfl ?_
    refine RunL.litI (xs := [(l.getD i default).snd]) rfl ti3 rfl rfl rfl (by decide) rfl (fun vy2 rdy2 => ?_)
    refine RunL.know (fun w s => (s.conv rfl).ownRd0) (fun rdy4 => ?_)
    refine RunL.appendI rfl ti3 rfl rfl rfl (frl (frl rfl)) (Rd.right rdy4) (by omega) rfl rfl (fun vy3 rdy3 => ?_)
    refine RunL.ok (OpOk.assign rfl) rfl ?_
    refine RunL.nil ?_
    refine Run.inBlock ?_
    refine Run.region ?_
    refine RunL.ok (OpOk.addN _ 1 rfl rfl rfl rfl (by omega)) rfl ?_
    refine RunL.ok (OpOk.move rfl) rfl ?_
    refine RunL.nil ?_
    rw [← amt_next hlt]
    refine Run.jump ((ih (i + 1, _, _) (by dsimp only; omega) (by dsimp only; omega))) ⟨rfl, rfl, rfl, rfl, trivial⟩ (Grew.of (congrArg (· * _) (asg (asg as1))) (Grew.refl _))
  · obtain rfl : i = l.length := by omega
    clear ih
    rw [List.take_length]
    cases hs : sumO 0 (l.map Prod.snd) with
    | none =>
      refine Run.seq ?_
      refine Run.region ?_
      refine RunL.ok (OpOk.asF (OpOk.lss rfl rfl) (by omega)) rfl ?_
      refine RunL.nil ?_
      refine Run.seq ?_
      refine Run.condF rfl ?_
      refine Run.exit rfl ?_
      refine Run.seq ?_
      refine Run.region ?_
      refine RunL.ok (OpOk.move rfl) rfl ?_
      refine RunL.know (fun w s => (s.conv rfl).ownRd0) (fun rdy1 => ?_)
      refine RunL.call cal65 rfl (s65b (Rd.right rdy1) (by assumption) (by assumption)) rfl (fun vy3 Ay3 hy3 => ?_)
      obtain ⟨rfl, rfl⟩ := hy3
      refine RunL.ok (OpOk.move rfl) rfl ?_
      refine RunL.ok (OpOk.ext20 rfl) rfl ?_
      refine RunL.ok (OpOk.ext21 rfl) rfl ?_
      refine RunL.ok (OpOk.assign rfl) rfl ?_
      refine RunL.ok (OpOk.assign rfl) rfl ?_
      refine RunL.nil ?_
      refine Run.seq ?_
      refine Run.region ?_
      refine RunL.ok (OpOk.move rfl) rfl ?_
      refine RunL.ok (OpOk.asF (OpOk.eql rfl rfl) (by omega)) rfl ?_
      refine RunL.ok (OpOk.move rfl) rfl ?_
      refine RunL.off rfl rfl rfl rfl ?_
      refine RunL.off rfl rfl rfl rfl ?_
      refine RunL.ok (OpOk.pickF rfl rfl) rfl ?_
      refine RunL.ok (OpOk.assign rfl) rfl ?_
      refine RunL.nil ?_
      refine Run.ret1 Try.func140 rfl rfl ?_
      exact ⟨_, rfl, (asg as1)⟩
    | some n =>
      rcases Decidable.em (n = 0) with h0 | h0
      · subst h0
        refine Run.seq ?_
        refine Run.region ?_
        refine RunL.ok (OpOk.asF (OpOk.lss rfl rfl) (by omega)) rfl ?_
        refine RunL.nil ?_
        refine Run.seq ?_
        refine Run.condF rfl ?_
        refine Run.exit rfl ?_
        refine Run.seq ?_
        refine Run.region ?_
        refine RunL.ok (OpOk.move rfl) rfl ?_
        refine RunL.know (fun w s => (s.conv rfl).ownRd0) (fun rdy1 => ?_)
        refine RunL.call cal65 rfl (s65a (Rd.right rdy1) (by assumption) (by assumption)) rfl (fun vy2 Ay2 hy2 => ?_)
        obtain ⟨rfl, rfl⟩ := hy2
        refine RunL.ok (OpOk.move rfl) rfl ?_
        refine RunL.ok (OpOk.ext20 rfl) rfl ?_
        refine RunL.ok (OpOk.ext21 rfl) rfl ?_
        refine RunL.ok (OpOk.assign rfl) rfl ?_
        refine RunL.ok (OpOk.assign rfl) rfl ?_
        refine RunL.nil ?_
        refine Run.seq ?_
        refine Run.region ?_
        refine RunL.ok (OpOk.move rfl) rfl ?_
        refine RunL.ok (OpOk.asT (OpOk.eql rfl rfl) (by omega)) rfl ?_
        refine RunL.ok (OpOk.move rfl) rfl ?_
        refine RunL.on rfl rfl ?_
        refine RunL.ok (OpOk.move rfl) rfl ?_
        refine RunL.on rfl rfl ?_
        refine RunL.ok (OpOk.asT (OpOk.eql rfl rfl) (by omega)) rfl ?_
        refine RunL.ok (OpOk.pickT rfl rfl) rfl ?_
        refine RunL.ok (OpOk.assign rfl) rfl ?_
        refine RunL.nil ?_
        refine Run.ret1 Try.func140 rfl rfl ?_
        exact ⟨_, rfl, (asg as1)⟩
      · have hn : ¬ (some n = some (0 : Int)) := fun h => h0 (Option.some.inj h)
        refine Run.seq ?_
        refine Run.region ?_
        refine RunL.ok (OpOk.asF (OpOk.lss rfl rfl) (by omega)) rfl ?_
        refine RunL.nil ?_
        refine Run.seq ?_
        refine Run.condF rfl ?_
        refine Run.exit rfl ?_
        refine Run.seq ?_
        refine Run.region ?_
        refine RunL.ok (OpOk.move rfl) rfl ?_
        refine RunL.know (fun w s => (s.conv rfl).ownRd0) (fun rdy1 => ?_)
        refine RunL.call cal65 rfl (s65a (Rd.right rdy1) (by assumption) (by assumption)) rfl (fun vy2 Ay2 hy2 => ?_)
        obtain ⟨rfl, rfl⟩ := hy2
        refine RunL.ok (OpOk.move rfl) rfl ?_
        refine RunL.ok (OpOk.ext20 rfl) rfl ?_
        refine RunL.ok (OpOk.ext21 rfl) rfl ?_
        refine RunL.ok (OpOk.assign rfl) rfl ?_
        refine RunL.ok (OpOk.assign rfl) rfl ?_
        refine RunL.nil ?_
        refine Run.seq ?_
        refine Run.region ?_
        refine RunL.ok (OpOk.move rfl) rfl ?_
        refine RunL.ok (OpOk.asT (OpOk.eql rfl rfl) (by omega)) rfl ?_
        refine RunL.ok (OpOk.move rfl) rfl ?_
        refine RunL.on rfl rfl ?_
        refine RunL.ok (OpOk.move rfl) rfl ?_
        refine RunL.on rfl rfl ?_
        refine RunL.ok (OpOk.asF (OpOk.eql rfl rfl) (by omega)) rfl ?_
        refine RunL.ok (OpOk.pickT rfl rfl) rfl ?_
        refine RunL.ok (OpOk.assign rfl) rfl ?_
        refine RunL.nil ?_
        refine Run.ret1 Try.func140 rfl rfl ?_
        exact ⟨_, by rw [decide_eq_false hn], by ac_rfl⟩
end
end Go.Proofs.Yteopadjihklkmaa
