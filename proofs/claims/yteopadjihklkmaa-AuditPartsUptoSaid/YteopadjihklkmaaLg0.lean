/- Sums of numbers that may run over; shares and postings. -/
import Derived.Test.YteopadjihklkmaaLib
import Derived.Test.YteopadjihklkmaaMp
import Derived.Test.YteopadjihklkmaaBi
namespace Go.Proofs.Yteopadjihklkmaa
open Go Go.Proofs
set_option maxRecDepth 100000
set_option maxHeartbeats 4000000
def sumO (s : Int) : List Int → Option Int
  | [] => some s
  | n :: r => if -9223372036854775808 ≤ s + n ∧ s + n ≤ 9223372036854775807 then sumO (s + n) r else none
def inI (z : Int) : Prop := -9223372036854775808 ≤ z ∧ z ≤ 9223372036854775807
theorem sumO_in : ∀ {l : List Int} {s n : Int}, inI s → sumO s l = some n → inI n
  | [], s, n, h, e => by cases e; exact h
  | z :: r, s, n, h, e => by
    simp only [sumO] at e
    split at e
    · exact sumO_in ‹_› e
    · cases e
theorem sumO_append : ∀ (l m : List Int) (s : Int), sumO s (l ++ m) = (sumO s l).bind fun t => sumO t m
  | [], m, s => rfl
  | z :: r, m, s => by
    simp only [List.cons_append, sumO]
    split
    · exact sumO_append r m _
    · rfl
theorem sumO_val : ∀ {l : List Int} {s n : Int}, sumO s l = some n → n = s + l.sum
  | [], s, n, e => by cases e; simp
  | z :: r, s, n, e => by
    simp only [sumO] at e
    split at e
    · have := sumO_val e
      rw [List.sum_cons]
      omega
    · cases e
theorem wrapHi {a : Int} (h : 9223372036854775807 < a) (h2 : a ≤ 18446744073709551614) : IntKind.i64.wrap a = a - 18446744073709551616 := by
  rw [show a = (a - 18446744073709551616) + 18446744073709551616 by omega]
  generalize hb : a - 18446744073709551616 = b at *
  have e : IntKind.i64.wrap (b + 18446744073709551616) = IntKind.i64.wrap b := by
    simp [IntKind.wrap, IntKind.bits, IntKind.signed]
  rw [e, wrapI (by omega) (by omega)]
  omega
theorem wrapLo {a : Int} (h : a < -9223372036854775808) (h2 : -18446744073709551616 ≤ a) : IntKind.i64.wrap a = a + 18446744073709551616 := by
  generalize hb : a + 18446744073709551616 = b at *
  obtain rfl : a = b - 18446744073709551616 := by omega
  have e : IntKind.i64.wrap (b - 18446744073709551616) = IntKind.i64.wrap b := by
    have : b - 18446744073709551616 = b + (-1) * 18446744073709551616 := by omega
    rw [this]
    simp [IntKind.wrap, IntKind.bits, IntKind.signed]
  rw [e, wrapI (by omega) (by omega)]
theorem sum_next {ns : List Int} {i : Nat} {s : Int} (h : i < ns.length) : sumO s (ns.drop i) = if -9223372036854775808 ≤ s + ns.getD i 0 ∧ s + ns.getD i 0 ≤ 9223372036854775807 then sumO (s + ns.getD i 0) (ns.drop (i + 1)) else none := by
  rw [show ns.drop i = ns.getD i 0 :: ns.drop (i + 1) from drop_next h]
  rfl
theorem getD_in {ns : List Int} {i : Nat} (hin : ∀ z ∈ ns, inI z) (h : i < ns.length) : inI (ns.getD i 0) := by
  rw [List.getD_eq_getElem?_getD, List.getElem?_eq_getElem h]
  exact hin _ (List.getElem_mem h)
section
variable {w0 : World} {A : Asn}
theorem s65a {u : Value} {m : Nat} {ns : List Int} {n : Int} (rd : Rd w0 A u 1 m (I ns)) (hin : ∀ z ∈ ns, inI z) (hs : sumO 0 ns = some n) :
    Spec Try.prog w0 65 [u] A (fun v' A' => v' = .tuple #[.int .i64 n, .int .i64 0] ∧ A' = A) := by
  have hl := rd.lenI
  subst hl
  have hmx := rd.max
  refine Spec.of_run [(0, u)] Try.func65 rfl (Nat.le_of_ble_eq_true rfl) (by repeat (first | exact trivial | refine ⟨rfl, ?_⟩)) ?_
  refine Run.seq ?_
  refine Run.region ?_
  refine RunL.ok (OpOk.assign rfl) rfl ?_
  refine RunL.ok (OpOk.assign rfl) rfl ?_
  refine RunL.nil ?_
  refine Run.seq ?_
  refine Run.region ?_
  refine RunL.ok (OpOk.assign rfl) rfl ?_
  refine RunL.nil ?_
  refine Run.seq ?_
  refine Run.seq ?_
  refine Run.region ?_
  refine RunL.ok (OpOk.move rfl) rfl ?_
  refine RunL.ok (OpOk.lenR rfl rfl rd rfl) rfl ?_
  refine RunL.ok (OpOk.move rfl) rfl ?_
  refine RunL.nil ?_
  refine Run.block ?_
  refine Run.jump ((Run.loopJ (X := Nat × Int) (fun x => [(10, .int .i64 (x.1 : Int)), (9, .int .i64 (ns.length : Int)), (8, u), (4, .int .i64 x.2)]) (fun _ => A) (fun x => x.1 ≤ ns.length ∧ inI x.2 ∧ sumO x.2 (ns.drop x.1) = some n) (fun x => ns.length - x.1) (0, 0) ⟨Nat.zero_le _, ⟨by decide, by decide⟩, hs⟩ (fun x hx ih => ?_))) ⟨rfl, rfl, rfl, rfl, trivial⟩ ((Grew.refl _))
  obtain ⟨i, s⟩ := x
  simp only at hx ih ⊢
  obtain ⟨hi, hr, hsum⟩ := hx
  rcases Nat.lt_or_ge i ns.length with hlt | hge
  · have hz := getD_in hin hlt
    rw [sum_next hlt] at hsum
    obtain ⟨hr1, hr2⟩ := hr
    obtain ⟨hz1, hz2⟩ := hz
    rcases Decidable.em (-9223372036854775808 ≤ s + ns.getD i 0 ∧ s + ns.getD i 0 ≤ 9223372036854775807) with hc | hc
    · rw [if_pos hc] at hsum
      have hc1 := hc.1
      have hc2 := hc.2
      refine Run.seq ?_
      refine Run.region ?_
      refine RunL.ok (OpOk.asT (OpOk.lss rfl rfl) (by omega)) rfl ?_
      refine RunL.nil ?_
      refine Run.seq ?_
      refine Run.condT rfl ?_
      refine Run.skip ?_
      refine Run.seq ?_
      refine Run.block ?_
      refine Run.seq ?_
      refine Run.region ?_
      refine RunL.ok (OpOk.idx1N rfl ti3 rfl rd rfl (by omega)) rfl ?_
      refine RunL.ok (OpOk.load rfl rfl rfl (Rd.getI rd (by omega))) rfl ?_
      refine RunL.ok (OpOk.assign rfl) rfl ?_
      refine RunL.nil ?_
      refine Run.seq ?_
      refine Run.region ?_
      refine RunL.ok (OpOk.move rfl) rfl ?_
      refine RunL.ok (OpOk.move rfl) rfl ?_
      refine RunL.ok (OpOk.add rfl rfl (wrapI (by omega) (by omega))) rfl ?_
      refine RunL.ok (OpOk.assign rfl) rfl ?_
      refine RunL.nil ?_
      refine Run.seq ?_
      refine Run.seq ?_
      refine Run.region ?_
      refine RunL.ok (OpOk.move rfl) rfl ?_
      refine RunL.ok (OpOk.gtr rfl rfl) rfl ?_
      refine RunL.ok (OpOk.move rfl) rfl ?_
      refine RunL.splitD (t := 19) rfl (fun y1 => ?_) (fun y1 => ?_)
      · refine RunL.on rfl rfl ?_
        refine RunL.ok (OpOk.move rfl) rfl ?_
        refine RunL.on rfl rfl ?_
        refine RunL.ok (OpOk.move rfl) rfl ?_
        refine RunL.on rfl rfl ?_
        refine RunL.ok (OpOk.asF (OpOk.lss rfl rfl) (by omega)) rfl ?_
        refine RunL.ok (OpOk.pickT rfl rfl) rfl ?_
        refine RunL.ok (OpOk.move rfl) rfl ?_
        refine RunL.on rfl rfl ?_
        refine RunL.ok (OpOk.move rfl) rfl ?_
        refine RunL.on rfl rfl ?_
        refine RunL.ok (OpOk.asF (OpOk.lss rfl rfl) (by omega)) rfl ?_
        refine RunL.on rfl rfl ?_
        refine RunL.ok (OpOk.move rfl) rfl ?_
        refine RunL.off rfl rfl rfl rfl ?_
        refine RunL.off rfl rfl rfl rfl ?_
        refine RunL.off rfl rfl rfl rfl ?_
        refine RunL.on rfl rfl ?_
        refine RunL.ok (OpOk.pickF rfl rfl) rfl ?_
        refine RunL.ok (OpOk.pickF rfl rfl) rfl ?_
        refine RunL.nil ?_
        refine Run.condF rfl ?_
        refine Run.skip ?_
        refine Run.region ?_
        refine RunL.ok (OpOk.move rfl) rfl ?_
        refine RunL.ok (OpOk.assign rfl) rfl ?_
        refine RunL.nil ?_
        refine Run.inBlock ?_
        refine Run.region ?_
        refine RunL.ok (OpOk.addN _ 1 rfl rfl rfl rfl (by omega)) rfl ?_
        refine RunL.ok (OpOk.move rfl) rfl ?_
        refine RunL.nil ?_
        refine Run.jump ((ih (i + 1, s + ns.getD i 0) ⟨by dsimp only; omega, hc, hsum⟩ (by dsimp only; omega))) ⟨rfl, rfl, rfl, rfl, trivial⟩ ((Grew.refl _))
      refine RunL.off rfl rfl rfl rfl ?_
      refine RunL.off rfl rfl rfl rfl ?_
      refine RunL.off rfl rfl rfl rfl ?_
      refine RunL.ok (OpOk.pickF rfl rfl) rfl ?_
      refine RunL.ok (OpOk.move rfl) rfl ?_
      refine RunL.on rfl rfl ?_
      refine RunL.ok (OpOk.move rfl) rfl ?_
      refine RunL.on rfl rfl ?_
      refine RunL.ok (OpOk.lss rfl rfl) rfl ?_
      refine RunL.on rfl rfl ?_
      refine RunL.ok (OpOk.move rfl) rfl ?_
      refine RunL.splitD (t := 27) rfl (fun y2 => ?_) (fun y2 => ?_)
      · refine RunL.on rfl rfl ?_
        refine RunL.ok (OpOk.move rfl) rfl ?_
        refine RunL.on rfl rfl ?_
        refine RunL.ok (OpOk.move rfl) rfl ?_
        refine RunL.on rfl rfl ?_
        refine RunL.ok (OpOk.asF (OpOk.gtr rfl rfl) (by omega)) rfl ?_
        refine RunL.on rfl rfl ?_
        refine RunL.ok (OpOk.pickT rfl rfl) rfl ?_
        refine RunL.ok (OpOk.pickF rfl rfl) rfl ?_
        refine RunL.nil ?_
        refine Run.condF rfl ?_
        refine Run.skip ?_
        refine Run.region ?_
        refine RunL.ok (OpOk.move rfl) rfl ?_
        refine RunL.ok (OpOk.assign rfl) rfl ?_
        refine RunL.nil ?_
        refine Run.inBlock ?_
        refine Run.region ?_
        refine RunL.ok (OpOk.addN _ 1 rfl rfl rfl rfl (by omega)) rfl ?_
        refine RunL.ok (OpOk.move rfl) rfl ?_
        refine RunL.nil ?_
        refine Run.jump ((ih (i + 1, s + ns.getD i 0) ⟨by dsimp only; omega, hc, hsum⟩ (by dsimp only; omega))) ⟨rfl, rfl, rfl, rfl, trivial⟩ ((Grew.refl _))
      refine RunL.off rfl rfl rfl rfl ?_
      refine RunL.off rfl rfl rfl rfl ?_
      refine RunL.off rfl rfl rfl rfl ?_
      refine RunL.on rfl rfl ?_
      refine RunL.ok (OpOk.pickF rfl rfl) rfl ?_
      refine RunL.ok (OpOk.pickF rfl rfl) rfl ?_
      refine RunL.nil ?_
      refine Run.condF rfl ?_
      refine Run.skip ?_
      refine Run.region ?_
      refine RunL.ok (OpOk.move rfl) rfl ?_
      refine RunL.ok (OpOk.assign rfl) rfl ?_
      refine RunL.nil ?_
      refine Run.inBlock ?_
      refine Run.region ?_
      refine RunL.ok (OpOk.addN _ 1 rfl rfl rfl rfl (by omega)) rfl ?_
      refine RunL.ok (OpOk.move rfl) rfl ?_
      refine RunL.nil ?_
      refine Run.jump ((ih (i + 1, s + ns.getD i 0) ⟨by dsimp only; omega, hc, hsum⟩ (by dsimp only; omega))) ⟨rfl, rfl, rfl, rfl, trivial⟩ ((Grew.refl _))
    · rw [if_neg hc] at hsum
      cases hsum
  · obtain rfl : i = ns.length := by omega
    clear ih
    rw [List.drop_length] at hsum
    obtain rfl := Option.some.inj hsum
    refine Run.seq ?_
    refine Run.region ?_
    refine RunL.ok (OpOk.asF (OpOk.lss rfl rfl) (by omega)) rfl ?_
    refine RunL.nil ?_
    refine Run.seq ?_
    refine Run.condF rfl ?_
    refine Run.exit rfl ?_
    refine Run.seq ?_
    refine Run.region ?_
    refine RunL.ok (OpOk.move rfl) rfl ?_
    refine RunL.ok (OpOk.assign rfl) rfl ?_
    refine RunL.ok (OpOk.assign rfl) rfl ?_
    refine RunL.nil ?_
    refine Run.ret2 Try.func65 rfl rfl rfl ?_
    exact ⟨rfl, rfl⟩
theorem s65b {u : Value} {m : Nat} {ns : List Int} (rd : Rd w0 A u 1 m (I ns)) (hin : ∀ z ∈ ns, inI z) (hs : sumO 0 ns = none) :
    Spec Try.prog w0 65 [u] A (fun v' A' => v' = .tuple #[.int .i64 0, .int .i64 29] ∧ A' = A) := by
  have hl := rd.lenI
  subst hl
  have hmx := rd.max
  refine Spec.of_run [(0, u)] Try.func65 rfl (Nat.le_of_ble_eq_true rfl) (by repeat (first | exact trivial | refine ⟨rfl, ?_⟩)) ?_
  refine Run.seq ?_
  refine Run.region ?_
  refine RunL.ok (OpOk.assign rfl) rfl ?_
  refine RunL.ok (OpOk.assign rfl) rfl ?_
  refine RunL.nil ?_
  refine Run.seq ?_
  refine Run.region ?_
  refine RunL.ok (OpOk.assign rfl) rfl ?_
  refine RunL.nil ?_
  refine Run.seq ?_
  refine Run.seq ?_
  refine Run.region ?_
  refine RunL.ok (OpOk.move rfl) rfl ?_
  refine RunL.ok (OpOk.lenR rfl rfl rd rfl) rfl ?_
  refine RunL.ok (OpOk.move rfl) rfl ?_
  refine RunL.nil ?_
  refine Run.block ?_
  refine Run.jump ((Run.loopJ (X := Nat × Int) (fun x => [(10, .int .i64 (x.1 : Int)), (9, .int .i64 (ns.length : Int)), (8, u), (4, .int .i64 x.2)]) (fun _ => A) (fun x => x.1 ≤ ns.length ∧ inI x.2 ∧ sumO x.2 (ns.drop x.1) = none) (fun x => ns.length - x.1) (0, 0) ⟨Nat.zero_le _, ⟨by decide, by decide⟩, hs⟩ (fun x hx ih => ?_))) ⟨rfl, rfl, rfl, rfl, trivial⟩ ((Grew.refl _))
  obtain ⟨i, s⟩ := x
  simp only at hx ih ⊢
  obtain ⟨hi, hr, hsum⟩ := hx
  rcases Nat.lt_or_ge i ns.length with hlt | hge
  · have hz := getD_in hin hlt
    rw [sum_next hlt] at hsum
    obtain ⟨hr1, hr2⟩ := hr
    obtain ⟨hz1, hz2⟩ := hz
    rcases Decidable.em (-9223372036854775808 ≤ s + ns.getD i 0 ∧ s + ns.getD i 0 ≤ 9223372036854775807) with hc | hc
    · rw [if_pos hc] at hsum
      have hc1 := hc.1
      have hc2 := hc.2
      refine Run.seq ?_
      refine Run.region ?_
      refine RunL.ok (OpOk.asT (OpOk.lss rfl rfl) (by omega)) rfl ?_
      refine RunL.nil ?_
      refine Run.seq ?_
      refine Run.condT rfl ?_
      refine Run.skip ?_
      refine Run.seq ?_
      refine Run.block ?_
      refine Run.seq ?_
      refine Run.region ?_
      refine RunL.ok (OpOk.idx1N rfl ti3 rfl rd rfl (by omega)) rfl ?_
      refine RunL.ok (OpOk.load rfl rfl rfl (Rd.getI rd (by omega))) rfl ?_
      refine RunL.ok (OpOk.assign rfl) rfl ?_
      refine RunL.nil ?_
      refine Run.seq ?_
      refine Run.region ?_
      refine RunL.ok (OpOk.move rfl) rfl ?_
      refine RunL.ok (OpOk.move rfl) rfl ?_
      refine RunL.ok (OpOk.add rfl rfl (wrapI (by omega) (by omega))) rfl ?_
      refine RunL.ok (OpOk.assign rfl) rfl ?_
      refine RunL.nil ?_
      refine Run.seq ?_
      refine Run.seq ?_
      refine Run.region ?_
      refine RunL.ok (OpOk.move rfl) rfl ?_
      refine RunL.ok (OpOk.gtr rfl rfl) rfl ?_
      refine RunL.ok (OpOk.move rfl) rfl ?_
      refine RunL.splitD (t := 19) rfl (fun y1 => ?_) (fun y1 => ?_)
      · refine RunL.on rfl rfl ?_
        refine RunL.ok (OpOk.move rfl) rfl ?_
        refine RunL.on rfl rfl ?_
        refine RunL.ok (OpOk.move rfl) rfl ?_
        refine RunL.on rfl rfl ?_
        refine RunL.ok (OpOk.asF (OpOk.lss rfl rfl) (by omega)) rfl ?_
        refine RunL.ok (OpOk.pickT rfl rfl) rfl ?_
        refine RunL.ok (OpOk.move rfl) rfl ?_
        refine RunL.on rfl rfl ?_
        refine RunL.ok (OpOk.move rfl) rfl ?_
        refine RunL.on rfl rfl ?_
        refine RunL.ok (OpOk.asF (OpOk.lss rfl rfl) (by omega)) rfl ?_
        refine RunL.on rfl rfl ?_
        refine RunL.ok (OpOk.move rfl) rfl ?_
        refine RunL.off rfl rfl rfl rfl ?_
        refine RunL.off rfl rfl rfl rfl ?_
        refine RunL.off rfl rfl rfl rfl ?_
        refine RunL.on rfl rfl ?_
        refine RunL.ok (OpOk.pickF rfl rfl) rfl ?_
        refine RunL.ok (OpOk.pickF rfl rfl) rfl ?_
        refine RunL.nil ?_
        refine Run.condF rfl ?_
        refine Run.skip ?_
        refine Run.region ?_
        refine RunL.ok (OpOk.move rfl) rfl ?_
        refine RunL.ok (OpOk.assign rfl) rfl ?_
        refine RunL.nil ?_
        refine Run.inBlock ?_
        refine Run.region ?_
        refine RunL.ok (OpOk.addN _ 1 rfl rfl rfl rfl (by omega)) rfl ?_
        refine RunL.ok (OpOk.move rfl) rfl ?_
        refine RunL.nil ?_
        refine Run.jump ((ih (i + 1, s + ns.getD i 0) ⟨by dsimp only; omega, hc, hsum⟩ (by dsimp only; omega))) ⟨rfl, rfl, rfl, rfl, trivial⟩ ((Grew.refl _))
      refine RunL.off rfl rfl rfl rfl ?_
      refine RunL.off rfl rfl rfl rfl ?_
      refine RunL.off rfl rfl rfl rfl ?_
      refine RunL.ok (OpOk.pickF rfl rfl) rfl ?_
      refine RunL.ok (OpOk.move rfl) rfl ?_
      refine RunL.on rfl rfl ?_
      refine RunL.ok (OpOk.move rfl) rfl ?_
      refine RunL.on rfl rfl ?_
      refine RunL.ok (OpOk.lss rfl rfl) rfl ?_
      refine RunL.on rfl rfl ?_
      refine RunL.ok (OpOk.move rfl) rfl ?_
      refine RunL.splitD (t := 27) rfl (fun y2 => ?_) (fun y2 => ?_)
      · refine RunL.on rfl rfl ?_
        refine RunL.ok (OpOk.move rfl) rfl ?_
        refine RunL.on rfl rfl ?_
        refine RunL.ok (OpOk.move rfl) rfl ?_
        refine RunL.on rfl rfl ?_
        refine RunL.ok (OpOk.asF (OpOk.gtr rfl rfl) (by omega)) rfl ?_
        refine RunL.on rfl rfl ?_
        refine RunL.ok (OpOk.pickT rfl rfl) rfl ?_
        refine RunL.ok (OpOk.pickF rfl rfl) rfl ?_
        refine RunL.nil ?_
        refine Run.condF rfl ?_
        refine Run.skip ?_
        refine Run.region ?_
        refine RunL.ok (OpOk.move rfl) rfl ?_
        refine RunL.ok (OpOk.assign rfl) rfl ?_
        refine RunL.nil ?_
        refine Run.inBlock ?_
        refine Run.region ?_
        refine RunL.ok (OpOk.addN _ 1 rfl rfl rfl rfl (by omega)) rfl ?_
        refine RunL.ok (OpOk.move rfl) rfl ?_
        refine RunL.nil ?_
        refine Run.jump ((ih (i + 1, s + ns.getD i 0) ⟨by dsimp only; omega, hc, hsum⟩ (by dsimp only; omega))) ⟨rfl, rfl, rfl, rfl, trivial⟩ ((Grew.refl _))
      refine RunL.off rfl rfl rfl rfl ?_
      refine RunL.off rfl rfl rfl rfl ?_
      refine RunL.off rfl rfl rfl rfl ?_
      refine RunL.on rfl rfl ?_
      refine RunL.ok (OpOk.pickF rfl rfl) rfl ?_
      refine RunL.ok (OpOk.pickF rfl rfl) rfl ?_
      refine RunL.nil ?_
      refine Run.condF rfl ?_
      refine Run.skip ?_
      refine Run.region ?_
      refine RunL.ok (OpOk.move rfl) rfl ?_
      refine RunL.ok (OpOk.assign rfl) rfl ?_
      refine RunL.nil ?_
      refine Run.inBlock ?_
      refine Run.region ?_
      refine RunL.ok (OpOk.addN _ 1 rfl rfl rfl rfl (by omega)) rfl ?_
      refine RunL.ok (OpOk.move rfl) rfl ?_
      refine RunL.nil ?_
      refine Run.jump ((ih (i + 1, s + ns.getD i 0) ⟨by dsimp only; omega, hc, hsum⟩ (by dsimp only; omega))) ⟨rfl, rfl, rfl, rfl, trivial⟩ ((Grew.refl _))
    · rcases Int.lt_or_le 9223372036854775807 (s + ns.getD i 0) with hh | hh
      · have hw := wrapHi hh (by omega)
        refine Run.seq ?_
        refine Run.region ?_
        refine RunL.ok (OpOk.asT (OpOk.lss rfl rfl) (by omega)) rfl ?_
        refine RunL.nil ?_
        refine Run.seq ?_
        refine Run.condT rfl ?_
        refine Run.skip ?_
        refine Run.seq ?_
        refine Run.block ?_
        refine Run.seq ?_
        refine Run.region ?_
        refine RunL.ok (OpOk.idx1N rfl ti3 rfl rd rfl (by omega)) rfl ?_
        refine RunL.ok (OpOk.load rfl rfl rfl (Rd.getI rd (by omega))) rfl ?_
        refine RunL.ok (OpOk.assign rfl) rfl ?_
        refine RunL.nil ?_
        refine Run.seq ?_
        refine Run.region ?_
        refine RunL.ok (OpOk.move rfl) rfl ?_
        refine RunL.ok (OpOk.move rfl) rfl ?_
        refine RunL.ok (OpOk.add rfl rfl rfl) rfl ?_
        refine RunL.ok (OpOk.assign rfl) rfl ?_
        refine RunL.nil ?_
        refine Run.seq ?_
        refine Run.seq ?_
        refine Run.region ?_
        refine RunL.ok (OpOk.move rfl) rfl ?_
        refine RunL.ok (OpOk.asT (OpOk.gtr rfl rfl) (by omega)) rfl ?_
        refine RunL.ok (OpOk.move rfl) rfl ?_
        refine RunL.on rfl rfl ?_
        refine RunL.ok (OpOk.move rfl) rfl ?_
        refine RunL.on rfl rfl ?_
        refine RunL.ok (OpOk.move rfl) rfl ?_
        refine RunL.on rfl rfl ?_
        refine RunL.ok (OpOk.asT (OpOk.lss rfl rfl) (by omega)) rfl ?_
        refine RunL.ok (OpOk.pickT rfl rfl) rfl ?_
        refine RunL.ok (OpOk.move rfl) rfl ?_
        refine RunL.off rfl rfl rfl rfl ?_
        refine RunL.off rfl rfl rfl rfl ?_
        refine RunL.off rfl rfl rfl rfl ?_
        refine RunL.off rfl rfl rfl rfl ?_
        refine RunL.off rfl rfl rfl rfl ?_
        refine RunL.off rfl rfl rfl rfl ?_
        refine RunL.off rfl rfl rfl rfl ?_
        refine RunL.ok (OpOk.pickT rfl rfl) rfl ?_
        refine RunL.nil ?_
        refine Run.condT rfl ?_
        refine Run.seq ?_
        refine Run.region ?_
        refine RunL.ok (OpOk.assign rfl) rfl ?_
        refine RunL.ok (OpOk.assign rfl) rfl ?_
        refine RunL.nil ?_
        refine Run.ret2 Try.func65 rfl rfl rfl ?_
        exact ⟨rfl, rfl⟩
      · have hw := wrapLo (a := s + ns.getD i 0) (by omega) (by omega)
        refine Run.seq ?_
        refine Run.region ?_
        refine RunL.ok (OpOk.asT (OpOk.lss rfl rfl) (by omega)) rfl ?_
        refine RunL.nil ?_
        refine Run.seq ?_
        refine Run.condT rfl ?_
        refine Run.skip ?_
        refine Run.seq ?_
        refine Run.block ?_
        refine Run.seq ?_
        refine Run.region ?_
        refine RunL.ok (OpOk.idx1N rfl ti3 rfl rd rfl (by omega)) rfl ?_
        refine RunL.ok (OpOk.load rfl rfl rfl (Rd.getI rd (by omega))) rfl ?_
        refine RunL.ok (OpOk.assign rfl) rfl ?_
        refine RunL.nil ?_
        refine Run.seq ?_
        refine Run.region ?_
        refine RunL.ok (OpOk.move rfl) rfl ?_
        refine RunL.ok (OpOk.move rfl) rfl ?_
        refine RunL.ok (OpOk.add rfl rfl rfl) rfl ?_
        refine RunL.ok (OpOk.assign rfl) rfl ?_
        refine RunL.nil ?_
        refine Run.seq ?_
        refine Run.seq ?_
        refine Run.region ?_
        refine RunL.ok (OpOk.move rfl) rfl ?_
        refine RunL.ok (OpOk.asF (OpOk.gtr rfl rfl) (by omega)) rfl ?_
        refine RunL.ok (OpOk.move rfl) rfl ?_
        refine RunL.off rfl rfl rfl rfl ?_
        refine RunL.off rfl rfl rfl rfl ?_
        refine RunL.off rfl rfl rfl rfl ?_
        refine RunL.ok (OpOk.pickF rfl rfl) rfl ?_
        refine RunL.ok (OpOk.move rfl) rfl ?_
        refine RunL.on rfl rfl ?_
        refine RunL.ok (OpOk.move rfl) rfl ?_
        refine RunL.on rfl rfl ?_
        refine RunL.ok (OpOk.asT (OpOk.lss rfl rfl) (by omega)) rfl ?_
        refine RunL.on rfl rfl ?_
        refine RunL.ok (OpOk.move rfl) rfl ?_
        refine RunL.on rfl rfl ?_
        refine RunL.ok (OpOk.move rfl) rfl ?_
        refine RunL.on rfl rfl ?_
        refine RunL.ok (OpOk.move rfl) rfl ?_
        refine RunL.on rfl rfl ?_
        refine RunL.ok (OpOk.asT (OpOk.gtr rfl rfl) (by omega)) rfl ?_
        refine RunL.on rfl rfl ?_
        refine RunL.ok (OpOk.pickT rfl rfl) rfl ?_
        refine RunL.ok (OpOk.pickF rfl rfl) rfl ?_
        refine RunL.nil ?_
        refine Run.condT rfl ?_
        refine Run.seq ?_
        refine Run.region ?_
        refine RunL.ok (OpOk.assign rfl) rfl ?_
        refine RunL.ok (OpOk.assign rfl) rfl ?_
        refine RunL.nil ?_
        refine Run.ret2 Try.func65 rfl rfl rfl ?_
        exact ⟨rfl, rfl⟩
  · obtain rfl : i = ns.length := by omega
    rw [List.drop_length] at hsum
    cases hsum
end
end Go.Proofs.Yteopadjihklkmaa
