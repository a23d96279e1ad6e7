/- What the document says of a file's bytes. -/
import Derived.Test.YteopadjihklkmaaJnF
import Derived.Test.YteopadjihklkmaaSto
namespace Go.Proofs.Yteopadjihklkmaa
open Go Go.Proofs
set_option maxRecDepth 100000
set_option maxHeartbeats 4000000
set_option linter.unusedSimpArgs false
theorem sealed_iff {X Y : List UInt8} (hl : Y.length = X.length + 2) (ht : Y.take X.length = X) : sealed X = Y ↔ (sum X).toNat = (Y.getD X.length 0).toNat * 256 + (Y.getD (X.length + 1) 0).toNat := by
  have hlt := sum_lt X
  obtain ⟨a, b, hY⟩ : ∃ a b, Y = X ++ [a, b] := by
    have h1 : (Y.drop X.length).length = 2 := by rw [List.length_drop]; omega
    match hd : Y.drop X.length, h1 with
    | [a, b], _ => exact ⟨a, b, by rw [← hd, ← ht, List.length_take, Nat.min_eq_left (by omega), List.take_append_drop]⟩
  subst hY
  have ha : (X ++ [a, b]).getD X.length 0 = a := by
    rw [List.getD_eq_getElem?_getD, List.getElem?_append_right (Nat.le_refl _), Nat.sub_self]; rfl
  have hb : (X ++ [a, b]).getD (X.length + 1) 0 = b := by
    rw [List.getD_eq_getElem?_getD, List.getElem?_append_right (by omega), show X.length + 1 - X.length = 1 by omega]; rfl
  rw [ha, hb]
  have h1 := a.toNat_lt
  have h2 := b.toNat_lt
  have e1 : (hiB X).toNat = (sum X).toNat / 256 := by
    simp only [hiB, UInt8.toNat_ofNat']
    omega
  have e2 : (loB X).toNat = (sum X).toNat % 256 := by
    simp only [loB, UInt8.toNat_ofNat']
  constructor
  · intro h
    have h3 := List.append_cancel_left h
    simp only [List.cons.injEq, and_true] at h3
    rw [← h3.1, ← h3.2, e1, e2]
    omega
  · intro h
    have h3 : hiB X = a := UInt8.toNat_inj.1 (by omega)
    have h4 : loB X = b := UInt8.toNat_inj.1 (by omega)
    rw [sealed, h3, h4]
theorem drop_get (bs : List UInt8) (a i : Nat) : (bs.drop a).getD i 0 = bs.getD (a + i) 0 := by
  rw [List.getD_eq_getElem?_getD, List.getD_eq_getElem?_getD, List.getElem?_drop]
section
variable {bs : List UInt8} {a n : Nat}
theorem nextF_cond (hn : n = (bs.getD (a + 1) 0).toNat * 256 + (bs.getD (a + 2) 0).toNat) (hl : a + 5 + n ≤ bs.length) :
    sealed (((bs.drop a).take (n + 5)).take (n + 5 - 2)) = (bs.drop a).take (n + 5) ↔ (sum ((bs.drop a).take (3 + n))).toNat = (bs.getD (a + 3 + n) 0).toNat * 256 + (bs.getD (a + 4 + n) 0).toNat := by
  have e1 : ((bs.drop a).take (n + 5)).take (n + 5 - 2) = (bs.drop a).take (3 + n) := by
    rw [List.take_take, Nat.min_eq_left (by omega)]
    congr 1
    omega
  have e2 : ((bs.drop a).take (3 + n)).length = 3 + n := by rw [List.length_take, List.length_drop]; omega
  rw [e1, sealed_iff (by rw [e2, List.length_take, List.length_drop]; omega) (by rw [e2, List.take_take, Nat.min_eq_left (by omega)]), e2]
  have g : ∀ i, i < n + 5 → ((bs.drop a).take (n + 5)).getD i 0 = bs.getD (a + i) 0 := fun i hi => by
    rw [← drop_get, List.getD_eq_getElem?_getD, List.getD_eq_getElem?_getD, List.getElem?_take, if_pos hi]
  rw [g _ (by omega), g _ (by omega), show a + (3 + n) = a + 3 + n by omega, show a + (3 + n + 1) = a + 4 + n by omega]
theorem nextF_short (h : bs.length < a + 5) : nextF (bs.drop a) = none := by
  rw [nextF, if_neg]
  rw [List.length_drop]
  omega
theorem nextF_yes (hn : n = (bs.getD (a + 1) 0).toNat * 256 + (bs.getD (a + 2) 0).toNat) (hl : a + 5 + n ≤ bs.length) (hk : (bs.getD a 0).toNat = 1 ∨ (bs.getD a 0).toNat = 2) (hs : (sum ((bs.drop a).take (3 + n))).toNat = (bs.getD (a + 3 + n) 0).toNat * 256 + (bs.getD (a + 4 + n) 0).toNat) :
    nextF (bs.drop a) = some (bs.getD a 0, (bs.drop (a + 3)).take n, n + 5) := by
  have hc := (nextF_cond hn hl).2 hs
  rw [nextF, drop_get, drop_get, drop_get, Nat.add_zero, ← hn, if_pos ⟨by rw [List.length_drop]; omega, hk, by rw [List.length_drop]; omega, hc⟩]
  congr 2
  congr 1
  rw [List.take_take, Nat.min_eq_left (by omega), List.drop_take, List.drop_drop, show n + 5 - 2 - 3 = n by omega]
theorem nextF_no (hn : n = (bs.getD (a + 1) 0).toNat * 256 + (bs.getD (a + 2) 0).toNat) (h : ¬ (a + 5 + n ≤ bs.length ∧ ((bs.getD a 0).toNat = 1 ∨ (bs.getD a 0).toNat = 2) ∧ (sum ((bs.drop a).take (3 + n))).toNat = (bs.getD (a + 3 + n) 0).toNat * 256 + (bs.getD (a + 4 + n) 0).toNat)) :
    nextF (bs.drop a) = none := by
  rw [nextF, drop_get, drop_get, drop_get, Nat.add_zero, ← hn, if_neg]
  rintro ⟨h1, h2, h3, h4⟩
  rw [List.length_drop] at h3
  exact h ⟨by omega, h2, (nextF_cond hn (by omega)).1 h4⟩
end
/-- Rows as the document tells them. -/
abbrev Th := Int × List UInt8
def encT159 (t : Th) : List Value := [.int .i64 t.1, S t.2]
instance : OneC encT159 := ⟨fun a u hu => by
  simp only [encT159, List.mem_cons, List.not_mem_nil, or_false] at hu
  rcases hu with rfl | rfl <;> rfl⟩
def thing (r : Rw) : Th := (((r.1.toNat : Nat) : Int), r.2)
section
variable {w0 : World} {A : Asn}
theorem s34 {u : Value} {m : Nat} {bs : List UInt8} (rd : Rd w0 A u 1 m (B bs)) (hm : m ≤ 16777216) :
    Spec Try.prog w0 34 [u] A (fun v' A' => ∃ v J, v' = .tuple #[v, .int .i64 ((says bs).2 : Int)] ∧ A' = A * J * own 159 2 v ((says bs).1.map thing).length (Fl encT159 ((says bs).1.map thing))) := by
  have hl := rd.lenB
  subst hl
  refine Spec.of_run [(0, u)] Try.func34 rfl (Nat.le_of_ble_eq_true rfl) (by repeat (first | exact trivial | refine ⟨rfl, ?_⟩)) ?_
  refine Run.seq ?_
  refine Run.region ?_
  refine RunL.ok (OpOk.assign rfl) rfl ?_
  refine RunL.ok (OpOk.assign rfl) rfl ?_
  refine RunL.nil ?_
  refine Run.seq ?_
  refine Run.region ?_
  refine RunL.ok (OpOk.assign rfl) rfl ?_
  refine RunL.nil ?_
  refine Run.seq ?_
  refine Run.region ?_
  refine RunL.ok (OpOk.assign rfl) rfl ?_
  refine RunL.nil ?_
  refine Run.seq ?_
  refine Run.block ?_
  refine Run.ent (Ent.ownNil' _ 159 2 (Fl encT159 ([] : List Th)) rfl) ?_
  refine Run.mem (congrArg (· * _) (sep_emp _).symm) ?_
  refine Run.jump ((Run.loopJ (X := Nat × Asn × Value × List Rw) (fun x => [(5, .int .i64 (x.1 : Int)), (4, x.2.2.1), (0, u)]) (fun x => A * x.2.1 * own 159 2 x.2.2.1 (x.2.2.2.map thing).length (Fl encT159 (x.2.2.2.map thing))) (fun x => x.1 ≤ bs.length ∧ x.2.2.2.length ≤ x.1 ∧ says bs = (x.2.2.2 ++ (says (bs.drop x.1)).1, x.1 + (says (bs.drop x.1)).2)) (fun x => bs.length - x.1) (0, _, .slice none 0 0, []) ⟨Nat.zero_le _, Nat.le_refl _, by dsimp only; rw [List.drop_zero, Nat.zero_add]; rfl⟩ (fun x hx ih => ?_))) ⟨rfl, rfl, rfl, trivial⟩ (Grew.of (Eq.trans (frc rfl rfl) (congrArg (· * _) as1)) (Grew.refl _))
  obtain ⟨a, J, v4, out⟩ := x
  simp only at hx ih ⊢
  obtain ⟨hi, hol, hsy⟩ := hx
  have hol2 : (out.map thing).length = out.length := List.length_map _
  rcases Nat.lt_or_ge bs.length (a + 5) with hsh | hlg
  · clear ih
    rw [says_none (nextF_short hsh), List.append_nil, Nat.add_zero] at hsy
    rw [hsy]
    refine Run.seq ?_
    refine Run.seq ?_
    refine Run.region ?_
    refine RunL.ok (OpOk.move rfl) rfl ?_
    refine RunL.ok (OpOk.addN _ 5 rfl rfl rfl rfl (by omega)) rfl ?_
    refine RunL.ok (OpOk.move rfl) rfl ?_
    refine RunL.ok (OpOk.lenR rfl rfl rd.left.left rfl) rfl ?_
    refine RunL.ok (OpOk.asF (OpOk.leq rfl rfl) (by omega)) rfl ?_
    refine RunL.nil ?_
    refine Run.condF rfl ?_
    refine Run.exit rfl ?_
    refine Run.seq ?_
    refine Run.region ?_
    refine RunL.ok (OpOk.move rfl) rfl ?_
    refine RunL.ok (OpOk.move rfl) rfl ?_
    refine RunL.ok (OpOk.assign rfl) rfl ?_
    refine RunL.ok (OpOk.assign rfl) rfl ?_
    refine RunL.nil ?_
    refine Run.ret2 Try.func34 rfl rfl rfl ?_
    exact ⟨_, _, rfl, (congrArg (· * _) as1)⟩
  · obtain ⟨n, hn⟩ : ∃ n, n = (bs.getD (a + 1) 0).toNat * 256 + (bs.getD (a + 2) 0).toNat := ⟨_, rfl⟩
    have rw_n : (bs.getD (a + 1) 0).toNat * 256 + (bs.getD (a + 2) 0).toNat = n := hn.symm
    have hb1 := (bs.getD (a + 1) 0).toNat_lt
    have hb2 := (bs.getD (a + 2) 0).toNat_lt
    rcases Decidable.em (a + 5 + n ≤ bs.length ∧ ((bs.getD a 0).toNat = 1 ∨ (bs.getD a 0).toNat = 2) ∧ (sum ((bs.drop a).take (3 + n))).toNat = (bs.getD (a + 3 + n) 0).toNat * 256 + (bs.getD (a + 4 + n) 0).toNat) with hc | hc
    · obtain ⟨h1, h2, h3⟩ := hc
      have hnx := nextF_yes hn h1 h2 h3
      rw [says_some hnx, List.drop_drop] at hsy
      have rdS : Rd w0 A (Go.Proofs.Yteopadjihklkmaa.cutV u a (a + 3 + n) 1) 1 (3 + n) (B ((bs.drop a).take (3 + n))) := by
        have := Rd.cutB rd (show a ≤ a + 3 + n by omega) (show a + 3 + n ≤ bs.length by omega)
        rwa [show a + 3 + n - a = 3 + n by omega] at this
      have rdT : Rd w0 A (Go.Proofs.Yteopadjihklkmaa.cutV u (a + 3) (a + 3 + n) 1) 1 n (B ((bs.drop (a + 3)).take n)) := by
        have := Rd.cutB rd (show a + 3 ≤ a + 3 + n by omega) (show a + 3 + n ≤ bs.length by omega)
        rwa [show a + 3 + n - (a + 3) = n by omega] at this
      have hout : (out.map thing) ++ [(((bs.getD a 0).toNat : Int), (bs.drop (a + 3)).take n)] = (out ++ [(bs.getD a 0, (bs.drop (a + 3)).take n)]).map thing := by
        rw [List.map_append]; rfl
      have hsy2 : says bs = ((out ++ [(bs.getD a 0, (bs.drop (a + 3)).take n)]) ++ (says (bs.drop (a + 5 + n))).1, a + 5 + n + (says (bs.drop (a + 5 + n))).2) := by
        rw [hsy, List.append_assoc, show a + 5 + n = a + (n + 5) by omega, Nat.add_assoc a (n + 5)]
        rfl
      rcases h2 with h2 | h2
      · refine Run.seq ?_
        refine Run.seq ?_
        refine Run.region ?_
        refine RunL.ok (OpOk.move rfl) rfl ?_
        refine RunL.ok (OpOk.addN _ 5 rfl rfl rfl rfl (by omega)) rfl ?_
        refine RunL.ok (OpOk.move rfl) rfl ?_
        refine RunL.ok (OpOk.lenR rfl rfl rd.left.left rfl) rfl ?_
        refine RunL.ok (OpOk.asT (OpOk.leq rfl rfl) (by omega)) rfl ?_
        refine RunL.nil ?_
        refine Run.condT rfl ?_
        refine Run.skip ?_
        refine Run.block ?_
        refine Run.seq ?_
        refine Run.know (fun w s => (s.conv rfl).ownRd0) (fun rdy1 => ?_)
        (apply Run.drawD [] (by rfl) (sep_emp _).symm; case hchk => kernel_rfl)
        refine Sd.quiet 0 _ _ rfl rfl rfl rfl rfl (QOp.ok (fun X => OpOk.move rfl)) ?_
        refine Sd.quiet 1 _ _ rfl rfl rfl rfl rfl (QOp.ok (fun X => OpOk.move rfl)) ?_
        refine Sd.quiet 2 _ _ rfl rfl rfl rfl rfl (QOp.ok (fun X => OpOk.addN _ 1 rfl rfl rfl rfl (by omega))) ?_
        refine Sd.quiet 3 _ _ rfl rfl rfl rfl rfl (QOp.ok (fun X => OpOk.idx1N rfl ti5 rfl rd.left.left.left.left rfl (by omega))) ?_
        refine Sd.quiet 4 _ _ rfl rfl rfl rfl rfl (QOp.ok (fun X => OpOk.load rfl rfl rfl (Rd.getB rd.left.left.left.left (by omega)))) ?_
        refine Sd.quiet 5 _ _ rfl rfl rfl rfl rfl (QOp.ok (fun X => OpOk.convInt rfl rfl rfl (wrapI (by omega) (by omega)))) ?_
        refine Sd.quiet 6 _ _ rfl rfl rfl rfl rfl (QOp.ok (fun X => OpOk.mulN _ 256 rfl rfl rfl rfl (by omega))) ?_
        refine Sd.quiet 7 _ _ rfl rfl rfl rfl rfl (QOp.ok (fun X => OpOk.move rfl)) ?_
        refine Sd.quiet 8 _ _ rfl rfl rfl rfl rfl (QOp.ok (fun X => OpOk.move rfl)) ?_
        refine Sd.quiet 9 _ _ rfl rfl rfl rfl rfl (QOp.ok (fun X => OpOk.addN _ 2 rfl rfl rfl rfl (by omega))) ?_
        refine Sd.quiet 10 _ _ rfl rfl rfl rfl rfl (QOp.ok (fun X => OpOk.idx1N rfl ti5 rfl rd.left.left.left.left rfl (by omega))) ?_
        refine Sd.quiet 11 _ _ rfl rfl rfl rfl rfl (QOp.ok (fun X => OpOk.load rfl rfl rfl (Rd.getB rd.left.left.left.left (by omega)))) ?_
        refine Sd.quiet 12 _ _ rfl rfl rfl rfl rfl (QOp.ok (fun X => OpOk.convInt rfl rfl rfl (wrapI (by omega) (by omega)))) ?_
        refine Sd.quiet 13 _ _ rfl rfl rfl rfl rfl (QOp.ok (fun X => OpOk.addN _ _ rfl rfl rfl rfl (by omega))) ?_
        refine Sd.quiet 14 _ _ rfl rfl rfl rfl rfl (QOp.ok (fun X => OpOk.assign rfl)) ?_
        (apply Sd.tail; case hall => kernel_rfl)
        refine RunL.mem (fl2 (sep_emp _) (sep_emp _)) ?_
        refine RunL.nil ?_
        refine Run.seq ?_
        refine Run.seq ?_
        rw [rw_n]
        refine Run.region ?_
        refine RunL.ok (OpOk.move rfl) rfl ?_
        refine RunL.ok (OpOk.move rfl) rfl ?_
        refine RunL.ok (OpOk.idx1N rfl ti5 rfl rd.left.left rfl (by omega)) rfl ?_
        refine RunL.ok (OpOk.load rfl rfl rfl (Rd.getB rd.left.left (by omega))) rfl ?_
        refine RunL.ok (OpOk.as (c := false) (OpOk.neq rfl rfl) (by rw [decide_eq_true (by omega)]; rfl)) rfl ?_
        refine RunL.ok (OpOk.move rfl) rfl ?_
        refine RunL.off rfl rfl rfl rfl ?_
        refine RunL.off rfl rfl rfl rfl ?_
        refine RunL.off rfl rfl rfl rfl ?_
        refine RunL.off rfl rfl rfl rfl ?_
        refine RunL.off rfl rfl rfl rfl ?_
        refine RunL.ok (OpOk.pickF rfl rfl) rfl ?_
        refine RunL.ok (OpOk.move rfl) rfl ?_
        refine RunL.on rfl rfl ?_
        refine RunL.ok (OpOk.move rfl) rfl ?_
        refine RunL.on rfl rfl ?_
        refine RunL.ok (OpOk.addN _ 5 rfl rfl rfl rfl (by omega)) rfl ?_
        refine RunL.on rfl rfl ?_
        refine RunL.ok (OpOk.move rfl) rfl ?_
        refine RunL.on rfl rfl ?_
        refine RunL.ok (OpOk.addN _ _ rfl rfl rfl rfl (by omega)) rfl ?_
        refine RunL.on rfl rfl ?_
        refine RunL.ok (OpOk.move rfl) rfl ?_
        refine RunL.on rfl rfl ?_
        refine RunL.ok (OpOk.lenR rfl rfl rd.left.left rfl) rfl ?_
        refine RunL.on rfl rfl ?_
        refine RunL.ok (OpOk.asF (OpOk.gtr rfl rfl) (by omega)) rfl ?_
        refine RunL.ok (OpOk.pickF rfl rfl) rfl ?_
        refine RunL.nil ?_
        refine Run.condF rfl ?_
        refine Run.skip ?_
        refine Run.seq ?_
        refine Run.region ?_
        refine RunL.ok (OpOk.move rfl) rfl ?_
        refine RunL.ok (OpOk.move rfl) rfl ?_
        refine RunL.ok (OpOk.move rfl) rfl ?_
        refine RunL.ok (OpOk.addN _ 3 rfl rfl rfl rfl (by omega)) rfl ?_
        refine RunL.ok (OpOk.move rfl) rfl ?_
        refine RunL.ok (OpOk.addN _ _ rfl rfl rfl rfl (by omega)) rfl ?_
        refine RunL.ok (OpOk.cut rfl ti5 rfl rd.left.left ⟨_, rfl⟩ ⟨_, rfl⟩ (by omega) (by omega)) rfl ?_
        refine RunL.call cal79 rfl (s79 rdS.left.left) rfl (fun vy2 Ay2 hy2 => ?_)
        obtain ⟨rfl, rfl⟩ := hy2
        refine RunL.ok (OpOk.assign rfl) rfl ?_
        refine RunL.nil ?_
        refine Run.seq ?_
        refine Run.seq ?_
        (apply Run.drawD [] (by rfl) (sep_emp _).symm; case hchk => kernel_rfl)
        refine Sd.quiet 0 _ _ rfl rfl rfl rfl rfl (QOp.ok (fun X => OpOk.move rfl)) ?_
        refine Sd.quiet 1 _ _ rfl rfl rfl rfl rfl (QOp.ok (fun X => OpOk.move rfl)) ?_
        refine Sd.quiet 2 _ _ rfl rfl rfl rfl rfl (QOp.ok (fun X => OpOk.move rfl)) ?_
        refine Sd.quiet 3 _ _ rfl rfl rfl rfl rfl (QOp.ok (fun X => OpOk.addN _ 3 rfl rfl rfl rfl (by omega))) ?_
        refine Sd.quiet 4 _ _ rfl rfl rfl rfl rfl (QOp.ok (fun X => OpOk.move rfl)) ?_
        refine Sd.quiet 5 _ _ rfl rfl rfl rfl rfl (QOp.ok (fun X => OpOk.addN _ _ rfl rfl rfl rfl (by omega))) ?_
        refine Sd.quiet 6 _ _ rfl rfl rfl rfl rfl (QOp.ok (fun X => OpOk.idx1N rfl ti5 rfl rd.left.left.left.left rfl (by omega))) ?_
        refine Sd.quiet 7 _ _ rfl rfl rfl rfl rfl (QOp.ok (fun X => OpOk.load rfl rfl rfl (Rd.getB rd.left.left.left.left (by omega)))) ?_
        refine Sd.quiet 8 _ _ rfl rfl rfl rfl rfl (QOp.ok (fun X => OpOk.convInt rfl rfl rfl (wrapI (by omega) (by omega)))) ?_
        refine Sd.quiet 9 _ _ rfl rfl rfl rfl rfl (QOp.ok (fun X => OpOk.mulN _ 256 rfl rfl rfl rfl (by omega))) ?_
        refine Sd.quiet 10 _ _ rfl rfl rfl rfl rfl (QOp.ok (fun X => OpOk.move rfl)) ?_
        refine Sd.quiet 11 _ _ rfl rfl rfl rfl rfl (QOp.ok (fun X => OpOk.move rfl)) ?_
        refine Sd.quiet 12 _ _ rfl rfl rfl rfl rfl (QOp.ok (fun X => OpOk.addN _ 4 rfl rfl rfl rfl (by omega))) ?_
        refine Sd.quiet 13 _ _ rfl rfl rfl rfl rfl (QOp.ok (fun X => OpOk.move rfl)) ?_
        refine Sd.quiet 14 _ _ rfl rfl rfl rfl rfl (QOp.ok (fun X => OpOk.addN _ _ rfl rfl rfl rfl (by omega))) ?_
        refine Sd.quiet 15 _ _ rfl rfl rfl rfl rfl (QOp.ok (fun X => OpOk.idx1N rfl ti5 rfl rd.left.left.left.left rfl (by omega))) ?_
        refine Sd.quiet 16 _ _ rfl rfl rfl rfl rfl (QOp.ok (fun X => OpOk.load rfl rfl rfl (Rd.getB rd.left.left.left.left (by omega)))) ?_
        refine Sd.quiet 17 _ _ rfl rfl rfl rfl rfl (QOp.ok (fun X => OpOk.convInt rfl rfl rfl (wrapI (by omega) (by omega)))) ?_
        refine Sd.quiet 18 _ _ rfl rfl rfl rfl rfl (QOp.ok (fun X => OpOk.addN _ _ rfl rfl rfl rfl (by omega))) ?_
        refine Sd.quiet 19 _ _ rfl rfl rfl rfl rfl (QOp.ok (fun X => OpOk.as (c := false) (OpOk.neq rfl rfl) (by rw [decide_eq_true (by omega)]; rfl))) ?_
        (apply Sd.tail; case hall => kernel_rfl)
        refine RunL.mem (fl2 (sep_emp _) (sep_emp _)) ?_
        refine RunL.nil ?_
        refine Run.condF rfl ?_
        refine Run.skip ?_
        refine Run.seq ?_
        (apply Run.drawD [18] (by rfl) (Eq.trans rfl rfl); case hchk => kernel_rfl)
        refine Sd.quiet 0 _ _ rfl rfl rfl rfl rfl (QOp.ok (fun X => OpOk.move rfl)) ?_
        refine Sd.quiet 1 _ _ rfl rfl rfl rfl rfl (QOp.ok (fun X => OpOk.move rfl)) ?_
        refine Sd.quiet 2 _ _ rfl rfl rfl rfl rfl (QOp.ok (fun X => OpOk.move rfl)) ?_
        refine Sd.quiet 3 _ _ rfl rfl rfl rfl rfl (QOp.ok (fun X => OpOk.idx1N rfl ti5 rfl rd.left.left.left rfl (by omega))) ?_
        refine Sd.quiet 4 _ _ rfl rfl rfl rfl rfl (QOp.ok (fun X => OpOk.load rfl rfl rfl (Rd.getB rd.left.left.left (by omega)))) ?_
        refine Sd.quiet 5 _ _ rfl rfl rfl rfl rfl (QOp.ok (fun X => OpOk.convInt rfl rfl rfl (wrapI (by omega) (by omega)))) ?_
        refine Sd.quiet 6 _ _ rfl rfl rfl rfl rfl (QOp.ok (fun X => OpOk.move rfl)) ?_
        refine Sd.quiet 7 _ _ rfl rfl rfl rfl rfl (QOp.ok (fun X => OpOk.move rfl)) ?_
        refine Sd.quiet 8 _ _ rfl rfl rfl rfl rfl (QOp.ok (fun X => OpOk.addN _ 3 rfl rfl rfl rfl (by omega))) ?_
        refine Sd.quiet 9 _ _ rfl rfl rfl rfl rfl (QOp.ok (fun X => OpOk.move rfl)) ?_
        refine Sd.quiet 10 _ _ rfl rfl rfl rfl rfl (QOp.ok (fun X => OpOk.addN _ 3 rfl rfl rfl rfl (by omega))) ?_
        refine Sd.quiet 11 _ _ rfl rfl rfl rfl rfl (QOp.ok (fun X => OpOk.move rfl)) ?_
        refine Sd.quiet 12 _ _ rfl rfl rfl rfl rfl (QOp.ok (fun X => OpOk.addN _ _ rfl rfl rfl rfl (by omega))) ?_
        refine Sd.quiet 13 _ _ rfl rfl rfl rfl rfl (QOp.ok (fun X => OpOk.cut rfl ti5 rfl rd.left.left.left ⟨_, rfl⟩ ⟨_, rfl⟩ (by omega) (by omega))) ?_
        (refine Sd.exec 14 rfl rfl rfl rfl rfl ?hrest (by rfl) (fun Xy3 Ky3 hKy3 => ?_); case hrest => kernel_rfl)
        refine RunL.mem (fl2 (sep_emp _) rfl) ?_
        refine RunL.ok (OpOk.strOf rfl rfl rfl rfl rdT.left.left.left) rfl ?_
        refine Sd.ret hKy3 (Eq.trans rfl (gp2 rfl (sep_emp _).symm)) ⟨emp, (sep_emp _).symm⟩ ?_
        refine Sd.quiet 15 _ _ rfl rfl rfl rfl rfl (QOp.ok (fun X => OpOk.build (cells := #[.int (IntKind.i64) (↑(bs.getD a 0).toNat), .string ({ data := (List.take n (List.drop (a + 3) bs)).toArray })]) rfl (fun w => run_build w 159 _ _ (by rfl)))) ?_
        (refine Sd.exec 16 rfl rfl rfl rfl rfl ?hrest (by rfl) (fun Xy4 Ky4 hKy4 => ?_); case hrest => kernel_rfl)
        refine RunL.mem (fl2 (sep_emp _) rfl) ?_
        refine RunL.litFl (enc := encT159) [(↑(bs.getD a 0).toNat, List.take n (List.drop (a + 3) bs))] rfl ti159 rfl (fun _ => rfl) rfl rfl (by decide) (by decide) rfl (fun vy5 rdy5 => ?_)
        refine RunL.know (fun w s => (s.conv rfl).ownRd0) (fun rdy6 => ?_)
        refine Sd.ret hKy4 (Eq.trans (frc (frl rfl) rfl) (gp2 rfl rfl)) ⟨_, (emp_sep _).symm⟩ ?_
        (refine Sd.exec 17 rfl rfl rfl rfl rfl ?hrest (by rfl) (fun Xy7 Ky7 hKy7 => ?_); case hrest => kernel_rfl)
        refine RunL.mem (fl2 rfl rfl) ?_
        refine RunL.appendF rfl ti159 rfl rfl rfl rfl (Rd.right rdy6).left rfl (by decide) (by omega) (by simp only [maxLen]; omega) rfl (fun vy8 rdy8 => ?_)
        refine RunL.know (fun w s => (s.conv rfl).ownRd0) (fun rdy9 => ?_)
        refine Sd.ret hKy7 (Eq.trans rfl (gp2 (sep_emp _).symm (asg rfl))) ⟨_, rfl⟩ ?_
        (apply Sd.tail; case hall => kernel_rfl)
        refine RunL.mem (fl2 (flS rfl) (sep_emp _)) ?_
        refine RunL.ok (OpOk.assign rfl) rfl ?_
        refine RunL.nil ?_
        refine Run.region ?_
        refine RunL.ok (OpOk.move rfl) rfl ?_
        refine RunL.ok (OpOk.addN _ 5 rfl rfl rfl rfl (by omega)) rfl ?_
        refine RunL.ok (OpOk.move rfl) rfl ?_
        refine RunL.ok (OpOk.addN _ _ rfl rfl rfl rfl (by omega)) rfl ?_
        refine RunL.ok (OpOk.assign rfl) rfl ?_
        refine RunL.nil ?_
        refine Run.inBlock ?_
        rw [hout, show (out.map thing).length + 1 = ((out ++ [(bs.getD a 0, (bs.drop (a + 3)).take n)]).map thing).length by simp]
        refine Run.jump ((ih (a + 5 + n, _, vy8, out ++ [(bs.getD a 0, (bs.drop (a + 3)).take n)]) ⟨by dsimp only; omega, by dsimp only; rw [List.length_append, List.length_singleton]; omega, hsy2⟩ (by dsimp only; omega))) ⟨rfl, rfl, rfl, trivial⟩ (Grew.of (congrArg (· * _) (asg as1)) (Grew.refl _))
      · refine Run.seq ?_
        refine Run.seq ?_
        refine Run.region ?_
        refine RunL.ok (OpOk.move rfl) rfl ?_
        refine RunL.ok (OpOk.addN _ 5 rfl rfl rfl rfl (by omega)) rfl ?_
        refine RunL.ok (OpOk.move rfl) rfl ?_
        refine RunL.ok (OpOk.lenR rfl rfl rd.left.left rfl) rfl ?_
        refine RunL.ok (OpOk.asT (OpOk.leq rfl rfl) (by omega)) rfl ?_
        refine RunL.nil ?_
        refine Run.condT rfl ?_
        refine Run.skip ?_
        refine Run.block ?_
        refine Run.seq ?_
        refine Run.know (fun w s => (s.conv rfl).ownRd0) (fun rdy1 => ?_)
        (apply Run.drawD [] (by rfl) (sep_emp _).symm; case hchk => kernel_rfl)
        refine Sd.quiet 0 _ _ rfl rfl rfl rfl rfl (QOp.ok (fun X => OpOk.move rfl)) ?_
        refine Sd.quiet 1 _ _ rfl rfl rfl rfl rfl (QOp.ok (fun X => OpOk.move rfl)) ?_
        refine Sd.quiet 2 _ _ rfl rfl rfl rfl rfl (QOp.ok (fun X => OpOk.addN _ 1 rfl rfl rfl rfl (by omega))) ?_
        refine Sd.quiet 3 _ _ rfl rfl rfl rfl rfl (QOp.ok (fun X => OpOk.idx1N rfl ti5 rfl rd.left.left.left.left rfl (by omega))) ?_
        refine Sd.quiet 4 _ _ rfl rfl rfl rfl rfl (QOp.ok (fun X => OpOk.load rfl rfl rfl (Rd.getB rd.left.left.left.left (by omega)))) ?_
        refine Sd.quiet 5 _ _ rfl rfl rfl rfl rfl (QOp.ok (fun X => OpOk.convInt rfl rfl rfl (wrapI (by omega) (by omega)))) ?_
        refine Sd.quiet 6 _ _ rfl rfl rfl rfl rfl (QOp.ok (fun X => OpOk.mulN _ 256 rfl rfl rfl rfl (by omega))) ?_
        refine Sd.quiet 7 _ _ rfl rfl rfl rfl rfl (QOp.ok (fun X => OpOk.move rfl)) ?_
        refine Sd.quiet 8 _ _ rfl rfl rfl rfl rfl (QOp.ok (fun X => OpOk.move rfl)) ?_
        refine Sd.quiet 9 _ _ rfl rfl rfl rfl rfl (QOp.ok (fun X => OpOk.addN _ 2 rfl rfl rfl rfl (by omega))) ?_
        refine Sd.quiet 10 _ _ rfl rfl rfl rfl rfl (QOp.ok (fun X => OpOk.idx1N rfl ti5 rfl rd.left.left.left.left rfl (by omega))) ?_
        refine Sd.quiet 11 _ _ rfl rfl rfl rfl rfl (QOp.ok (fun X => OpOk.load rfl rfl rfl (Rd.getB rd.left.left.left.left (by omega)))) ?_
        refine Sd.quiet 12 _ _ rfl rfl rfl rfl rfl (QOp.ok (fun X => OpOk.convInt rfl rfl rfl (wrapI (by omega) (by omega)))) ?_
        refine Sd.quiet 13 _ _ rfl rfl rfl rfl rfl (QOp.ok (fun X => OpOk.addN _ _ rfl rfl rfl rfl (by omega))) ?_
        refine Sd.quiet 14 _ _ rfl rfl rfl rfl rfl (QOp.ok (fun X => OpOk.assign rfl)) ?_
        (apply Sd.tail; case hall => kernel_rfl)
        refine RunL.mem (fl2 (sep_emp _) (sep_emp _)) ?_
        refine RunL.nil ?_
        refine Run.seq ?_
        refine Run.seq ?_
        rw [rw_n]
        refine Run.region ?_
        refine RunL.ok (OpOk.move rfl) rfl ?_
        refine RunL.ok (OpOk.move rfl) rfl ?_
        refine RunL.ok (OpOk.idx1N rfl ti5 rfl rd.left.left rfl (by omega)) rfl ?_
        refine RunL.ok (OpOk.load rfl rfl rfl (Rd.getB rd.left.left (by omega))) rfl ?_
        refine RunL.ok (OpOk.as (c := true) (OpOk.neq rfl rfl) (by rw [decide_eq_false (by omega)]; rfl)) rfl ?_
        refine RunL.ok (OpOk.move rfl) rfl ?_
        refine RunL.on rfl rfl ?_
        refine RunL.ok (OpOk.move rfl) rfl ?_
        refine RunL.on rfl rfl ?_
        refine RunL.ok (OpOk.move rfl) rfl ?_
        refine RunL.on rfl rfl ?_
        refine RunL.ok (OpOk.idx1N rfl ti5 rfl rd.left.left rfl (by omega)) rfl ?_
        refine RunL.on rfl rfl ?_
        refine RunL.ok (OpOk.load rfl rfl rfl (Rd.getB rd.left.left (by omega))) rfl ?_
        refine RunL.on rfl rfl ?_
        refine RunL.ok (OpOk.as (c := false) (OpOk.neq rfl rfl) (by rw [decide_eq_true (by omega)]; rfl)) rfl ?_
        refine RunL.ok (OpOk.pickT rfl rfl) rfl ?_
        refine RunL.ok (OpOk.move rfl) rfl ?_
        refine RunL.on rfl rfl ?_
        refine RunL.ok (OpOk.move rfl) rfl ?_
        refine RunL.on rfl rfl ?_
        refine RunL.ok (OpOk.addN _ 5 rfl rfl rfl rfl (by omega)) rfl ?_
        refine RunL.on rfl rfl ?_
        refine RunL.ok (OpOk.move rfl) rfl ?_
        refine RunL.on rfl rfl ?_
        refine RunL.ok (OpOk.addN _ _ rfl rfl rfl rfl (by omega)) rfl ?_
        refine RunL.on rfl rfl ?_
        refine RunL.ok (OpOk.move rfl) rfl ?_
        refine RunL.on rfl rfl ?_
        refine RunL.ok (OpOk.lenR rfl rfl rd.left.left rfl) rfl ?_
        refine RunL.on rfl rfl ?_
        refine RunL.ok (OpOk.asF (OpOk.gtr rfl rfl) (by omega)) rfl ?_
        refine RunL.ok (OpOk.pickF rfl rfl) rfl ?_
        refine RunL.nil ?_
        refine Run.condF rfl ?_
        refine Run.skip ?_
        refine Run.seq ?_
        refine Run.region ?_
        refine RunL.ok (OpOk.move rfl) rfl ?_
        refine RunL.ok (OpOk.move rfl) rfl ?_
        refine RunL.ok (OpOk.move rfl) rfl ?_
        refine RunL.ok (OpOk.addN _ 3 rfl rfl rfl rfl (by omega)) rfl ?_
        refine RunL.ok (OpOk.move rfl) rfl ?_
        refine RunL.ok (OpOk.addN _ _ rfl rfl rfl rfl (by omega)) rfl ?_
        refine RunL.ok (OpOk.cut rfl ti5 rfl rd.left.left ⟨_, rfl⟩ ⟨_, rfl⟩ (by omega) (by omega)) rfl ?_
        refine RunL.call cal79 rfl (s79 rdS.left.left) rfl (fun vy2 Ay2 hy2 => ?_)
        obtain ⟨rfl, rfl⟩ := hy2
        refine RunL.ok (OpOk.assign rfl) rfl ?_
        refine RunL.nil ?_
        refine Run.seq ?_
        refine Run.seq ?_
        (apply Run.drawD [] (by rfl) (sep_emp _).symm; case hchk => kernel_rfl)
        refine Sd.quiet 0 _ _ rfl rfl rfl rfl rfl (QOp.ok (fun X => OpOk.move rfl)) ?_
        refine Sd.quiet 1 _ _ rfl rfl rfl rfl rfl (QOp.ok (fun X => OpOk.move rfl)) ?_
        refine Sd.quiet 2 _ _ rfl rfl rfl rfl rfl (QOp.ok (fun X => OpOk.move rfl)) ?_
        refine Sd.quiet 3 _ _ rfl rfl rfl rfl rfl (QOp.ok (fun X => OpOk.addN _ 3 rfl rfl rfl rfl (by omega))) ?_
        refine Sd.quiet 4 _ _ rfl rfl rfl rfl rfl (QOp.ok (fun X => OpOk.move rfl)) ?_
        refine Sd.quiet 5 _ _ rfl rfl rfl rfl rfl (QOp.ok (fun X => OpOk.addN _ _ rfl rfl rfl rfl (by omega))) ?_
        refine Sd.quiet 6 _ _ rfl rfl rfl rfl rfl (QOp.ok (fun X => OpOk.idx1N rfl ti5 rfl rd.left.left.left.left rfl (by omega))) ?_
        refine Sd.quiet 7 _ _ rfl rfl rfl rfl rfl (QOp.ok (fun X => OpOk.load rfl rfl rfl (Rd.getB rd.left.left.left.left (by omega)))) ?_
        refine Sd.quiet 8 _ _ rfl rfl rfl rfl rfl (QOp.ok (fun X => OpOk.convInt rfl rfl rfl (wrapI (by omega) (by omega)))) ?_
        refine Sd.quiet 9 _ _ rfl rfl rfl rfl rfl (QOp.ok (fun X => OpOk.mulN _ 256 rfl rfl rfl rfl (by omega))) ?_
        refine Sd.quiet 10 _ _ rfl rfl rfl rfl rfl (QOp.ok (fun X => OpOk.move rfl)) ?_
        refine Sd.quiet 11 _ _ rfl rfl rfl rfl rfl (QOp.ok (fun X => OpOk.move rfl)) ?_
        refine Sd.quiet 12 _ _ rfl rfl rfl rfl rfl (QOp.ok (fun X => OpOk.addN _ 4 rfl rfl rfl rfl (by omega))) ?_
        refine Sd.quiet 13 _ _ rfl rfl rfl rfl rfl (QOp.ok (fun X => OpOk.move rfl)) ?_
        refine Sd.quiet 14 _ _ rfl rfl rfl rfl rfl (QOp.ok (fun X => OpOk.addN _ _ rfl rfl rfl rfl (by omega))) ?_
        refine Sd.quiet 15 _ _ rfl rfl rfl rfl rfl (QOp.ok (fun X => OpOk.idx1N rfl ti5 rfl rd.left.left.left.left rfl (by omega))) ?_
        refine Sd.quiet 16 _ _ rfl rfl rfl rfl rfl (QOp.ok (fun X => OpOk.load rfl rfl rfl (Rd.getB rd.left.left.left.left (by omega)))) ?_
        refine Sd.quiet 17 _ _ rfl rfl rfl rfl rfl (QOp.ok (fun X => OpOk.convInt rfl rfl rfl (wrapI (by omega) (by omega)))) ?_
        refine Sd.quiet 18 _ _ rfl rfl rfl rfl rfl (QOp.ok (fun X => OpOk.addN _ _ rfl rfl rfl rfl (by omega))) ?_
        refine Sd.quiet 19 _ _ rfl rfl rfl rfl rfl (QOp.ok (fun X => OpOk.as (c := false) (OpOk.neq rfl rfl) (by rw [decide_eq_true (by omega)]; rfl))) ?_
        (apply Sd.tail; case hall => kernel_rfl)
        refine RunL.mem (fl2 (sep_emp _) (sep_emp _)) ?_
        refine RunL.nil ?_
        refine Run.condF rfl ?_
        refine Run.skip ?_
        refine Run.seq ?_
        (apply Run.drawD [18] (by rfl) (Eq.trans rfl rfl); case hchk => kernel_rfl)
        refine Sd.quiet 0 _ _ rfl rfl rfl rfl rfl (QOp.ok (fun X => OpOk.move rfl)) ?_
        refine Sd.quiet 1 _ _ rfl rfl rfl rfl rfl (QOp.ok (fun X => OpOk.move rfl)) ?_
        refine Sd.quiet 2 _ _ rfl rfl rfl rfl rfl (QOp.ok (fun X => OpOk.move rfl)) ?_
        refine Sd.quiet 3 _ _ rfl rfl rfl rfl rfl (QOp.ok (fun X => OpOk.idx1N rfl ti5 rfl rd.left.left.left rfl (by omega))) ?_
        refine Sd.quiet 4 _ _ rfl rfl rfl rfl rfl (QOp.ok (fun X => OpOk.load rfl rfl rfl (Rd.getB rd.left.left.left (by omega)))) ?_
        refine Sd.quiet 5 _ _ rfl rfl rfl rfl rfl (QOp.ok (fun X => OpOk.convInt rfl rfl rfl (wrapI (by omega) (by omega)))) ?_
        refine Sd.quiet 6 _ _ rfl rfl rfl rfl rfl (QOp.ok (fun X => OpOk.move rfl)) ?_
        refine Sd.quiet 7 _ _ rfl rfl rfl rfl rfl (QOp.ok (fun X => OpOk.move rfl)) ?_
        refine Sd.quiet 8 _ _ rfl rfl rfl rfl rfl (QOp.ok (fun X => OpOk.addN _ 3 rfl rfl rfl rfl (by omega))) ?_
        refine Sd.quiet 9 _ _ rfl rfl rfl rfl rfl (QOp.ok (fun X => OpOk.move rfl)) ?_
        refine Sd.quiet 10 _ _ rfl rfl rfl rfl rfl (QOp.ok (fun X => OpOk.addN _ 3 rfl rfl rfl rfl (by omega))) ?_
        refine Sd.quiet 11 _ _ rfl rfl rfl rfl rfl (QOp.ok (fun X => OpOk.move rfl)) ?_
        refine Sd.quiet 12 _ _ rfl rfl rfl rfl rfl (QOp.ok (fun X => OpOk.addN _ _ rfl rfl rfl rfl (by omega))) ?_
        refine Sd.quiet 13 _ _ rfl rfl rfl rfl rfl (QOp.ok (fun X => OpOk.cut rfl ti5 rfl rd.left.left.left ⟨_, rfl⟩ ⟨_, rfl⟩ (by omega) (by omega))) ?_
        (refine Sd.exec 14 rfl rfl rfl rfl rfl ?hrest (by rfl) (fun Xy3 Ky3 hKy3 => ?_); case hrest => kernel_rfl)
        refine RunL.mem (fl2 (sep_emp _) rfl) ?_
        refine RunL.ok (OpOk.strOf rfl rfl rfl rfl rdT.left.left.left) rfl ?_
        refine Sd.ret hKy3 (Eq.trans rfl (gp2 rfl (sep_emp _).symm)) ⟨emp, (sep_emp _).symm⟩ ?_
        refine Sd.quiet 15 _ _ rfl rfl rfl rfl rfl (QOp.ok (fun X => OpOk.build (cells := #[.int (IntKind.i64) (↑(bs.getD a 0).toNat), .string ({ data := (List.take n (List.drop (a + 3) bs)).toArray })]) rfl (fun w => run_build w 159 _ _ (by rfl)))) ?_
        (refine Sd.exec 16 rfl rfl rfl rfl rfl ?hrest (by rfl) (fun Xy4 Ky4 hKy4 => ?_); case hrest => kernel_rfl)
        refine RunL.mem (fl2 (sep_emp _) rfl) ?_
        refine RunL.litFl (enc := encT159) [(↑(bs.getD a 0).toNat, List.take n (List.drop (a + 3) bs))] rfl ti159 rfl (fun _ => rfl) rfl rfl (by decide) (by decide) rfl (fun vy5 rdy5 => ?_)
        refine RunL.know (fun w s => (s.conv rfl).ownRd0) (fun rdy6 => ?_)
        refine Sd.ret hKy4 (Eq.trans (frc (frl rfl) rfl) (gp2 rfl rfl)) ⟨_, (emp_sep _).symm⟩ ?_
        (refine Sd.exec 17 rfl rfl rfl rfl rfl ?hrest (by rfl) (fun Xy7 Ky7 hKy7 => ?_); case hrest => kernel_rfl)
        refine RunL.mem (fl2 rfl rfl) ?_
        refine RunL.appendF rfl ti159 rfl rfl rfl rfl (Rd.right rdy6).left rfl (by decide) (by omega) (by simp only [maxLen]; omega) rfl (fun vy8 rdy8 => ?_)
        refine RunL.know (fun w s => (s.conv rfl).ownRd0) (fun rdy9 => ?_)
        refine Sd.ret hKy7 (Eq.trans rfl (gp2 (sep_emp _).symm (asg rfl))) ⟨_, rfl⟩ ?_
        (apply Sd.tail; case hall => kernel_rfl)
        refine RunL.mem (fl2 (flS rfl) (sep_emp _)) ?_
        refine RunL.ok (OpOk.assign rfl) rfl ?_
        refine RunL.nil ?_
        refine Run.region ?_
        refine RunL.ok (OpOk.move rfl) rfl ?_
        refine RunL.ok (OpOk.addN _ 5 rfl rfl rfl rfl (by omega)) rfl ?_
        refine RunL.ok (OpOk.move rfl) rfl ?_
        refine RunL.ok (OpOk.addN _ _ rfl rfl rfl rfl (by omega)) rfl ?_
        refine RunL.ok (OpOk.assign rfl) rfl ?_
        refine RunL.nil ?_
        refine Run.inBlock ?_
        rw [hout, show (out.map thing).length + 1 = ((out ++ [(bs.getD a 0, (bs.drop (a + 3)).take n)]).map thing).length by simp]
        refine Run.jump ((ih (a + 5 + n, _, vy8, out ++ [(bs.getD a 0, (bs.drop (a + 3)).take n)]) ⟨by dsimp only; omega, by dsimp only; rw [List.length_append, List.length_singleton]; omega, hsy2⟩ (by dsimp only; omega))) ⟨rfl, rfl, rfl, trivial⟩ (Grew.of (congrArg (· * _) (asg as1)) (Grew.refl _))
    · clear ih
      have hnx := nextF_no hn hc
      rw [says_none hnx, List.append_nil, Nat.add_zero] at hsy
      rcases Nat.lt_or_ge bs.length (a + 5 + n) with h1 | h1
      · rw [hsy]
        refine Run.seq ?_
        refine Run.seq ?_
        refine Run.region ?_
        refine RunL.ok (OpOk.move rfl) rfl ?_
        refine RunL.ok (OpOk.addN _ 5 rfl rfl rfl rfl (by omega)) rfl ?_
        refine RunL.ok (OpOk.move rfl) rfl ?_
        refine RunL.ok (OpOk.lenR rfl rfl rd.left.left rfl) rfl ?_
        refine RunL.ok (OpOk.asT (OpOk.leq rfl rfl) (by omega)) rfl ?_
        refine RunL.nil ?_
        refine Run.condT rfl ?_
        refine Run.skip ?_
        refine Run.block ?_
        refine Run.seq ?_
        refine Run.know (fun w s => (s.conv rfl).ownRd0) (fun rdy1 => ?_)
        (apply Run.drawD [] (by rfl) (sep_emp _).symm; case hchk => kernel_rfl)
        refine Sd.quiet 0 _ _ rfl rfl rfl rfl rfl (QOp.ok (fun X => OpOk.move rfl)) ?_
        refine Sd.quiet 1 _ _ rfl rfl rfl rfl rfl (QOp.ok (fun X => OpOk.move rfl)) ?_
        refine Sd.quiet 2 _ _ rfl rfl rfl rfl rfl (QOp.ok (fun X => OpOk.addN _ 1 rfl rfl rfl rfl (by omega))) ?_
        refine Sd.quiet 3 _ _ rfl rfl rfl rfl rfl (QOp.ok (fun X => OpOk.idx1N rfl ti5 rfl rd.left.left.left.left rfl (by omega))) ?_
        refine Sd.quiet 4 _ _ rfl rfl rfl rfl rfl (QOp.ok (fun X => OpOk.load rfl rfl rfl (Rd.getB rd.left.left.left.left (by omega)))) ?_
        refine Sd.quiet 5 _ _ rfl rfl rfl rfl rfl (QOp.ok (fun X => OpOk.convInt rfl rfl rfl (wrapI (by omega) (by omega)))) ?_
        refine Sd.quiet 6 _ _ rfl rfl rfl rfl rfl (QOp.ok (fun X => OpOk.mulN _ 256 rfl rfl rfl rfl (by omega))) ?_
        refine Sd.quiet 7 _ _ rfl rfl rfl rfl rfl (QOp.ok (fun X => OpOk.move rfl)) ?_
        refine Sd.quiet 8 _ _ rfl rfl rfl rfl rfl (QOp.ok (fun X => OpOk.move rfl)) ?_
        refine Sd.quiet 9 _ _ rfl rfl rfl rfl rfl (QOp.ok (fun X => OpOk.addN _ 2 rfl rfl rfl rfl (by omega))) ?_
        refine Sd.quiet 10 _ _ rfl rfl rfl rfl rfl (QOp.ok (fun X => OpOk.idx1N rfl ti5 rfl rd.left.left.left.left rfl (by omega))) ?_
        refine Sd.quiet 11 _ _ rfl rfl rfl rfl rfl (QOp.ok (fun X => OpOk.load rfl rfl rfl (Rd.getB rd.left.left.left.left (by omega)))) ?_
        refine Sd.quiet 12 _ _ rfl rfl rfl rfl rfl (QOp.ok (fun X => OpOk.convInt rfl rfl rfl (wrapI (by omega) (by omega)))) ?_
        refine Sd.quiet 13 _ _ rfl rfl rfl rfl rfl (QOp.ok (fun X => OpOk.addN _ _ rfl rfl rfl rfl (by omega))) ?_
        refine Sd.quiet 14 _ _ rfl rfl rfl rfl rfl (QOp.ok (fun X => OpOk.assign rfl)) ?_
        (apply Sd.tail; case hall => kernel_rfl)
        refine RunL.mem (fl2 (sep_emp _) (sep_emp _)) ?_
        refine RunL.nil ?_
        refine Run.seq ?_
        refine Run.seq ?_
        rw [rw_n]
        refine Run.region ?_
        refine RunL.ok (OpOk.move rfl) rfl ?_
        refine RunL.ok (OpOk.move rfl) rfl ?_
        refine RunL.ok (OpOk.idx1N rfl ti5 rfl rd.left.left rfl (by omega)) rfl ?_
        refine RunL.ok (OpOk.load rfl rfl rfl (Rd.getB rd.left.left (by omega))) rfl ?_
        refine RunL.ok (OpOk.neq rfl rfl) rfl ?_
        refine RunL.ok (OpOk.move rfl) rfl ?_
        refine RunL.splitN (t := 32) rfl (fun y2 => ?_) (fun y2 => ?_)
        · refine RunL.on rfl rfl ?_
          refine RunL.ok (OpOk.move rfl) rfl ?_
          refine RunL.on rfl rfl ?_
          refine RunL.ok (OpOk.move rfl) rfl ?_
          refine RunL.on rfl rfl ?_
          refine RunL.ok (OpOk.idx1N rfl ti5 rfl rd.left.left rfl (by omega)) rfl ?_
          refine RunL.on rfl rfl ?_
          refine RunL.ok (OpOk.load rfl rfl rfl (Rd.getB rd.left.left (by omega))) rfl ?_
          refine RunL.on rfl rfl ?_
          refine RunL.ok (OpOk.neq rfl rfl) rfl ?_
          refine RunL.ok (OpOk.pickT rfl rfl) rfl ?_
          refine RunL.ok (OpOk.move rfl) rfl ?_
          refine RunL.splitN (t := 39) rfl (fun y3 => ?_) (fun y3 => ?_)
          · refine RunL.off rfl rfl rfl rfl ?_
            refine RunL.off rfl rfl rfl rfl ?_
            refine RunL.off rfl rfl rfl rfl ?_
            refine RunL.off rfl rfl rfl rfl ?_
            refine RunL.off rfl rfl rfl rfl ?_
            refine RunL.off rfl rfl rfl rfl ?_
            refine RunL.off rfl rfl rfl rfl ?_
            refine RunL.ok (OpOk.pickT rfl rfl) rfl ?_
            refine RunL.nil ?_
            refine Run.condT rfl ?_
            refine Run.seq ?_
            refine Run.region ?_
            refine RunL.ok (OpOk.move rfl) rfl ?_
            refine RunL.ok (OpOk.move rfl) rfl ?_
            refine RunL.ok (OpOk.assign rfl) rfl ?_
            refine RunL.ok (OpOk.assign rfl) rfl ?_
            refine RunL.nil ?_
            refine Run.ret2 Try.func34 rfl rfl rfl ?_
            exact ⟨_, _, rfl, (congrArg (· * _) as1)⟩
          refine RunL.on rfl rfl ?_
          refine RunL.ok (OpOk.move rfl) rfl ?_
          refine RunL.on rfl rfl ?_
          refine RunL.ok (OpOk.addN _ 5 rfl rfl rfl rfl (by omega)) rfl ?_
          refine RunL.on rfl rfl ?_
          refine RunL.ok (OpOk.move rfl) rfl ?_
          refine RunL.on rfl rfl ?_
          refine RunL.ok (OpOk.addN _ _ rfl rfl rfl rfl (by omega)) rfl ?_
          refine RunL.on rfl rfl ?_
          refine RunL.ok (OpOk.move rfl) rfl ?_
          refine RunL.on rfl rfl ?_
          refine RunL.ok (OpOk.lenR rfl rfl rd.left.left rfl) rfl ?_
          refine RunL.on rfl rfl ?_
          refine RunL.ok (OpOk.asT (OpOk.gtr rfl rfl) (by omega)) rfl ?_
          refine RunL.ok (OpOk.pickF rfl rfl) rfl ?_
          refine RunL.nil ?_
          refine Run.condT rfl ?_
          refine Run.seq ?_
          refine Run.region ?_
          refine RunL.ok (OpOk.move rfl) rfl ?_
          refine RunL.ok (OpOk.move rfl) rfl ?_
          refine RunL.ok (OpOk.assign rfl) rfl ?_
          refine RunL.ok (OpOk.assign rfl) rfl ?_
          refine RunL.nil ?_
          refine Run.ret2 Try.func34 rfl rfl rfl ?_
          exact ⟨_, _, rfl, (congrArg (· * _) as1)⟩
        refine RunL.off rfl rfl rfl rfl ?_
        refine RunL.off rfl rfl rfl rfl ?_
        refine RunL.off rfl rfl rfl rfl ?_
        refine RunL.off rfl rfl rfl rfl ?_
        refine RunL.off rfl rfl rfl rfl ?_
        refine RunL.ok (OpOk.pickF rfl rfl) rfl ?_
        refine RunL.ok (OpOk.move rfl) rfl ?_
        refine RunL.on rfl rfl ?_
        refine RunL.ok (OpOk.move rfl) rfl ?_
        refine RunL.on rfl rfl ?_
        refine RunL.ok (OpOk.addN _ 5 rfl rfl rfl rfl (by omega)) rfl ?_
        refine RunL.on rfl rfl ?_
        refine RunL.ok (OpOk.move rfl) rfl ?_
        refine RunL.on rfl rfl ?_
        refine RunL.ok (OpOk.addN _ _ rfl rfl rfl rfl (by omega)) rfl ?_
        refine RunL.on rfl rfl ?_
        refine RunL.ok (OpOk.move rfl) rfl ?_
        refine RunL.on rfl rfl ?_
        refine RunL.ok (OpOk.lenR rfl rfl rd.left.left rfl) rfl ?_
        refine RunL.on rfl rfl ?_
        refine RunL.ok (OpOk.asT (OpOk.gtr rfl rfl) (by omega)) rfl ?_
        refine RunL.ok (OpOk.pickF rfl rfl) rfl ?_
        refine RunL.nil ?_
        refine Run.condT rfl ?_
        refine Run.seq ?_
        refine Run.region ?_
        refine RunL.ok (OpOk.move rfl) rfl ?_
        refine RunL.ok (OpOk.move rfl) rfl ?_
        refine RunL.ok (OpOk.assign rfl) rfl ?_
        refine RunL.ok (OpOk.assign rfl) rfl ?_
        refine RunL.nil ?_
        refine Run.ret2 Try.func34 rfl rfl rfl ?_
        exact ⟨_, _, rfl, (congrArg (· * _) as1)⟩
      · rcases Decidable.em ((bs.getD a 0).toNat = 1 ∨ (bs.getD a 0).toNat = 2) with h2 | h2
        · have h3 : (sum ((bs.drop a).take (3 + n))).toNat ≠ (bs.getD (a + 3 + n) 0).toNat * 256 + (bs.getD (a + 4 + n) 0).toNat := fun e => hc ⟨h1, h2, e⟩
          have rdS : Rd w0 A (Go.Proofs.Yteopadjihklkmaa.cutV u a (a + 3 + n) 1) 1 (3 + n) (B ((bs.drop a).take (3 + n))) := by
            have := Rd.cutB rd (show a ≤ a + 3 + n by omega) (show a + 3 + n ≤ bs.length by omega)
            rwa [show a + 3 + n - a = 3 + n by omega] at this
          have hb3 := (bs.getD (a + 3 + n) 0).toNat_lt
          have hb4 := (bs.getD (a + 4 + n) 0).toNat_lt
          rw [hsy]
          rcases h2 with h2 | h2
          · refine Run.seq ?_
            refine Run.seq ?_
            refine Run.region ?_
            refine RunL.ok (OpOk.move rfl) rfl ?_
            refine RunL.ok (OpOk.addN _ 5 rfl rfl rfl rfl (by omega)) rfl ?_
            refine RunL.ok (OpOk.move rfl) rfl ?_
            refine RunL.ok (OpOk.lenR rfl rfl rd.left.left rfl) rfl ?_
            refine RunL.ok (OpOk.asT (OpOk.leq rfl rfl) (by omega)) rfl ?_
            refine RunL.nil ?_
            refine Run.condT rfl ?_
            refine Run.skip ?_
            refine Run.block ?_
            refine Run.seq ?_
            refine Run.know (fun w s => (s.conv rfl).ownRd0) (fun rdy1 => ?_)
            (apply Run.drawD [] (by rfl) (sep_emp _).symm; case hchk => kernel_rfl)
            refine Sd.quiet 0 _ _ rfl rfl rfl rfl rfl (QOp.ok (fun X => OpOk.move rfl)) ?_
            refine Sd.quiet 1 _ _ rfl rfl rfl rfl rfl (QOp.ok (fun X => OpOk.move rfl)) ?_
            refine Sd.quiet 2 _ _ rfl rfl rfl rfl rfl (QOp.ok (fun X => OpOk.addN _ 1 rfl rfl rfl rfl (by omega))) ?_
            refine Sd.quiet 3 _ _ rfl rfl rfl rfl rfl (QOp.ok (fun X => OpOk.idx1N rfl ti5 rfl rd.left.left.left.left rfl (by omega))) ?_
            refine Sd.quiet 4 _ _ rfl rfl rfl rfl rfl (QOp.ok (fun X => OpOk.load rfl rfl rfl (Rd.getB rd.left.left.left.left (by omega)))) ?_
            refine Sd.quiet 5 _ _ rfl rfl rfl rfl rfl (QOp.ok (fun X => OpOk.convInt rfl rfl rfl (wrapI (by omega) (by omega)))) ?_
            refine Sd.quiet 6 _ _ rfl rfl rfl rfl rfl (QOp.ok (fun X => OpOk.mulN _ 256 rfl rfl rfl rfl (by omega))) ?_
            refine Sd.quiet 7 _ _ rfl rfl rfl rfl rfl (QOp.ok (fun X => OpOk.move rfl)) ?_
            refine Sd.quiet 8 _ _ rfl rfl rfl rfl rfl (QOp.ok (fun X => OpOk.move rfl)) ?_
            refine Sd.quiet 9 _ _ rfl rfl rfl rfl rfl (QOp.ok (fun X => OpOk.addN _ 2 rfl rfl rfl rfl (by omega))) ?_
            refine Sd.quiet 10 _ _ rfl rfl rfl rfl rfl (QOp.ok (fun X => OpOk.idx1N rfl ti5 rfl rd.left.left.left.left rfl (by omega))) ?_
            refine Sd.quiet 11 _ _ rfl rfl rfl rfl rfl (QOp.ok (fun X => OpOk.load rfl rfl rfl (Rd.getB rd.left.left.left.left (by omega)))) ?_
            refine Sd.quiet 12 _ _ rfl rfl rfl rfl rfl (QOp.ok (fun X => OpOk.convInt rfl rfl rfl (wrapI (by omega) (by omega)))) ?_
            refine Sd.quiet 13 _ _ rfl rfl rfl rfl rfl (QOp.ok (fun X => OpOk.addN _ _ rfl rfl rfl rfl (by omega))) ?_
            refine Sd.quiet 14 _ _ rfl rfl rfl rfl rfl (QOp.ok (fun X => OpOk.assign rfl)) ?_
            (apply Sd.tail; case hall => kernel_rfl)
            refine RunL.mem (fl2 (sep_emp _) (sep_emp _)) ?_
            refine RunL.nil ?_
            refine Run.seq ?_
            refine Run.seq ?_
            rw [rw_n]
            refine Run.region ?_
            refine RunL.ok (OpOk.move rfl) rfl ?_
            refine RunL.ok (OpOk.move rfl) rfl ?_
            refine RunL.ok (OpOk.idx1N rfl ti5 rfl rd.left.left rfl (by omega)) rfl ?_
            refine RunL.ok (OpOk.load rfl rfl rfl (Rd.getB rd.left.left (by omega))) rfl ?_
            refine RunL.ok (OpOk.as (c := false) (OpOk.neq rfl rfl) (by rw [decide_eq_true (by omega)]; rfl)) rfl ?_
            refine RunL.ok (OpOk.move rfl) rfl ?_
            refine RunL.off rfl rfl rfl rfl ?_
            refine RunL.off rfl rfl rfl rfl ?_
            refine RunL.off rfl rfl rfl rfl ?_
            refine RunL.off rfl rfl rfl rfl ?_
            refine RunL.off rfl rfl rfl rfl ?_
            refine RunL.ok (OpOk.pickF rfl rfl) rfl ?_
            refine RunL.ok (OpOk.move rfl) rfl ?_
            refine RunL.on rfl rfl ?_
            refine RunL.ok (OpOk.move rfl) rfl ?_
            refine RunL.on rfl rfl ?_
            refine RunL.ok (OpOk.addN _ 5 rfl rfl rfl rfl (by omega)) rfl ?_
            refine RunL.on rfl rfl ?_
            refine RunL.ok (OpOk.move rfl) rfl ?_
            refine RunL.on rfl rfl ?_
            refine RunL.ok (OpOk.addN _ _ rfl rfl rfl rfl (by omega)) rfl ?_
            refine RunL.on rfl rfl ?_
            refine RunL.ok (OpOk.move rfl) rfl ?_
            refine RunL.on rfl rfl ?_
            refine RunL.ok (OpOk.lenR rfl rfl rd.left.left rfl) rfl ?_
            refine RunL.on rfl rfl ?_
            refine RunL.ok (OpOk.asF (OpOk.gtr rfl rfl) (by omega)) rfl ?_
            refine RunL.ok (OpOk.pickF rfl rfl) rfl ?_
            refine RunL.nil ?_
            refine Run.condF rfl ?_
            refine Run.skip ?_
            refine Run.seq ?_
            refine Run.region ?_
            refine RunL.ok (OpOk.move rfl) rfl ?_
            refine RunL.ok (OpOk.move rfl) rfl ?_
            refine RunL.ok (OpOk.move rfl) rfl ?_
            refine RunL.ok (OpOk.addN _ 3 rfl rfl rfl rfl (by omega)) rfl ?_
            refine RunL.ok (OpOk.move rfl) rfl ?_
            refine RunL.ok (OpOk.addN _ _ rfl rfl rfl rfl (by omega)) rfl ?_
            refine RunL.ok (OpOk.cut rfl ti5 rfl rd.left.left ⟨_, rfl⟩ ⟨_, rfl⟩ (by omega) (by omega)) rfl ?_
            refine RunL.call cal79 rfl (s79 rdS.left.left) rfl (fun vy2 Ay2 hy2 => ?_)
            obtain ⟨rfl, rfl⟩ := hy2
            refine RunL.ok (OpOk.assign rfl) rfl ?_
            refine RunL.nil ?_
            refine Run.seq ?_
            refine Run.seq ?_
            (apply Run.drawD [] (by rfl) (sep_emp _).symm; case hchk => kernel_rfl)
            refine Sd.quiet 0 _ _ rfl rfl rfl rfl rfl (QOp.ok (fun X => OpOk.move rfl)) ?_
            refine Sd.quiet 1 _ _ rfl rfl rfl rfl rfl (QOp.ok (fun X => OpOk.move rfl)) ?_
            refine Sd.quiet 2 _ _ rfl rfl rfl rfl rfl (QOp.ok (fun X => OpOk.move rfl)) ?_
            refine Sd.quiet 3 _ _ rfl rfl rfl rfl rfl (QOp.ok (fun X => OpOk.addN _ 3 rfl rfl rfl rfl (by omega))) ?_
            refine Sd.quiet 4 _ _ rfl rfl rfl rfl rfl (QOp.ok (fun X => OpOk.move rfl)) ?_
            refine Sd.quiet 5 _ _ rfl rfl rfl rfl rfl (QOp.ok (fun X => OpOk.addN _ _ rfl rfl rfl rfl (by omega))) ?_
            refine Sd.quiet 6 _ _ rfl rfl rfl rfl rfl (QOp.ok (fun X => OpOk.idx1N rfl ti5 rfl rd.left.left.left.left rfl (by omega))) ?_
            refine Sd.quiet 7 _ _ rfl rfl rfl rfl rfl (QOp.ok (fun X => OpOk.load rfl rfl rfl (Rd.getB rd.left.left.left.left (by omega)))) ?_
            refine Sd.quiet 8 _ _ rfl rfl rfl rfl rfl (QOp.ok (fun X => OpOk.convInt rfl rfl rfl (wrapI (by omega) (by omega)))) ?_
            refine Sd.quiet 9 _ _ rfl rfl rfl rfl rfl (QOp.ok (fun X => OpOk.mulN _ 256 rfl rfl rfl rfl (by omega))) ?_
            refine Sd.quiet 10 _ _ rfl rfl rfl rfl rfl (QOp.ok (fun X => OpOk.move rfl)) ?_
            refine Sd.quiet 11 _ _ rfl rfl rfl rfl rfl (QOp.ok (fun X => OpOk.move rfl)) ?_
            refine Sd.quiet 12 _ _ rfl rfl rfl rfl rfl (QOp.ok (fun X => OpOk.addN _ 4 rfl rfl rfl rfl (by omega))) ?_
            refine Sd.quiet 13 _ _ rfl rfl rfl rfl rfl (QOp.ok (fun X => OpOk.move rfl)) ?_
            refine Sd.quiet 14 _ _ rfl rfl rfl rfl rfl (QOp.ok (fun X => OpOk.addN _ _ rfl rfl rfl rfl (by omega))) ?_
            refine Sd.quiet 15 _ _ rfl rfl rfl rfl rfl (QOp.ok (fun X => OpOk.idx1N rfl ti5 rfl rd.left.left.left.left rfl (by omega))) ?_
            refine Sd.quiet 16 _ _ rfl rfl rfl rfl rfl (QOp.ok (fun X => OpOk.load rfl rfl rfl (Rd.getB rd.left.left.left.left (by omega)))) ?_
            refine Sd.quiet 17 _ _ rfl rfl rfl rfl rfl (QOp.ok (fun X => OpOk.convInt rfl rfl rfl (wrapI (by omega) (by omega)))) ?_
            refine Sd.quiet 18 _ _ rfl rfl rfl rfl rfl (QOp.ok (fun X => OpOk.addN _ _ rfl rfl rfl rfl (by omega))) ?_
            refine Sd.quiet 19 _ _ rfl rfl rfl rfl rfl (QOp.ok (fun X => OpOk.as (c := true) (OpOk.neq rfl rfl) (by rw [decide_eq_false (by omega)]; rfl))) ?_
            (apply Sd.tail; case hall => kernel_rfl)
            refine RunL.mem (fl2 (sep_emp _) (sep_emp _)) ?_
            refine RunL.nil ?_
            refine Run.condT rfl ?_
            refine Run.seq ?_
            refine Run.region ?_
            refine RunL.ok (OpOk.move rfl) rfl ?_
            refine RunL.ok (OpOk.move rfl) rfl ?_
            refine RunL.ok (OpOk.assign rfl) rfl ?_
            refine RunL.ok (OpOk.assign rfl) rfl ?_
            refine RunL.nil ?_
            refine Run.ret2 Try.func34 rfl rfl rfl ?_
            exact ⟨_, _, rfl, (congrArg (· * _) as1)⟩
          · refine Run.seq ?_
            refine Run.seq ?_
            refine Run.region ?_
            refine RunL.ok (OpOk.move rfl) rfl ?_
            refine RunL.ok (OpOk.addN _ 5 rfl rfl rfl rfl (by omega)) rfl ?_
            refine RunL.ok (OpOk.move rfl) rfl ?_
            refine RunL.ok (OpOk.lenR rfl rfl rd.left.left rfl) rfl ?_
            refine RunL.ok (OpOk.asT (OpOk.leq rfl rfl) (by omega)) rfl ?_
            refine RunL.nil ?_
            refine Run.condT rfl ?_
            refine Run.skip ?_
            refine Run.block ?_
            refine Run.seq ?_
            refine Run.know (fun w s => (s.conv rfl).ownRd0) (fun rdy1 => ?_)
            (apply Run.drawD [] (by rfl) (sep_emp _).symm; case hchk => kernel_rfl)
            refine Sd.quiet 0 _ _ rfl rfl rfl rfl rfl (QOp.ok (fun X => OpOk.move rfl)) ?_
            refine Sd.quiet 1 _ _ rfl rfl rfl rfl rfl (QOp.ok (fun X => OpOk.move rfl)) ?_
            refine Sd.quiet 2 _ _ rfl rfl rfl rfl rfl (QOp.ok (fun X => OpOk.addN _ 1 rfl rfl rfl rfl (by omega))) ?_
            refine Sd.quiet 3 _ _ rfl rfl rfl rfl rfl (QOp.ok (fun X => OpOk.idx1N rfl ti5 rfl rd.left.left.left.left rfl (by omega))) ?_
            refine Sd.quiet 4 _ _ rfl rfl rfl rfl rfl (QOp.ok (fun X => OpOk.load rfl rfl rfl (Rd.getB rd.left.left.left.left (by omega)))) ?_
            refine Sd.quiet 5 _ _ rfl rfl rfl rfl rfl (QOp.ok (fun X => OpOk.convInt rfl rfl rfl (wrapI (by omega) (by omega)))) ?_
            refine Sd.quiet 6 _ _ rfl rfl rfl rfl rfl (QOp.ok (fun X => OpOk.mulN _ 256 rfl rfl rfl rfl (by omega))) ?_
            refine Sd.quiet 7 _ _ rfl rfl rfl rfl rfl (QOp.ok (fun X => OpOk.move rfl)) ?_
            refine Sd.quiet 8 _ _ rfl rfl rfl rfl rfl (QOp.ok (fun X => OpOk.move rfl)) ?_
            refine Sd.quiet 9 _ _ rfl rfl rfl rfl rfl (QOp.ok (fun X => OpOk.addN _ 2 rfl rfl rfl rfl (by omega))) ?_
            refine Sd.quiet 10 _ _ rfl rfl rfl rfl rfl (QOp.ok (fun X => OpOk.idx1N rfl ti5 rfl rd.left.left.left.left rfl (by omega))) ?_
            refine Sd.quiet 11 _ _ rfl rfl rfl rfl rfl (QOp.ok (fun X => OpOk.load rfl rfl rfl (Rd.getB rd.left.left.left.left (by omega)))) ?_
            refine Sd.quiet 12 _ _ rfl rfl rfl rfl rfl (QOp.ok (fun X => OpOk.convInt rfl rfl rfl (wrapI (by omega) (by omega)))) ?_
            refine Sd.quiet 13 _ _ rfl rfl rfl rfl rfl (QOp.ok (fun X => OpOk.addN _ _ rfl rfl rfl rfl (by omega))) ?_
            refine Sd.quiet 14 _ _ rfl rfl rfl rfl rfl (QOp.ok (fun X => OpOk.assign rfl)) ?_
            (apply Sd.tail; case hall => kernel_rfl)
            refine RunL.mem (fl2 (sep_emp _) (sep_emp _)) ?_
            refine RunL.nil ?_
            refine Run.seq ?_
            refine Run.seq ?_
            rw [rw_n]
            refine Run.region ?_
            refine RunL.ok (OpOk.move rfl) rfl ?_
            refine RunL.ok (OpOk.move rfl) rfl ?_
            refine RunL.ok (OpOk.idx1N rfl ti5 rfl rd.left.left rfl (by omega)) rfl ?_
            refine RunL.ok (OpOk.load rfl rfl rfl (Rd.getB rd.left.left (by omega))) rfl ?_
            refine RunL.ok (OpOk.as (c := true) (OpOk.neq rfl rfl) (by rw [decide_eq_false (by omega)]; rfl)) rfl ?_
            refine RunL.ok (OpOk.move rfl) rfl ?_
            refine RunL.on rfl rfl ?_
            refine RunL.ok (OpOk.move rfl) rfl ?_
            refine RunL.on rfl rfl ?_
            refine RunL.ok (OpOk.move rfl) rfl ?_
            refine RunL.on rfl rfl ?_
            refine RunL.ok (OpOk.idx1N rfl ti5 rfl rd.left.left rfl (by omega)) rfl ?_
            refine RunL.on rfl rfl ?_
            refine RunL.ok (OpOk.load rfl rfl rfl (Rd.getB rd.left.left (by omega))) rfl ?_
            refine RunL.on rfl rfl ?_
            refine RunL.ok (OpOk.as (c := false) (OpOk.neq rfl rfl) (by rw [decide_eq_true (by omega)]; rfl)) rfl ?_
            refine RunL.ok (OpOk.pickT rfl rfl) rfl ?_
            refine RunL.ok (OpOk.move rfl) rfl ?_
            refine RunL.on rfl rfl ?_
            refine RunL.ok (OpOk.move rfl) rfl ?_
            refine RunL.on rfl rfl ?_
            refine RunL.ok (OpOk.addN _ 5 rfl rfl rfl rfl (by omega)) rfl ?_
            refine RunL.on rfl rfl ?_
            refine RunL.ok (OpOk.move rfl) rfl ?_
            refine RunL.on rfl rfl ?_
            refine RunL.ok (OpOk.addN _ _ rfl rfl rfl rfl (by omega)) rfl ?_
            refine RunL.on rfl rfl ?_
            refine RunL.ok (OpOk.move rfl) rfl ?_
            refine RunL.on rfl rfl ?_
            refine RunL.ok (OpOk.lenR rfl rfl rd.left.left rfl) rfl ?_
            refine RunL.on rfl rfl ?_
            refine RunL.ok (OpOk.asF (OpOk.gtr rfl rfl) (by omega)) rfl ?_
            refine RunL.ok (OpOk.pickF rfl rfl) rfl ?_
            refine RunL.nil ?_
            refine Run.condF rfl ?_
            refine Run.skip ?_
            refine Run.seq ?_
            refine Run.region ?_
            refine RunL.ok (OpOk.move rfl) rfl ?_
            refine RunL.ok (OpOk.move rfl) rfl ?_
            refine RunL.ok (OpOk.move rfl) rfl ?_
            refine RunL.ok (OpOk.addN _ 3 rfl rfl rfl rfl (by omega)) rfl ?_
            refine RunL.ok (OpOk.move rfl) rfl ?_
            refine RunL.ok (OpOk.addN _ _ rfl rfl rfl rfl (by omega)) rfl ?_
            refine RunL.ok (OpOk.cut rfl ti5 rfl rd.left.left ⟨_, rfl⟩ ⟨_, rfl⟩ (by omega) (by omega)) rfl ?_
            refine RunL.call cal79 rfl (s79 rdS.left.left) rfl (fun vy2 Ay2 hy2 => ?_)
            obtain ⟨rfl, rfl⟩ := hy2
            refine RunL.ok (OpOk.assign rfl) rfl ?_
            refine RunL.nil ?_
            refine Run.seq ?_
            refine Run.seq ?_
            (apply Run.drawD [] (by rfl) (sep_emp _).symm; case hchk => kernel_rfl)
            refine Sd.quiet 0 _ _ rfl rfl rfl rfl rfl (QOp.ok (fun X => OpOk.move rfl)) ?_
            refine Sd.quiet 1 _ _ rfl rfl rfl rfl rfl (QOp.ok (fun X => OpOk.move rfl)) ?_
            refine Sd.quiet 2 _ _ rfl rfl rfl rfl rfl (QOp.ok (fun X => OpOk.move rfl)) ?_
            refine Sd.quiet 3 _ _ rfl rfl rfl rfl rfl (QOp.ok (fun X => OpOk.addN _ 3 rfl rfl rfl rfl (by omega))) ?_
            refine Sd.quiet 4 _ _ rfl rfl rfl rfl rfl (QOp.ok (fun X => OpOk.move rfl)) ?_
            refine Sd.quiet 5 _ _ rfl rfl rfl rfl rfl (QOp.ok (fun X => OpOk.addN _ _ rfl rfl rfl rfl (by omega))) ?_
            refine Sd.quiet 6 _ _ rfl rfl rfl rfl rfl (QOp.ok (fun X => OpOk.idx1N rfl ti5 rfl rd.left.left.left.left rfl (by omega))) ?_
            refine Sd.quiet 7 _ _ rfl rfl rfl rfl rfl (QOp.ok (fun X => OpOk.load rfl rfl rfl (Rd.getB rd.left.left.left.left (by omega)))) ?_
            refine Sd.quiet 8 _ _ rfl rfl rfl rfl rfl (QOp.ok (fun X => OpOk.convInt rfl rfl rfl (wrapI (by omega) (by omega)))) ?_
            refine Sd.quiet 9 _ _ rfl rfl rfl rfl rfl (QOp.ok (fun X => OpOk.mulN _ 256 rfl rfl rfl rfl (by omega))) ?_
            refine Sd.quiet 10 _ _ rfl rfl rfl rfl rfl (QOp.ok (fun X => OpOk.move rfl)) ?_
            refine Sd.quiet 11 _ _ rfl rfl rfl rfl rfl (QOp.ok (fun X => OpOk.move rfl)) ?_
            refine Sd.quiet 12 _ _ rfl rfl rfl rfl rfl (QOp.ok (fun X => OpOk.addN _ 4 rfl rfl rfl rfl (by omega))) ?_
            refine Sd.quiet 13 _ _ rfl rfl rfl rfl rfl (QOp.ok (fun X => OpOk.move rfl)) ?_
            refine Sd.quiet 14 _ _ rfl rfl rfl rfl rfl (QOp.ok (fun X => OpOk.addN _ _ rfl rfl rfl rfl (by omega))) ?_
            refine Sd.quiet 15 _ _ rfl rfl rfl rfl rfl (QOp.ok (fun X => OpOk.idx1N rfl ti5 rfl rd.left.left.left.left rfl (by omega))) ?_
            refine Sd.quiet 16 _ _ rfl rfl rfl rfl rfl (QOp.ok (fun X => OpOk.load rfl rfl rfl (Rd.getB rd.left.left.left.left (by omega)))) ?_
            refine Sd.quiet 17 _ _ rfl rfl rfl rfl rfl (QOp.ok (fun X => OpOk.convInt rfl rfl rfl (wrapI (by omega) (by omega)))) ?_
            refine Sd.quiet 18 _ _ rfl rfl rfl rfl rfl (QOp.ok (fun X => OpOk.addN _ _ rfl rfl rfl rfl (by omega))) ?_
            refine Sd.quiet 19 _ _ rfl rfl rfl rfl rfl (QOp.ok (fun X => OpOk.as (c := true) (OpOk.neq rfl rfl) (by rw [decide_eq_false (by omega)]; rfl))) ?_
            (apply Sd.tail; case hall => kernel_rfl)
            refine RunL.mem (fl2 (sep_emp _) (sep_emp _)) ?_
            refine RunL.nil ?_
            refine Run.condT rfl ?_
            refine Run.seq ?_
            refine Run.region ?_
            refine RunL.ok (OpOk.move rfl) rfl ?_
            refine RunL.ok (OpOk.move rfl) rfl ?_
            refine RunL.ok (OpOk.assign rfl) rfl ?_
            refine RunL.ok (OpOk.assign rfl) rfl ?_
            refine RunL.nil ?_
            refine Run.ret2 Try.func34 rfl rfl rfl ?_
            exact ⟨_, _, rfl, (congrArg (· * _) as1)⟩
        · rw [hsy]
          have h21 : ¬ (bs.getD a 0).toNat = 1 := fun e => h2 (.inl e)
          have h22 : ¬ (bs.getD a 0).toNat = 2 := fun e => h2 (.inr e)
          refine Run.seq ?_
          refine Run.seq ?_
          refine Run.region ?_
          refine RunL.ok (OpOk.move rfl) rfl ?_
          refine RunL.ok (OpOk.addN _ 5 rfl rfl rfl rfl (by omega)) rfl ?_
          refine RunL.ok (OpOk.move rfl) rfl ?_
          refine RunL.ok (OpOk.lenR rfl rfl rd.left.left rfl) rfl ?_
          refine RunL.ok (OpOk.asT (OpOk.leq rfl rfl) (by omega)) rfl ?_
          refine RunL.nil ?_
          refine Run.condT rfl ?_
          refine Run.skip ?_
          refine Run.block ?_
          refine Run.seq ?_
          refine Run.know (fun w s => (s.conv rfl).ownRd0) (fun rdy1 => ?_)
          (apply Run.drawD [] (by rfl) (sep_emp _).symm; case hchk => kernel_rfl)
          refine Sd.quiet 0 _ _ rfl rfl rfl rfl rfl (QOp.ok (fun X => OpOk.move rfl)) ?_
          refine Sd.quiet 1 _ _ rfl rfl rfl rfl rfl (QOp.ok (fun X => OpOk.move rfl)) ?_
          refine Sd.quiet 2 _ _ rfl rfl rfl rfl rfl (QOp.ok (fun X => OpOk.addN _ 1 rfl rfl rfl rfl (by omega))) ?_
          refine Sd.quiet 3 _ _ rfl rfl rfl rfl rfl (QOp.ok (fun X => OpOk.idx1N rfl ti5 rfl rd.left.left.left.left rfl (by omega))) ?_
          refine Sd.quiet 4 _ _ rfl rfl rfl rfl rfl (QOp.ok (fun X => OpOk.load rfl rfl rfl (Rd.getB rd.left.left.left.left (by omega)))) ?_
          refine Sd.quiet 5 _ _ rfl rfl rfl rfl rfl (QOp.ok (fun X => OpOk.convInt rfl rfl rfl (wrapI (by omega) (by omega)))) ?_
          refine Sd.quiet 6 _ _ rfl rfl rfl rfl rfl (QOp.ok (fun X => OpOk.mulN _ 256 rfl rfl rfl rfl (by omega))) ?_
          refine Sd.quiet 7 _ _ rfl rfl rfl rfl rfl (QOp.ok (fun X => OpOk.move rfl)) ?_
          refine Sd.quiet 8 _ _ rfl rfl rfl rfl rfl (QOp.ok (fun X => OpOk.move rfl)) ?_
          refine Sd.quiet 9 _ _ rfl rfl rfl rfl rfl (QOp.ok (fun X => OpOk.addN _ 2 rfl rfl rfl rfl (by omega))) ?_
          refine Sd.quiet 10 _ _ rfl rfl rfl rfl rfl (QOp.ok (fun X => OpOk.idx1N rfl ti5 rfl rd.left.left.left.left rfl (by omega))) ?_
          refine Sd.quiet 11 _ _ rfl rfl rfl rfl rfl (QOp.ok (fun X => OpOk.load rfl rfl rfl (Rd.getB rd.left.left.left.left (by omega)))) ?_
          refine Sd.quiet 12 _ _ rfl rfl rfl rfl rfl (QOp.ok (fun X => OpOk.convInt rfl rfl rfl (wrapI (by omega) (by omega)))) ?_
          refine Sd.quiet 13 _ _ rfl rfl rfl rfl rfl (QOp.ok (fun X => OpOk.addN _ _ rfl rfl rfl rfl (by omega))) ?_
          refine Sd.quiet 14 _ _ rfl rfl rfl rfl rfl (QOp.ok (fun X => OpOk.assign rfl)) ?_
          (apply Sd.tail; case hall => kernel_rfl)
          refine RunL.mem (fl2 (sep_emp _) (sep_emp _)) ?_
          refine RunL.nil ?_
          refine Run.seq ?_
          refine Run.seq ?_
          rw [rw_n]
          refine Run.region ?_
          refine RunL.ok (OpOk.move rfl) rfl ?_
          refine RunL.ok (OpOk.move rfl) rfl ?_
          refine RunL.ok (OpOk.idx1N rfl ti5 rfl rd.left.left rfl (by omega)) rfl ?_
          refine RunL.ok (OpOk.load rfl rfl rfl (Rd.getB rd.left.left (by omega))) rfl ?_
          refine RunL.ok (OpOk.as (c := true) (OpOk.neq rfl rfl) (by rw [decide_eq_false (by omega)]; rfl)) rfl ?_
          refine RunL.ok (OpOk.move rfl) rfl ?_
          refine RunL.on rfl rfl ?_
          refine RunL.ok (OpOk.move rfl) rfl ?_
          refine RunL.on rfl rfl ?_
          refine RunL.ok (OpOk.move rfl) rfl ?_
          refine RunL.on rfl rfl ?_
          refine RunL.ok (OpOk.idx1N rfl ti5 rfl rd.left.left rfl (by omega)) rfl ?_
          refine RunL.on rfl rfl ?_
          refine RunL.ok (OpOk.load rfl rfl rfl (Rd.getB rd.left.left (by omega))) rfl ?_
          refine RunL.on rfl rfl ?_
          refine RunL.ok (OpOk.as (c := true) (OpOk.neq rfl rfl) (by rw [decide_eq_false (by omega)]; rfl)) rfl ?_
          refine RunL.ok (OpOk.pickT rfl rfl) rfl ?_
          refine RunL.ok (OpOk.move rfl) rfl ?_
          refine RunL.off rfl rfl rfl rfl ?_
          refine RunL.off rfl rfl rfl rfl ?_
          refine RunL.off rfl rfl rfl rfl ?_
          refine RunL.off rfl rfl rfl rfl ?_
          refine RunL.off rfl rfl rfl rfl ?_
          refine RunL.off rfl rfl rfl rfl ?_
          refine RunL.off rfl rfl rfl rfl ?_
          refine RunL.ok (OpOk.pickT rfl rfl) rfl ?_
          refine RunL.nil ?_
          refine Run.condT rfl ?_
          refine Run.seq ?_
          refine Run.region ?_
          refine RunL.ok (OpOk.move rfl) rfl ?_
          refine RunL.ok (OpOk.move rfl) rfl ?_
          refine RunL.ok (OpOk.assign rfl) rfl ?_
          refine RunL.ok (OpOk.assign rfl) rfl ?_
          refine RunL.nil ?_
          refine Run.ret2 Try.func34 rfl rfl rfl ?_
          exact ⟨_, _, rfl, (congrArg (· * _) as1)⟩
end
end Go.Proofs.Yteopadjihklkmaa
