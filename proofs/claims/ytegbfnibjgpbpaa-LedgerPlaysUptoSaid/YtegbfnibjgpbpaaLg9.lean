/- Sums of balances; keys that come once; the document's Has. -/
import Derived.Test.YtegbfnibjgpbpaaLg7
namespace Go.Proofs.Ytegbfnibjgpbpaa
open Go Go.Proofs
set_option maxRecDepth 100000
set_option maxHeartbeats 4000000
set_option linter.unusedSimpArgs false
theorem wrap_mod (a : Int) : ∃ k : Int, IntKind.i64.wrap a = a + k * 18446744073709551616 ∧ -9223372036854775808 ≤ IntKind.i64.wrap a ∧ IntKind.i64.wrap a ≤ 9223372036854775807 := by
  have e : IntKind.i64.wrap a = if a % 18446744073709551616 ≥ 9223372036854775808 then a % 18446744073709551616 - 18446744073709551616 else a % 18446744073709551616 := by
    simp [IntKind.wrap, IntKind.bits, IntKind.signed]
  have h1 := Int.emod_nonneg a (show (18446744073709551616 : Int) ≠ 0 by decide)
  have h2 := Int.emod_lt_of_pos a (show (0 : Int) < 18446744073709551616 by decide)
  have h3 := Int.mul_ediv_add_emod a 18446744073709551616
  rw [e]
  split
  · exact ⟨-(a / 18446744073709551616) - 1, by omega, by omega, by omega⟩
  · exact ⟨-(a / 18446744073709551616), by omega, by omega, by omega⟩
/-- Sums that run round. -/
def sumW (l : List Int) : Int := l.foldl (fun s z => IntKind.i64.wrap (s + z)) 0
theorem sumW_next {l : List Int} {i : Nat} (h : i < l.length) : sumW (l.take (i + 1)) = IntKind.i64.wrap (sumW (l.take i) + l.getD i 0) := by
  rw [take_next h]
  unfold sumW
  rw [List.foldl_append]
  rfl
theorem foldW (l : List Int) : ∀ s : Int, ∃ k : Int, l.foldl (fun s z => IntKind.i64.wrap (s + z)) s = s + l.sum + k * 18446744073709551616 := by
  induction l with
  | nil => intro s; exact ⟨0, by simp⟩
  | cons z r ih =>
    intro s
    obtain ⟨k1, h1, _⟩ := wrap_mod (s + z)
    obtain ⟨k2, h2⟩ := ih (IntKind.i64.wrap (s + z))
    refine ⟨k1 + k2, ?_⟩
    rw [List.foldl_cons, h2, h1, List.sum_cons]
    omega
theorem foldW_in (l : List Int) : ∀ s : Int, inI s → inI (l.foldl (fun s z => IntKind.i64.wrap (s + z)) s) := by
  induction l with
  | nil => intro s h; exact h
  | cons z r ih =>
    intro s _
    obtain ⟨_, _, h⟩ := wrap_mod (s + z)
    exact ih _ h
theorem sumW_zero {l : List Int} (h : l.sum = 0) : sumW l = 0 := by
  obtain ⟨k, hk⟩ := foldW l 0
  have hi := foldW_in l 0 ⟨by decide, by decide⟩
  unfold sumW
  rw [h] at hk
  unfold inI at hi
  omega
theorem sum_set : ∀ {l : List Int} {k : Nat} {z : Int}, k < l.length → (l.set k z).sum = l.sum - l.getD k 0 + z
  | [], _, _, h => by simp at h
  | a :: r, 0, z, _ => by simp only [List.set_cons_zero, List.sum_cons, List.getD_cons_zero]; omega
  | a :: r, k + 1, z, h => by
    have := sum_set (l := r) (k := k) (z := z) (by simpa using h)
    simp only [List.set_cons_succ, List.sum_cons, List.getD_cons_succ, this]
    omega
theorem addsO_sum {n : Nat} : ∀ {l : List Sh} {bal b : List Int}, addsO bal l = some b → bal.length = n → (∀ s ∈ l, okS n s = true) → b.sum = bal.sum + (l.map Prod.snd).sum ∧ b.getD 0 0 = bal.getD 0 0
  | [], bal, b, h, _, _ => by cases h; simp
  | s :: r, bal, b, h, hl, hok => by
    simp only [addsO] at h
    split at h
    · obtain ⟨h1, h2⟩ := addsO_sum h (by rw [List.length_set]; exact hl) (fun q hq => hok q (by simp [hq]))
      have hs := hok s (by simp)
      simp only [okS, Bool.and_eq_true, decide_eq_true_eq] at hs
      rw [sum_set (by omega)] at h1
      refine ⟨by rw [h1, List.map_cons, List.sum_cons]; omega, ?_⟩
      rw [h2, List.getD_eq_getElem?_getD, List.getElem?_set_ne (by omega), ← List.getD_eq_getElem?_getD]
    · cases h
theorem right_sum {n : Nat} {p : Po} (h : rightB n p = true) : (p.2.2.2.map Prod.snd).sum = 0 ∧ ∀ s ∈ p.2.2.2, okS n s = true := by
  simp only [rightB, Bool.and_eq_true, decide_eq_true_eq] at h
  have := sumO_val h.2
  exact ⟨by omega, fun s hs => List.all_eq_true.1 h.1.2 s hs⟩
theorem postF_sum {n : Nat} {ks : List (Int × Int)} : ∀ {ps : List Po} {bal b : List Int} {fr : List (Int × Int)}, postF n ks bal fr ps = (0, b) → bal.length = n → b.sum = bal.sum ∧ b.getD 0 0 = bal.getD 0 0
  | [], bal, b, fr, h, _ => by cases h; exact ⟨rfl, rfl⟩
  | p :: r, bal, b, fr, h, hl => by
    simp only [postF] at h
    split at h
    · split at h
      · cases h
      · cases ha : addsO bal p.2.2.2 with
        | none => rw [ha] at h; cases h
        | some c =>
          rw [ha] at h
          have hr := right_sum (n := n) (p := p) ‹_›
          obtain ⟨h1, h2⟩ := addsO_sum ha hl hr.2
          obtain ⟨h3, h4⟩ := postF_sum h ((addsO_len ha).1.trans hl)
          exact ⟨by rw [h3, h1, hr.1]; omega, h4.trans h2⟩
    · cases h
theorem postF_keys {n : Nat} {ks : List (Int × Int)} : ∀ {ps : List Po} {bal b : List Int} {fr : List (Int × Int)}, postF n ks bal fr ps = (0, b) → (ks ++ fr).Nodup → (ks ++ (fr ++ ps.map keyP)).Nodup
  | [], bal, b, fr, h, hn => by simpa using hn
  | p :: r, bal, b, fr, h, hn => by
    simp only [postF] at h
    split at h
    · split at h
      · cases h
      · rename_i hk
        cases ha : addsO bal p.2.2.2 with
        | none => rw [ha] at h; cases h
        | some c =>
          rw [ha] at h
          have hn2 : (ks ++ (fr ++ [(p.1, p.2.1)])).Nodup := by
            rw [← List.append_assoc, List.nodup_append]
            refine ⟨hn, by simp, fun a ha b hb => ?_⟩
            simp only [List.mem_singleton] at hb
            subst hb
            intro e
            subst e
            exact hk (List.mem_append.1 ha)
          have := postF_keys h hn2
          rw [List.map_cons]
          simpa [keyP] using this
    · cases h
section
variable {w0 : World} {A : Asn} {p mb nb : Nat} {av pv : Value} {bal : List Int} {ks : List (Int × Int)} {L : List Po}
theorem s54 (hl : bal.length = nb) (hs : bal.sum = 0) (hnb : nb ≤ 5) : Spec Try.prog w0 54 [.pointer (some ⟨p, 0, none⟩)] (A * pts p (.cells #[av, .map (some mb), pv] 109 (0, 0)) * own 3 1 av nb (I (bal)) * setA mb (ks) * own 63 3 pv (L).length (Fl encT63 (L)) * ownsP (L)) (fun v' A' => v' = .int .i64 0 ∧ A' = A * pts p (.cells #[av, .map (some mb), pv] 109 (0, 0)) * own 3 1 av nb (I (bal)) * setA mb (ks) * own 63 3 pv (L).length (Fl encT63 (L)) * ownsP (L)) := by
  refine Spec.of_run [(0, .pointer (some ⟨p, 0, none⟩))] Try.func54 rfl (Nat.le_of_ble_eq_true rfl) (by repeat (first | exact trivial | refine ⟨rfl, ?_⟩)) ?_
  refine Run.seq ?_
  refine Run.region ?_
  refine RunL.ok (OpOk.assign rfl) rfl ?_
  refine RunL.nil ?_
  refine Run.seq ?_
  refine Run.region ?_
  refine RunL.ok (OpOk.assign rfl) rfl ?_
  refine RunL.nil ?_
  refine Run.seq ?_
  refine Run.seq ?_
  refine Run.region ?_
  refine RunL.ok (OpOk.move rfl) rfl ?_
  refine RunL.ok (OpOk.nilOk rfl) rfl ?_
  refine RunL.ok (OpOk.fieldAddr fld109_0 rfl) rfl ?_
  refine RunL.ok (OpOk.load rfl rfl rfl (Blk.out Blk.pts.left.left.left.left _ _ (by first | rfl | assumption))) rfl ?_
  refine RunL.know (fun w s => (s.conv (frl (frl (frl rfl)))).ownRd0) (fun rdx1 => ?_)
  refine RunL.ok (OpOk.lenR rfl rfl (Rd.right rdx1).left.left.left rfl) rfl ?_
  refine RunL.ok (OpOk.move rfl) rfl ?_
  refine RunL.nil ?_
  refine Run.block ?_
  refine Run.jump ((Run.loopJ (X := Nat) (fun i => [(11, .int .i64 (i : Int)), (10, .int .i64 (nb : Int)), (9, av), (3, .int .i64 (sumW (bal.take i)))]) (fun _ => A * pts p (.cells #[av, .map (some mb), pv] 109 (0, 0)) * own 3 1 av nb (I (bal)) * setA mb (ks) * own 63 3 pv (L).length (Fl encT63 (L)) * ownsP (L)) (fun i => i ≤ nb) (fun i => nb - i) 0 (Nat.zero_le _) (fun i hi ih => ?_))) ⟨rfl, rfl, rfl, rfl, trivial⟩ ((Grew.refl _))
  rcases Nat.lt_or_ge i nb with hlt | hge
  · have hw := sumW_next (l := bal) (i := i) (by omega)
    refine Run.seq ?_
    refine Run.region ?_
    refine RunL.ok (OpOk.asT (OpOk.lss rfl rfl) (by omega)) rfl ?_
    refine RunL.nil ?_
    refine Run.seq ?_
    refine Run.condT rfl ?_
    refine Run.skip ?_
    refine Run.seq ?_
    refine Run.block ?_
    refine Run.seq ?_
    refine Run.region ?_
    refine RunL.ok (OpOk.idx1N rfl ti3 rfl (Rd.right rdx1).left.left.left rfl (by omega)) rfl ?_
    refine RunL.ok (OpOk.load rfl rfl rfl (Rd.getI (Rd.right rdx1).left.left.left (by omega))) rfl ?_
    refine RunL.ok (OpOk.assign rfl) rfl ?_
    refine RunL.nil ?_
    refine Run.region ?_
    refine RunL.ok (OpOk.move rfl) rfl ?_
    refine RunL.ok (OpOk.move rfl) rfl ?_
    refine RunL.ok (OpOk.add rfl rfl rfl) rfl ?_
    refine RunL.ok (OpOk.assign rfl) rfl ?_
    refine RunL.nil ?_
    refine Run.inBlock ?_
    refine Run.region ?_
    refine RunL.ok (OpOk.addN _ 1 rfl rfl rfl rfl (by omega)) rfl ?_
    refine RunL.ok (OpOk.move rfl) rfl ?_
    refine RunL.nil ?_
    rw [← hw]
    refine Run.jump ((ih (i + 1) (by omega) (by omega))) ⟨rfl, rfl, rfl, rfl, trivial⟩ ((Grew.refl _))
  · obtain rfl : i = nb := by omega
    clear ih
    rw [List.take_of_length_le (by omega), sumW_zero hs]
    refine Run.seq ?_
    refine Run.region ?_
    refine RunL.ok (OpOk.asF (OpOk.lss rfl rfl) (by omega)) rfl ?_
    refine RunL.nil ?_
    refine Run.seq ?_
    refine Run.condF rfl ?_
    refine Run.exit rfl ?_
    refine Run.seq ?_
    refine Run.region ?_
    refine RunL.ok (OpOk.move rfl) rfl ?_
    refine RunL.ok (OpOk.assign rfl) rfl ?_
    refine RunL.nil ?_
    refine Run.ret1 Try.func54 rfl rfl ?_
    exact ⟨rfl, rfl⟩
theorem s56 {u : Value} {m : Nat} {op seq : Int} {l : List Po} (rd : Rd w0 A u 3 m (Fl encT63 l)) : Spec Try.prog w0 56 [u, .int .i64 op, .int .i64 seq] A (fun v' A' => v' = .bool (decide ((op, seq) ∈ l.map keyP)) ∧ A' = A) := by
  have hl0 := rd.lenFl (fun _ => rfl) (by decide)
  subst hl0
  have hmx := rd.max
  refine Spec.of_run [(0, u), (1, .int .i64 op), (2, .int .i64 seq)] Try.func56 rfl (Nat.le_of_ble_eq_true rfl) (by repeat (first | exact trivial | refine ⟨rfl, ?_⟩)) ?_
  refine Run.seq ?_
  refine Run.region ?_
  refine RunL.ok (OpOk.assign rfl) rfl ?_
  refine RunL.nil ?_
  refine Run.seq ?_
  refine Run.seq ?_
  refine Run.region ?_
  refine RunL.ok (OpOk.assign rfl) rfl ?_
  refine RunL.nil ?_
  refine Run.block ?_
  refine Run.jump ((Run.loopJ (X := Nat) (fun i => [(7, .int .i64 (i : Int)), (0, u), (1, .int .i64 op), (2, .int .i64 seq)]) (fun _ => A) (fun i => i ≤ l.length ∧ (op, seq) ∉ (l.take i).map keyP) (fun i => l.length - i) 0 ⟨Nat.zero_le _, by simp⟩ (fun i hi ih => ?_))) ⟨rfl, rfl, rfl, rfl, trivial⟩ ((Grew.refl _))
  obtain ⟨hi, hn⟩ := hi
  rcases Nat.lt_or_ge i l.length with hlt | hge
  · rcases Decidable.em ((l.getD i default).1 = op ∧ (l.getD i default).2.1 = seq) with hc | hc
    · have hin : (op, seq) ∈ l.map keyP := List.mem_map.2 ⟨_, getD_mem hlt, by rw [keyP, hc.1, hc.2]⟩
      rw [decide_eq_true hin]
      obtain ⟨hc1, hc2⟩ := hc
      refine Run.seq ?_
      refine Run.seq ?_
      refine Run.region ?_
      refine RunL.ok (OpOk.move rfl) rfl ?_
      refine RunL.ok (OpOk.move rfl) rfl ?_
      refine RunL.ok (OpOk.lenR rfl rfl rd rfl) rfl ?_
      refine RunL.ok (OpOk.asT (OpOk.lss rfl rfl) (by omega)) rfl ?_
      refine RunL.nil ?_
      refine Run.condT rfl ?_
      refine Run.skip ?_
      refine Run.seq ?_
      refine Run.block ?_
      refine Run.seq ?_
      refine Run.region ?_
      refine RunL.ok (OpOk.move rfl) rfl ?_
      refine RunL.ok (OpOk.move rfl) rfl ?_
      refine RunL.ok (OpOk.idxN rfl ti63 rfl rd rfl (by omega)) rfl ?_
      refine RunL.ok (OpOk.fieldAddrA fld63_0 rfl) rfl ?_
      refine RunL.ok (OpOk.loadFl1 default rfl rfl rfl rd (fun _ => rfl) rfl (by omega) rfl) rfl ?_
      refine RunL.ok (OpOk.move rfl) rfl ?_
      refine RunL.ok (OpOk.asT (OpOk.eql rfl rfl) (by omega)) rfl ?_
      refine RunL.ok (OpOk.move rfl) rfl ?_
      refine RunL.on rfl rfl ?_
      refine RunL.ok (OpOk.move rfl) rfl ?_
      refine RunL.on rfl rfl ?_
      refine RunL.ok (OpOk.move rfl) rfl ?_
      refine RunL.on rfl rfl ?_
      refine RunL.ok (OpOk.idxN rfl ti63 rfl rd rfl (by omega)) rfl ?_
      refine RunL.on rfl rfl ?_
      refine RunL.ok (OpOk.fieldAddrA fld63_1 rfl) rfl ?_
      refine RunL.on rfl rfl ?_
      refine RunL.ok (OpOk.loadFl1 default rfl rfl rfl rd (fun _ => rfl) rfl (by omega) rfl) rfl ?_
      refine RunL.on rfl rfl ?_
      refine RunL.ok (OpOk.move rfl) rfl ?_
      refine RunL.on rfl rfl ?_
      refine RunL.ok (OpOk.asT (OpOk.eql rfl rfl) (by omega)) rfl ?_
      refine RunL.ok (OpOk.pickT rfl rfl) rfl ?_
      refine RunL.nil ?_
      refine Run.condT rfl ?_
      refine Run.seq ?_
      refine Run.region ?_
      refine RunL.ok (OpOk.assign rfl) rfl ?_
      refine RunL.nil ?_
      refine Run.ret1 Try.func56 rfl rfl ?_
      exact ⟨rfl, rfl⟩
    · have hn2 : (op, seq) ∉ (l.take (i + 1)).map keyP := by
        rw [take_next hlt, List.map_append, List.mem_append, not_or]
        refine ⟨hn, fun h => hc ?_⟩
        simp only [List.map_cons, List.map_nil, List.mem_singleton, keyP, Prod.mk.injEq] at h
        exact ⟨h.1.symm, h.2.symm⟩
      refine Run.seq ?_
      refine Run.seq ?_
      refine Run.region ?_
      refine RunL.ok (OpOk.move rfl) rfl ?_
      refine RunL.ok (OpOk.move rfl) rfl ?_
      refine RunL.ok (OpOk.lenR rfl rfl rd rfl) rfl ?_
      refine RunL.ok (OpOk.asT (OpOk.lss rfl rfl) (by omega)) rfl ?_
      refine RunL.nil ?_
      refine Run.condT rfl ?_
      refine Run.skip ?_
      refine Run.seq ?_
      refine Run.block ?_
      refine Run.seq ?_
      refine Run.region ?_
      refine RunL.ok (OpOk.move rfl) rfl ?_
      refine RunL.ok (OpOk.move rfl) rfl ?_
      refine RunL.ok (OpOk.idxN rfl ti63 rfl rd rfl (by omega)) rfl ?_
      refine RunL.ok (OpOk.fieldAddrA fld63_0 rfl) rfl ?_
      refine RunL.ok (OpOk.loadFl1 default rfl rfl rfl rd (fun _ => rfl) rfl (by omega) rfl) rfl ?_
      refine RunL.ok (OpOk.move rfl) rfl ?_
      refine RunL.ok (OpOk.eql rfl rfl) rfl ?_
      refine RunL.ok (OpOk.move rfl) rfl ?_
      refine RunL.splitD (t := 21) rfl (fun y1 => ?_) (fun y1 => ?_)
      · refine RunL.on rfl rfl ?_
        refine RunL.ok (OpOk.move rfl) rfl ?_
        refine RunL.on rfl rfl ?_
        refine RunL.ok (OpOk.move rfl) rfl ?_
        refine RunL.on rfl rfl ?_
        refine RunL.ok (OpOk.idxN rfl ti63 rfl rd rfl (by omega)) rfl ?_
        refine RunL.on rfl rfl ?_
        refine RunL.ok (OpOk.fieldAddrA fld63_1 rfl) rfl ?_
        refine RunL.on rfl rfl ?_
        refine RunL.ok (OpOk.loadFl1 default rfl rfl rfl rd (fun _ => rfl) rfl (by omega) rfl) rfl ?_
        refine RunL.on rfl rfl ?_
        refine RunL.ok (OpOk.move rfl) rfl ?_
        refine RunL.on rfl rfl ?_
        refine RunL.ok (OpOk.asF (OpOk.eql rfl rfl) (by omega)) rfl ?_
        refine RunL.ok (OpOk.pickT rfl rfl) rfl ?_
        refine RunL.nil ?_
        refine Run.condF rfl ?_
        refine Run.skip ?_
        refine Run.inBlock ?_
        refine Run.region ?_
        refine RunL.ok (OpOk.move rfl) rfl ?_
        refine RunL.ok (OpOk.addN _ 1 rfl rfl rfl rfl (by omega)) rfl ?_
        refine RunL.ok (OpOk.assign rfl) rfl ?_
        refine RunL.nil ?_
        first | exact absurd ⟨by assumption, by assumption⟩ hc | skip
        refine Run.jump ((ih (i + 1) ⟨by omega, hn2⟩ (by omega))) ⟨rfl, rfl, rfl, rfl, trivial⟩ ((Grew.refl _))
      refine RunL.off rfl rfl rfl rfl ?_
      refine RunL.off rfl rfl rfl rfl ?_
      refine RunL.off rfl rfl rfl rfl ?_
      refine RunL.off rfl rfl rfl rfl ?_
      refine RunL.off rfl rfl rfl rfl ?_
      refine RunL.off rfl rfl rfl rfl ?_
      refine RunL.off rfl rfl rfl rfl ?_
      refine RunL.ok (OpOk.pickF rfl rfl) rfl ?_
      refine RunL.nil ?_
      refine Run.condF rfl ?_
      refine Run.skip ?_
      refine Run.inBlock ?_
      refine Run.region ?_
      refine RunL.ok (OpOk.move rfl) rfl ?_
      refine RunL.ok (OpOk.addN _ 1 rfl rfl rfl rfl (by omega)) rfl ?_
      refine RunL.ok (OpOk.assign rfl) rfl ?_
      refine RunL.nil ?_
      first | exact absurd ⟨by assumption, by assumption⟩ hc | skip
      refine Run.jump ((ih (i + 1) ⟨by omega, hn2⟩ (by omega))) ⟨rfl, rfl, rfl, rfl, trivial⟩ ((Grew.refl _))
  · obtain rfl : i = l.length := by omega
    clear ih
    rw [List.take_length] at hn
    rw [decide_eq_false hn]
    refine Run.seq ?_
    refine Run.seq ?_
    refine Run.region ?_
    refine RunL.ok (OpOk.move rfl) rfl ?_
    refine RunL.ok (OpOk.move rfl) rfl ?_
    refine RunL.ok (OpOk.lenR rfl rfl rd rfl) rfl ?_
    refine RunL.ok (OpOk.asF (OpOk.lss rfl rfl) (by omega)) rfl ?_
    refine RunL.nil ?_
    refine Run.condF rfl ?_
    refine Run.exit rfl ?_
    refine Run.seq ?_
    refine Run.region ?_
    refine RunL.ok (OpOk.assign rfl) rfl ?_
    refine RunL.nil ?_
    refine Run.ret1 Try.func56 rfl rfl ?_
    exact ⟨rfl, rfl⟩
end
end Go.Proofs.Ytegbfnibjgpbpaa
