/- Missing: lists of journeys. -/
import Derived.Test.YteopadjihklkmaaAuX
namespace Go.Proofs.Yteopadjihklkmaa
open Go Go.Proofs
set_option maxRecDepth 100000
set_option maxHeartbeats 4000000
set_option linter.unusedSimpArgs false
def keyJ (j : Jn) : Int × Int := (j.1, j.2.1)
def isThere (ks : List (Int × Int)) (j : Jn) : Bool := decide ((j.1, j.2.1) ∈ ks)
def missF (ks : List (Int × Int)) (js : List Jn) : List Jn := js.filter fun j => !isThere ks j
theorem missF_next {ks : List (Int × Int)} {js : List Jn} {i : Nat} (h : i < js.length) : missF ks (js.take (i + 1)) = missF ks (js.take i) ++ if isThere ks (js.getD i default) = true then [] else [js.getD i default] := by
  rw [missF, take_next h, List.filter_append, missF]
  congr 1
  rw [List.filter_cons]
  cases isThere ks (js.getD i default) <;> rfl
theorem missF_none {ks : List (Int × Int)} {js : List Jn} (h : ∀ j ∈ js, isThere ks j = false) : missF ks js = js := by
  rw [missF, List.filter_eq_self]
  intro j hj
  rw [h j hj]; rfl
theorem missF_len (ks : List (Int × Int)) (js : List Jn) : (missF ks js).length ≤ js.length := List.length_filter_le _ _
theorem first_there (ks : List (Int × Int)) (js : List Jn) : (∀ j ∈ js, isThere ks j = false) ∨ ∃ i, i < js.length ∧ isThere ks (js.getD i default) = true ∧ ∀ q, q < i → isThere ks (js.getD q default) = false := by
  induction js with
  | nil => exact .inl fun j hj => by cases hj
  | cons a r ih =>
    cases h : isThere ks a with
    | true => exact .inr ⟨0, by simp, h, fun q hq => by omega⟩
    | false =>
      rcases ih with ih | ⟨i, h1, h2, h3⟩
      · left
        intro j hj
        rcases List.mem_cons.1 hj with rfl | hj
        · exact h
        · exact ih j hj
      · right
        refine ⟨i + 1, by simpa using h1, h2, fun q hq => ?_⟩
        cases q with
        | zero => exact h
        | succ q => exact h3 q (by omega)
theorem missF_before {ks : List (Int × Int)} {js : List Jn} : ∀ {i : Nat}, i ≤ js.length → (∀ q, q < i → isThere ks (js.getD q default) = false) → missF ks (js.take i) = js.take i
  | 0, _, _ => by simp [missF]
  | i + 1, hi, h => by
    rw [missF_next (by omega), missF_before (by omega) (fun q hq => h q (by omega)), h i (by omega), if_neg (by decide), ← take_next (by omega)]
theorem Run.openOwn {P : Program} {fid : Fid} {n : Nat} {R : Ending → World → Prop} {w0 : World} {k : List Item} {E : Env} {A : Asn} {v : Value} {e size m : Nat} {xs : List Value} (hm : 0 < m)
    (h : ∀ (g cap : Nat) (cs : List Value), v = .slice (some ⟨g, 0, none⟩) m cap → m ≤ cap → cap ≤ maxLen → cs.length = cap * size → cs.take (m * size) = xs → Run P fid n R w0 k E (A * pts g (.cells cs.toArray e (0, 0)))) : Run P fid n R w0 k E (A * own e size v m xs) := by
  refine ⟨fun a w he hs => ?_⟩
  rcases hs.ownForm with ⟨_, h2, _⟩ | ⟨g, cap, cur, hv, h2, h3, h4, h5, s⟩
  · omega
  · exact (h g cap cur.toList hv h2 h3 (by simpa using h4) h5).out a w he (by simpa using s)
section
variable {w0 : World} {A : Asn} {b0 mb : Nat} {ks : List (Int × Int)}
abbrev CL (b0 mb : Nat) : Asn := pts b0 (.cells #[.map (some mb)] 137 (0, 0))
theorem s69 {j : Jn} (hj : j.1 = j.1) : Spec Try.prog w0 69 [.agg (encT47 j).toArray, .pointer (some ⟨b0, 0, none⟩)] (A * pts b0 (.cells #[.map (some mb)] 137 (0, 0)) * setA mb ks) (fun v' A' => ∃ J, v' = .bool (isThere ks j) ∧ A' = A * J * pts b0 (.cells #[.map (some mb)] 137 (0, 0)) * setA mb ks) := by
  have _ := hj
  have hone : ∀ w ∈ (Value.agg (encT47 j).toArray).cells.toList, w.oneCell' = true := fun w hw => OneC.one (enc := encT47) _ w hw
  refine Spec.of_run [(0, .agg (encT47 j).toArray), (1, .pointer (some ⟨b0, 0, none⟩))] Try.func69 rfl (Nat.le_of_ble_eq_true rfl) (by repeat (first | exact trivial | refine ⟨rfl, ?_⟩)) ?_
  refine Run.seq ?_
  refine Run.region ?_
  refine RunL.box rfl rfl (fun bx1 => ?_)
  refine RunL.ok (OpOk.assign rfl) rfl ?_
  refine RunL.nil ?_
  refine Run.seq ?_
  refine Run.region ?_
  refine RunL.ok (OpOk.load rfl rfl rfl (Blk.out Blk.pts.left.left _ _ (by first | rfl | assumption))) rfl ?_
  refine RunL.ok (OpOk.fieldAddr fld47_0 rfl) rfl ?_
  refine RunL.ok (OpOk.load rfl rfl rfl (Blk.out Blk.pts _ _ (by first | rfl | assumption))) rfl ?_
  refine RunL.ok (OpOk.fieldAddr fld47_1 rfl) rfl ?_
  refine RunL.ok (OpOk.load rfl rfl rfl (Blk.out Blk.pts _ _ (by first | rfl | assumption))) rfl ?_
  refine RunL.ok (OpOk.build (cells := #[.int (IntKind.i64) (j.fst), .int (IntKind.i64) (j.snd.fst)]) rfl (fun w => run_build w 139 _ _ (by rfl))) rfl ?_
  refine RunL.ok (OpOk.lookS setT137 SetAt.here.left rfl rfl) rfl ?_
  refine RunL.ok (OpOk.assign rfl) rfl ?_
  refine RunL.nil ?_
  refine Run.ret1 Try.func69 rfl rfl ?_
  exact ⟨_, rfl, (Eq.trans (frc (frl rfl) (frc (frl rfl) rfl)) (congrArg (· * _) (congrArg (· * _) as1)))⟩
theorem s68 {v : Value} {m : Nat} {l : List Jn} (rd : Rd w0 A v 10 m (Fl encT47 l)) (hm : m ≤ 1048576) :
    Spec Try.prog w0 68 [v] A (fun v' A' => A' = A * own 47 10 v' m (Fl encT47 l)) := by
  obtain ⟨ad, cap, rfl, hcap, ha⟩ := rd.form
  refine Spec.of_run [(0, .slice ad m cap)] Try.func68 rfl (Nat.le_of_ble_eq_true rfl) (by repeat (first | exact trivial | refine ⟨rfl, ?_⟩)) ?_
  cases ad with
  | none =>
    have hm0 : m = 0 := by
      rcases Nat.eq_zero_or_pos m with e | e
      · exact e
      · cases ha e
    subst hm0
    have hb : l = [] := List.eq_nil_of_length_eq_zero (rd.lenFl (fun _ => rfl) (by decide))
    subst hb
    refine Run.seq ?_
    refine Run.region ?_
    refine RunL.ok (OpOk.assign rfl) rfl ?_
    refine RunL.nil ?_
    refine Run.seq ?_
    refine Run.seq ?_
    refine Run.region ?_
    refine RunL.ok (OpOk.move rfl) rfl ?_
    refine RunL.ok (OpOk.eqlNil rfl rfl) rfl ?_
    refine RunL.nil ?_
    refine Run.condT rfl ?_
    refine Run.seq ?_
    refine Run.region ?_
    refine RunL.ok (OpOk.assign rfl) rfl ?_
    refine RunL.nil ?_
    refine Run.ent (Ent.ownNil' _ 47 10 (Fl encT47 []) rfl) ?_
    refine Run.ret1 Try.func68 rfl rfl ?_
    exact rfl
  | some a =>
    refine Run.seq ?_
    refine Run.region ?_
    refine RunL.ok (OpOk.assign rfl) rfl ?_
    refine RunL.nil ?_
    refine Run.seq ?_
    refine Run.seq ?_
    refine Run.region ?_
    refine RunL.ok (OpOk.move rfl) rfl ?_
    refine RunL.ok (OpOk.eqlNil rfl rfl) rfl ?_
    refine RunL.nil ?_
    refine Run.condF rfl ?_
    refine Run.skip ?_
    refine Run.seq ?_
    refine Run.region ?_
    refine RunL.lit0 rfl ti47 rfl (fun vy1 rdy1 => ?_)
    refine RunL.ok (OpOk.move rfl) rfl ?_
    refine RunL.appendF0 rfl ti47 rfl rfl rfl rfl rd.left rfl (by decide) (by omega) (by simp only [maxLen]; omega) rfl (fun vy2 rdy2 => ?_)
    refine RunL.ok (OpOk.assign rfl) rfl ?_
    refine RunL.nil ?_
    refine Run.ret1 Try.func68 rfl rfl ?_
    exact rfl
theorem s105a {v : Value} {m : Nat} {js : List Jn} (rd : Rd w0 A v 10 m (Fl encT47 js)) (h : ∀ j ∈ js, isThere ks j = false) :
    Spec Try.prog w0 105 [v, .func (.func 69) #[] #[.pointer (some ⟨b0, 0, none⟩)]] (A * pts b0 (.cells #[.map (some mb)] 137 (0, 0)) * setA mb ks) (fun v' A' => ∃ J, v' = .int .i64 (-1) ∧ A' = A * J * pts b0 (.cells #[.map (some mb)] 137 (0, 0)) * setA mb ks) := by
  have hl0 := rd.lenFl (fun _ => rfl) (by decide)
  subst hl0
  have hmx := rd.max
  refine Spec.of_run [(0, v), (1, .func (.func 69) #[] #[.pointer (some ⟨b0, 0, none⟩)])] Try.func105 rfl (Nat.le_of_ble_eq_true rfl) (by repeat (first | exact trivial | refine ⟨rfl, ?_⟩)) ?_
  refine Run.seq ?_
  refine Run.region ?_
  refine RunL.ok (OpOk.assign rfl) rfl ?_
  refine RunL.nil ?_
  refine Run.seq ?_
  refine Run.seq ?_
  refine Run.region ?_
  refine RunL.ok (OpOk.move rfl) rfl ?_
  refine RunL.ok (OpOk.lenR rfl rfl rd.left.left rfl) rfl ?_
  refine RunL.ok (OpOk.move rfl) rfl ?_
  refine RunL.nil ?_
  refine Run.block ?_
  refine Run.jump ((Run.loopJ (X := Nat × Asn) (fun x => [(8, .int .i64 (x.1 : Int)), (7, .int .i64 (js.length : Int)), (6, v), (0, v), (1, .func (.func 69) #[] #[.pointer (some ⟨b0, 0, none⟩)])]) (fun x => A * x.2 * pts b0 (.cells #[.map (some mb)] 137 (0, 0)) * setA mb ks) (fun x => x.1 ≤ js.length) (fun x => js.length - x.1) (0, _) (Nat.zero_le _) (fun x hx ih => ?_))) ⟨rfl, rfl, rfl, rfl, rfl, trivial⟩ (Grew.of (congrArg (· * _) (congrArg (· * _) as0)) (Grew.refl _))
  obtain ⟨i, J⟩ := x
  simp only at hx ih ⊢
  rcases Nat.lt_or_ge i js.length with hlt | hge
  · have hf := h _ (getD_mem hlt)
    refine Run.seq ?_
    refine Run.region ?_
    refine RunL.ok (OpOk.asT (OpOk.lss rfl rfl) (by omega)) rfl ?_
    refine RunL.nil ?_
    refine Run.seq ?_
    refine Run.condT rfl ?_
    refine Run.skip ?_
    refine Run.seq ?_
    refine Run.block ?_
    refine Run.seq ?_
    refine Run.region ?_
    refine RunL.ok (OpOk.move rfl) rfl ?_
    refine RunL.ok (OpOk.assign rfl) rfl ?_
    refine RunL.nil ?_
    refine Run.seq ?_
    refine Run.region ?_
    refine RunL.ok (OpOk.move rfl) rfl ?_
    refine RunL.ok (OpOk.move rfl) rfl ?_
    refine RunL.ok (OpOk.move rfl) rfl ?_
    refine RunL.ok (OpOk.idxN rfl ti47 rfl rd.left.left.left rfl (by omega)) rfl ?_
    refine RunL.ok (OpOk.loadFl default rfl rfl ti47 rfl rd.left.left.left (fun _ => rfl) rfl (by omega)) rfl ?_
    refine RunL.callV cal69 rfl rfl (Spec.mem (by ac_rfl) (s69 (A := A * J) (b0 := b0) (mb := mb) (ks := ks) (j := js.getD i default) rfl)) rfl (fun u A' h2 => ?_)
    obtain ⟨J2, rfl, rfl⟩ := h2
    rw [hf]
    refine RunL.nil ?_
    refine Run.condF rfl ?_
    refine Run.skip ?_
    refine Run.inBlock ?_
    refine Run.region ?_
    refine RunL.ok (OpOk.addN _ 1 rfl rfl rfl rfl (by omega)) rfl ?_
    refine RunL.ok (OpOk.move rfl) rfl ?_
    refine RunL.nil ?_
    refine Run.jump ((ih (i + 1, _) (by dsimp only; omega) (by dsimp only; omega))) ⟨rfl, rfl, rfl, rfl, rfl, trivial⟩ (Grew.of (congrArg (· * _) (congrArg (· * _) (asg as1))) (Grew.refl _))
  · obtain rfl : i = js.length := by omega
    clear ih
    refine Run.seq ?_
    refine Run.region ?_
    refine RunL.ok (OpOk.asF (OpOk.lss rfl rfl) (by omega)) rfl ?_
    refine RunL.nil ?_
    refine Run.seq ?_
    refine Run.condF rfl ?_
    refine Run.exit rfl ?_
    refine Run.seq ?_
    refine Run.region ?_
    refine RunL.ok (OpOk.assign rfl) rfl ?_
    refine RunL.nil ?_
    refine Run.ret1 Try.func105 rfl rfl ?_
    exact ⟨_, rfl, (congrArg (· * _) (congrArg (· * _) as1))⟩
theorem s105b {v : Value} {m k : Nat} {js : List Jn} (rd : Rd w0 A v 10 m (Fl encT47 js)) (hk : k < js.length) (ht : isThere ks (js.getD k default) = true) (h : ∀ q, q < k → isThere ks (js.getD q default) = false) :
    Spec Try.prog w0 105 [v, .func (.func 69) #[] #[.pointer (some ⟨b0, 0, none⟩)]] (A * pts b0 (.cells #[.map (some mb)] 137 (0, 0)) * setA mb ks) (fun v' A' => ∃ J, v' = .int .i64 (k : Int) ∧ A' = A * J * pts b0 (.cells #[.map (some mb)] 137 (0, 0)) * setA mb ks) := by
  have hl0 := rd.lenFl (fun _ => rfl) (by decide)
  subst hl0
  have hmx := rd.max
  refine Spec.of_run [(0, v), (1, .func (.func 69) #[] #[.pointer (some ⟨b0, 0, none⟩)])] Try.func105 rfl (Nat.le_of_ble_eq_true rfl) (by repeat (first | exact trivial | refine ⟨rfl, ?_⟩)) ?_
  refine Run.seq ?_
  refine Run.region ?_
  refine RunL.ok (OpOk.assign rfl) rfl ?_
  refine RunL.nil ?_
  refine Run.seq ?_
  refine Run.seq ?_
  refine Run.region ?_
  refine RunL.ok (OpOk.move rfl) rfl ?_
  refine RunL.ok (OpOk.lenR rfl rfl rd.left.left rfl) rfl ?_
  refine RunL.ok (OpOk.move rfl) rfl ?_
  refine RunL.nil ?_
  refine Run.block ?_
  refine Run.jump ((Run.loopJ (X := Nat × Asn) (fun x => [(8, .int .i64 (x.1 : Int)), (7, .int .i64 (js.length : Int)), (6, v), (0, v), (1, .func (.func 69) #[] #[.pointer (some ⟨b0, 0, none⟩)])]) (fun x => A * x.2 * pts b0 (.cells #[.map (some mb)] 137 (0, 0)) * setA mb ks) (fun x => x.1 ≤ k) (fun x => js.length - x.1) (0, _) (Nat.zero_le _) (fun x hx ih => ?_))) ⟨rfl, rfl, rfl, rfl, rfl, trivial⟩ (Grew.of (congrArg (· * _) (congrArg (· * _) as0)) (Grew.refl _))
  obtain ⟨i, J⟩ := x
  simp only at hx ih ⊢
  have hlt : i < js.length := by omega
  rcases Nat.lt_or_ge i k with hik | hik
  · have hf := h i hik
    refine Run.seq ?_
    refine Run.region ?_
    refine RunL.ok (OpOk.asT (OpOk.lss rfl rfl) (by omega)) rfl ?_
    refine RunL.nil ?_
    refine Run.seq ?_
    refine Run.condT rfl ?_
    refine Run.skip ?_
    refine Run.seq ?_
    refine Run.block ?_
    refine Run.seq ?_
    refine Run.region ?_
    refine RunL.ok (OpOk.move rfl) rfl ?_
    refine RunL.ok (OpOk.assign rfl) rfl ?_
    refine RunL.nil ?_
    refine Run.seq ?_
    refine Run.region ?_
    refine RunL.ok (OpOk.move rfl) rfl ?_
    refine RunL.ok (OpOk.move rfl) rfl ?_
    refine RunL.ok (OpOk.move rfl) rfl ?_
    refine RunL.ok (OpOk.idxN rfl ti47 rfl rd.left.left.left rfl (by omega)) rfl ?_
    refine RunL.ok (OpOk.loadFl default rfl rfl ti47 rfl rd.left.left.left (fun _ => rfl) rfl (by omega)) rfl ?_
    refine RunL.callV cal69 rfl rfl (Spec.mem (by ac_rfl) (s69 (A := A * J) (b0 := b0) (mb := mb) (ks := ks) (j := js.getD i default) rfl)) rfl (fun u A' h2 => ?_)
    obtain ⟨J2, rfl, rfl⟩ := h2
    rw [hf]
    refine RunL.nil ?_
    refine Run.condF rfl ?_
    refine Run.skip ?_
    refine Run.inBlock ?_
    refine Run.region ?_
    refine RunL.ok (OpOk.addN _ 1 rfl rfl rfl rfl (by omega)) rfl ?_
    refine RunL.ok (OpOk.move rfl) rfl ?_
    refine RunL.nil ?_
    refine Run.jump ((ih (i + 1, _) (by dsimp only; omega) (by dsimp only; omega))) ⟨rfl, rfl, rfl, rfl, rfl, trivial⟩ (Grew.of (congrArg (· * _) (congrArg (· * _) (asg as1))) (Grew.refl _))
  · obtain rfl : i = k := by omega
    clear ih
    refine Run.seq ?_
    refine Run.region ?_
    refine RunL.ok (OpOk.asT (OpOk.lss rfl rfl) (by omega)) rfl ?_
    refine RunL.nil ?_
    refine Run.seq ?_
    refine Run.condT rfl ?_
    refine Run.skip ?_
    refine Run.seq ?_
    refine Run.block ?_
    refine Run.seq ?_
    refine Run.region ?_
    refine RunL.ok (OpOk.move rfl) rfl ?_
    refine RunL.ok (OpOk.assign rfl) rfl ?_
    refine RunL.nil ?_
    refine Run.seq ?_
    refine Run.region ?_
    refine RunL.ok (OpOk.move rfl) rfl ?_
    refine RunL.ok (OpOk.move rfl) rfl ?_
    refine RunL.ok (OpOk.move rfl) rfl ?_
    refine RunL.ok (OpOk.idxN rfl ti47 rfl rd.left.left.left rfl (by omega)) rfl ?_
    refine RunL.ok (OpOk.loadFl default rfl rfl ti47 rfl rd.left.left.left (fun _ => rfl) rfl (by omega)) rfl ?_
    refine RunL.callV cal69 rfl rfl (Spec.mem (by ac_rfl) (s69 (A := A * J) (b0 := b0) (mb := mb) (ks := ks) (j := js.getD i default) rfl)) rfl (fun u A' h2 => ?_)
    obtain ⟨J2, rfl, rfl⟩ := h2
    rw [ht]
    refine RunL.nil ?_
    refine Run.condT rfl ?_
    refine Run.seq ?_
    refine Run.region ?_
    refine RunL.ok (OpOk.move rfl) rfl ?_
    refine RunL.ok (OpOk.assign rfl) rfl ?_
    refine RunL.nil ?_
    refine Run.ret1 Try.func105 rfl rfl ?_
    exact ⟨_, rfl, (congrArg (· * _) (congrArg (· * _) (asg as1)))⟩
end
end Go.Proofs.Yteopadjihklkmaa
