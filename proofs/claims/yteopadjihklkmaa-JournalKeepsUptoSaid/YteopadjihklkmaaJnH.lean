/- What a journal tells, compared with rows. -/
import Derived.Test.YteopadjihklkmaaJnG
namespace Go.Proofs.Yteopadjihklkmaa
open Go Go.Proofs
set_option maxRecDepth 100000
set_option maxHeartbeats 4000000
set_option linter.unusedSimpArgs false
def snapI : Nat → List Th → Int → Int
  | _, [], z => z
  | i, t :: r, z => snapI (i + 1) r (if t.1 = 2 then (i : Int) else z)
/-- The place of the last snapshot among these bodies, and what there is then. -/
def Rel (l : List (List UInt8)) (z : Int) (C : Cn) : Prop := (z = -1 ∧ C = ([], false, l)) ∨ ∃ k : Nat, z = (k : Int) ∧ k < l.length ∧ C = (l.getD k [], true, l.drop (k + 1))
theorem Rel.step {l : List (List UInt8)} {z : Int} {C : Cn} (h : Rel l z C) (r : Rw) : Rel (l ++ [r.2]) (if (thing r).1 = 2 then (l.length : Int) else z) (takeC C r) := by
  have e : (thing r).1 = 2 ↔ r.1.toNat = 2 := by
    show ((r.1.toNat : Nat) : Int) = 2 ↔ _
    omega
  unfold takeC
  by_cases hk : r.1.toNat = 2
  · rw [if_pos hk, if_pos (e.2 hk)]
    refine .inr ⟨l.length, rfl, by simp, ?_⟩
    rw [List.getD_eq_getElem?_getD, List.getElem?_append_right (Nat.le_refl _), Nat.sub_self, List.drop_eq_nil_of_le (by simp)]
    rfl
  · rw [if_neg hk, if_neg (fun h => hk (e.1 h))]
    rcases h with ⟨rfl, rfl⟩ | ⟨k, rfl, h2, rfl⟩
    · exact .inl ⟨rfl, rfl⟩
    · refine .inr ⟨k, rfl, by rw [List.length_append]; omega, ?_⟩
      rw [List.drop_append_of_le_length (by omega), List.getD_eq_getElem?_getD, List.getD_eq_getElem?_getD, List.getElem?_append_left h2]
theorem Rel.all : ∀ (R : List Rw) (l : List (List UInt8)) (z : Int) (C : Cn), Rel l z C → Rel (l ++ R.map Prod.snd) (snapI l.length (R.map thing) z) (R.foldl takeC C)
  | [], l, z, C, h => by simpa [snapI] using h
  | r :: R, l, z, C, h => by
    have h2 := Rel.all R _ _ _ (h.step r)
    rw [List.length_append, List.length_singleton, List.append_assoc] at h2
    exact h2
theorem rel_says (d : List UInt8) : Rel ((says d).1.map Prod.snd) (snapI 0 ((says d).1.map thing) (-1)) (contC d) := by
  have h := Rel.all (says d).1 [] (-1) c0 (.inl ⟨rfl, rfl⟩)
  rwa [List.nil_append] at h
theorem thing_snd (R : List Rw) : (R.map thing).map Prod.snd = R.map Prod.snd := by rw [List.map_map]; rfl
section
variable {w0 : World} {A : Asn}
theorem s80 {u : Value} {m : Nat} {T : List Th} (rd : Rd w0 A u 2 m (Fl encT159 T)) :
    Spec Try.prog w0 80 [u] A (fun v' A' => v' = .int .i64 (snapI 0 T (-1)) ∧ A' = A) := by
  have hl0 := rd.lenFl (fun _ => rfl) (by decide)
  subst hl0
  have hmx := rd.max
  refine Spec.of_run [(0, u)] Try.func80 rfl (Nat.le_of_ble_eq_true rfl) (by repeat (first | exact trivial | refine ⟨rfl, ?_⟩)) ?_
  refine Run.seq ?_
  refine Run.region ?_
  refine RunL.ok (OpOk.assign rfl) rfl ?_
  refine RunL.nil ?_
  refine Run.seq ?_
  refine Run.region ?_
  refine RunL.ok (OpOk.assign rfl) rfl ?_
  refine RunL.nil ?_
  refine Run.seq ?_
  refine Run.seq ?_
  refine Run.region ?_
  refine RunL.ok (OpOk.assign rfl) rfl ?_
  refine RunL.nil ?_
  refine Run.block ?_
  refine Run.jump ((Run.loopJ (X := Nat × Int) (fun x => [(4, .int .i64 (x.1 : Int)), (3, .int .i64 x.2), (0, u)]) (fun _ => A) (fun x => x.1 ≤ T.length ∧ snapI 0 T (-1) = snapI x.1 (T.drop x.1) x.2) (fun x => T.length - x.1) (0, -1) ⟨Nat.zero_le _, rfl⟩ (fun x hx ih => ?_))) ⟨rfl, rfl, rfl, trivial⟩ ((Grew.refl _))
  obtain ⟨i, z⟩ := x
  simp only at hx ih ⊢
  obtain ⟨hi, hs⟩ := hx
  rcases Nat.lt_or_ge i T.length with hlt | hge
  · rw [drop_next hlt, snapI] at hs
    rcases Decidable.em ((T.getD i default).1 = 2) with h2 | h2
    · rw [if_pos h2] at hs
      refine Run.seq ?_
      refine Run.seq ?_
      refine Run.region ?_
      refine RunL.ok (OpOk.move rfl) rfl ?_
      refine RunL.ok (OpOk.move rfl) rfl ?_
      refine RunL.ok (OpOk.lenR rfl rfl rd rfl) rfl ?_
      refine RunL.ok (OpOk.asT (OpOk.lss rfl rfl) (by omega)) rfl ?_
      refine RunL.nil ?_
      refine Run.condT rfl ?_
      refine Run.skip ?_
      refine Run.seq ?_
      refine Run.block ?_
      refine Run.seq ?_
      refine Run.region ?_
      refine RunL.ok (OpOk.move rfl) rfl ?_
      refine RunL.ok (OpOk.move rfl) rfl ?_
      refine RunL.ok (OpOk.idxN rfl ti159 rfl rd rfl (by omega)) rfl ?_
      refine RunL.ok (OpOk.fieldAddrA fld159_0 rfl) rfl ?_
      refine RunL.ok (OpOk.loadFl1 default rfl rfl rfl rd (fun _ => rfl) rfl (by omega) rfl) rfl ?_
      refine RunL.ok (OpOk.asT (OpOk.eql rfl rfl) (by omega)) rfl ?_
      refine RunL.nil ?_
      refine Run.condT rfl ?_
      refine Run.region ?_
      refine RunL.ok (OpOk.move rfl) rfl ?_
      refine RunL.ok (OpOk.assign rfl) rfl ?_
      refine RunL.nil ?_
      refine Run.inBlock ?_
      refine Run.region ?_
      refine RunL.ok (OpOk.move rfl) rfl ?_
      refine RunL.ok (OpOk.addN _ 1 rfl rfl rfl rfl (by omega)) rfl ?_
      refine RunL.ok (OpOk.assign rfl) rfl ?_
      refine RunL.nil ?_
      refine Run.jump ((ih (i + 1, (i : Int)) ⟨by dsimp only; omega, hs⟩ (by dsimp only; omega))) ⟨rfl, rfl, rfl, trivial⟩ ((Grew.refl _))
    · rw [if_neg h2] at hs
      refine Run.seq ?_
      refine Run.seq ?_
      refine Run.region ?_
      refine RunL.ok (OpOk.move rfl) rfl ?_
      refine RunL.ok (OpOk.move rfl) rfl ?_
      refine RunL.ok (OpOk.lenR rfl rfl rd rfl) rfl ?_
      refine RunL.ok (OpOk.asT (OpOk.lss rfl rfl) (by omega)) rfl ?_
      refine RunL.nil ?_
      refine Run.condT rfl ?_
      refine Run.skip ?_
      refine Run.seq ?_
      refine Run.block ?_
      refine Run.seq ?_
      refine Run.region ?_
      refine RunL.ok (OpOk.move rfl) rfl ?_
      refine RunL.ok (OpOk.move rfl) rfl ?_
      refine RunL.ok (OpOk.idxN rfl ti159 rfl rd rfl (by omega)) rfl ?_
      refine RunL.ok (OpOk.fieldAddrA fld159_0 rfl) rfl ?_
      refine RunL.ok (OpOk.loadFl1 default rfl rfl rfl rd (fun _ => rfl) rfl (by omega) rfl) rfl ?_
      refine RunL.ok (OpOk.asF (OpOk.eql rfl rfl) (by omega)) rfl ?_
      refine RunL.nil ?_
      refine Run.condF rfl ?_
      refine Run.skip ?_
      refine Run.inBlock ?_
      refine Run.region ?_
      refine RunL.ok (OpOk.move rfl) rfl ?_
      refine RunL.ok (OpOk.addN _ 1 rfl rfl rfl rfl (by omega)) rfl ?_
      refine RunL.ok (OpOk.assign rfl) rfl ?_
      refine RunL.nil ?_
      refine Run.jump ((ih (i + 1, z) ⟨by dsimp only; omega, hs⟩ (by dsimp only; omega))) ⟨rfl, rfl, rfl, trivial⟩ ((Grew.refl _))
  · obtain rfl : i = T.length := by omega
    clear ih
    rw [List.drop_length] at hs
    simp only [snapI] at hs
    rw [hs]
    refine Run.seq ?_
    refine Run.seq ?_
    refine Run.region ?_
    refine RunL.ok (OpOk.move rfl) rfl ?_
    refine RunL.ok (OpOk.move rfl) rfl ?_
    refine RunL.ok (OpOk.lenR rfl rfl rd rfl) rfl ?_
    refine RunL.ok (OpOk.asF (OpOk.lss rfl rfl) (by omega)) rfl ?_
    refine RunL.nil ?_
    refine Run.condF rfl ?_
    refine Run.exit rfl ?_
    refine Run.seq ?_
    refine Run.region ?_
    refine RunL.ok (OpOk.move rfl) rfl ?_
    refine RunL.ok (OpOk.assign rfl) rfl ?_
    refine RunL.nil ?_
    refine Run.ret1 Try.func80 rfl rfl ?_
    exact ⟨rfl, rfl⟩
end
section
variable {w0 : World} {A : Asn} {p fp : Nat} {sv rv : Value} {snap : List UInt8} {has dn : Bool} {recs : List (Value × List UInt8)}
theorem showsA {u : Value} {T : List Th} (rd : Rd w0 A u 2 T.length (Fl encT159 T)) (hz : snapI 0 T (-1) = -1) (hr : recs.map Prod.snd = T.map Prod.snd) (hsn : snap.length = 0) (hm : T.length ≤ 16777216) (hb : ∀ r ∈ recs, r.2.length ≤ 16777216) :
    Spec Try.prog w0 36 [.pointer (some ⟨p, 0, none⟩), u] (A * pts p (.cells #[sv, .bool false, rv, .pointer (some ⟨fp, 0, none⟩), .bool dn] 149 (0, 0)) * own 5 1 sv (snap).length (B (snap)) * own 63 1 rv (recs).length (Fl encV (recs)) * ownsB 5 (recs)) (fun v' A' => ∃ J, v' = .bool true ∧ A' = A * J * pts p (.cells #[sv, .bool false, rv, .pointer (some ⟨fp, 0, none⟩), .bool dn] 149 (0, 0)) * own 5 1 sv (snap).length (B (snap)) * own 63 1 rv (recs).length (Fl encV (recs)) * ownsB 5 (recs)) := by
  have hc : u.cells = #[u] := Rd.cells1 rd
  have hrl : recs.length = T.length := by have := congrArg List.length hr; simpa using this
  have hel : ∀ j, j < recs.length → (recs.getD j default).2 = (T.getD (0 + j) default).2 := fun j hj => by
    have := congrArg (fun l => l.getD j default) hr
    simp only [snd_get hj, List.getD_eq_getElem?_getD, List.getElem?_map, List.getElem?_eq_getElem (show j < T.length by omega)] at this
    rw [Nat.zero_add, List.getD_eq_getElem?_getD (l := T), List.getElem?_eq_getElem (show j < T.length by omega)]
    exact this
  have rw_z := hz
  refine Spec.of_run [(0, .pointer (some ⟨p, 0, none⟩)), (1, u)] Try.func36 rfl (Nat.le_of_ble_eq_true rfl) (by repeat (first | exact trivial | refine ⟨rfl, ?_⟩)) ?_
  refine Run.seq ?_
  refine Run.region ?_
  refine RunL.box rfl rfl (fun bx1 => ?_)
  refine RunL.alloc ti4 rfl (fun bx2 => ?_)
  refine RunL.nil ?_
  refine Run.seq ?_
  refine Run.region ?_
  rw [hc]
  refine RunL.ok (OpOk.load rfl rfl rfl (Blk.out Blk.pts.left _ _ (by first | rfl | assumption))) rfl ?_
  refine RunL.know (fun w s => (s.conv (frl (frl rfl))).ownsB0) (fun aly1 => ?_)
  refine RunL.call cal80 rfl (s80 rd.left.left.left.left.left.left) rfl (fun vy2 Ay2 hy2 => ?_)
  obtain ⟨rfl, rfl⟩ := hy2
  refine RunL.ok (OpOk.assign rfl) rfl ?_
  refine RunL.nil ?_
  refine Run.seq ?_
  rw [rw_z]
  refine Run.region ?_
  refine RunL.ok (OpOk.move rfl) rfl ?_
  refine RunL.mem (frc (frl (frl rfl)) (frc (frl (frl rfl)) (frc (frl (frl rfl)) (frc (frl (frl rfl)) rfl)))) ?_
  refine RunL.call cal33 rfl (s33 (by omega)) rfl (fun vy3 Ay3 hy3 => ?_)
  obtain ⟨y4, ⟨y5, ⟨rfl, rfl⟩⟩⟩ := hy3
  refine RunL.ok (OpOk.move rfl) rfl ?_
  refine RunL.ok (OpOk.ext20 rfl) rfl ?_
  refine RunL.ok (OpOk.ext21 rfl) rfl ?_
  refine RunL.ok (OpOk.assign rfl) rfl ?_
  refine RunL.ok (OpOk.assign rfl) rfl ?_
  refine RunL.nil ?_
  refine Run.seq ?_
  refine Run.seq ?_
  refine Run.know (fun w s => (s.conv (frl (frl (frl (frl rfl))))).ownRd0) (fun rdy6 => ?_)
  refine Run.know (fun w s => (s.conv (frl (frl rfl))).ownRd0) (fun rdy7 => ?_)
  refine Run.know (fun w s => (s.conv (frl rfl)).ownRd0) (fun rdy8 => ?_)
  (apply Run.drawD [] (by rfl) (Eq.trans rfl (asg (asg (asg rfl)))); case hchk => kernel_rfl)
  refine Sd.quiet 0 _ _ rfl rfl rfl rfl rfl (QOp.ok (fun X => OpOk.move rfl)) ?_
  refine Sd.quiet 1 _ _ rfl rfl rfl rfl rfl (QOp.ok (fun X => OpOk.move rfl)) ?_
  refine Sd.quiet 2 _ _ rfl rfl rfl rfl rfl (QOp.ok (fun X => OpOk.asF (OpOk.geq rfl rfl) (by omega))) ?_
  refine Sd.quiet 3 _ _ rfl rfl rfl rfl rfl (QOp.ok (fun X => OpOk.neqB rfl rfl rfl)) ?_
  refine Sd.quiet 4 _ _ rfl rfl rfl rfl rfl (QOp.ok (fun X => OpOk.move rfl)) ?_
  refine Sd.quiet 5 _ _ rfl rfl rfl rfl rfl (QOp.ok (fun X => OpOk.move rfl)) ?_
  refine Sd.quiet 6 _ _ rfl rfl rfl rfl rfl (QOp.ok (fun X => OpOk.move rfl)) ?_
  refine Sd.skip 7 _ rfl rfl rfl rfl rfl ?_
  refine Sd.skip 8 _ rfl rfl rfl rfl rfl ?_
  refine Sd.skip 9 _ rfl rfl rfl rfl rfl ?_
  refine Sd.skip 10 _ rfl rfl rfl rfl rfl ?_
  refine Sd.skip 11 _ rfl rfl rfl rfl rfl ?_
  refine Sd.skip 12 _ rfl rfl rfl rfl rfl ?_
  refine Sd.skip 13 _ rfl rfl rfl rfl rfl ?_
  refine Sd.skip 14 _ rfl rfl rfl rfl rfl ?_
  refine Sd.quiet 15 _ _ rfl rfl rfl rfl rfl (QOp.ok (fun X => OpOk.pickF rfl rfl)) ?_
  refine Sd.quiet 16 _ _ rfl rfl rfl rfl rfl (QOp.ok (fun X => OpOk.pickF rfl rfl)) ?_
  refine Sd.quiet 17 _ _ rfl rfl rfl rfl rfl (QOp.ok (fun X => OpOk.move rfl)) ?_
  refine Sd.quiet 18 _ _ rfl rfl rfl rfl rfl (QOp.ok (fun X => OpOk.move rfl)) ?_
  refine Sd.quiet 19 _ _ rfl rfl rfl rfl rfl (QOp.ok (fun X => OpOk.not rfl)) ?_
  refine Sd.quiet 20 _ _ rfl rfl rfl rfl rfl (QOp.ok (fun X => OpOk.move rfl)) ?_
  refine Sd.quiet 21 _ _ rfl rfl rfl rfl rfl (QOp.ok (fun X => OpOk.move rfl)) ?_
  refine Sd.quiet 22 _ _ rfl rfl rfl rfl rfl (QOp.ok (fun X => OpOk.lenR rfl rfl (Rd.right rdy6).left.left rfl)) ?_
  refine Sd.quiet 23 _ _ rfl rfl rfl rfl rfl (QOp.ok (fun X => OpOk.as (c := false) (OpOk.neq rfl rfl) (by rw [decide_eq_true (by omega)]; rfl))) ?_
  refine Sd.quiet 24 _ _ rfl rfl rfl rfl rfl (QOp.ok (fun X => OpOk.pickT rfl rfl)) ?_
  refine Sd.quiet 25 _ _ rfl rfl rfl rfl rfl (QOp.ok (fun X => OpOk.pickF rfl rfl)) ?_
  refine Sd.quiet 26 _ _ rfl rfl rfl rfl rfl (QOp.ok (fun X => OpOk.move rfl)) ?_
  refine Sd.quiet 27 _ _ rfl rfl rfl rfl rfl (QOp.ok (fun X => OpOk.move rfl)) ?_
  refine Sd.quiet 29 _ _ rfl rfl rfl rfl rfl (QOp.ok (fun X => OpOk.load rfl rfl rfl (Blk.out Blk.pts.left.left.left.left.left _ _ (by first | rfl | assumption)))) ?_
  refine Sd.quiet 30 _ _ rfl rfl rfl rfl rfl (QOp.ok (fun X => OpOk.lenR rfl rfl rd.left.left.left.left.left.left rfl)) ?_
  refine Sd.quiet 31 _ _ rfl rfl rfl rfl rfl (QOp.ok (fun X => OpOk.sub rfl rfl (wrapI (by omega) (by omega)))) ?_
  refine Sd.quiet 32 _ _ rfl rfl rfl rfl rfl (QOp.ok (fun X => OpOk.move rfl)) ?_
  refine Sd.quiet 33 _ _ rfl rfl rfl rfl rfl (QOp.ok (fun X => OpOk.sub rfl rfl (wrapI (by omega) (by omega)))) ?_
  (refine Sd.exec 28 rfl rfl rfl rfl rfl ?hrest (by rfl) (fun Xy9 Ky9 hKy9 => ?_); case hrest => kernel_rfl)
  refine RunL.mem (fl2 (sep_emp _) (flS (flS (flS rfl)))) ?_
  refine RunL.call cal29 rfl (s29) rfl (fun vy10 Ay10 hy10 => ?_)
  obtain ⟨rfl, rfl⟩ := hy10
  refine Sd.ret hKy9 (Eq.trans rfl (gp2 (sep_emp _).symm (asg (asg (asg rfl))))) ⟨_, (emp_sep _).symm⟩ ?_
  refine Sd.quiet 34 _ _ rfl rfl rfl rfl rfl (QOp.ok (fun X => OpOk.as (c := false) (OpOk.neq rfl rfl) (by rw [decide_eq_true (by omega)]; rfl))) ?_
  refine Sd.quiet 35 _ _ rfl rfl rfl rfl rfl (QOp.ok (fun X => OpOk.pickF rfl rfl)) ?_
  (apply Sd.tail; case hall => kernel_rfl)
  refine RunL.mem (fl2 (flS (flS (flS rfl))) (sep_emp _)) ?_
  refine RunL.nil ?_
  refine Run.condF rfl ?_
  refine Run.skip ?_
  refine Run.seq ?_
  refine Run.seq ?_
  refine Run.region ?_
  refine RunL.ok (OpOk.assign rfl) rfl ?_
  refine RunL.nil ?_
  refine Run.block ?_
  refine Run.jump ((Run.loopJ (X := Nat × Asn × List UInt8) (fun x => [(8, .int .i64 (x.1 : Int)), (6, y4), (5, .int .i64 (-1)), (4, .pointer (some ⟨bx2, 0, none⟩)), (3, .pointer (some ⟨bx1, 0, none⟩)), (0, .pointer (some ⟨p, 0, none⟩))]) (fun x => A * x.2.1 * pts bx1 (.cells #[u] 75 (0, 0)) * pts bx2 (.cells #[.bool false] 4 (0, 0)) * pts p (.cells #[sv, .bool false, rv, .pointer (some ⟨fp, 0, none⟩), .bool dn] 149 (0, 0)) * own 5 1 sv (snap).length (B (snap)) * own 63 1 rv (recs).length (Fl encV (recs)) * ownsB 5 (recs) * own 5 1 y4 (snap).length (B x.2.2)) (fun x => x.1 ≤ (snap).length ∧ x.2.2.length = (snap).length) (fun x => (snap).length - x.1) (0, _, snap) ⟨Nat.zero_le _, rfl⟩ (fun x hx ih => ?_))) ⟨rfl, rfl, rfl, rfl, rfl, rfl, trivial⟩ (Grew.of (Eq.trans (frc (frl (frl (frl (frl rfl)))) (frc rfl (frc rfl (frc rfl (frc rfl (frc (frl rfl) (frc (frl rfl) rfl))))))) (congrArg (· * _) (congrArg (· * _) (congrArg (· * _) (congrArg (· * _) (congrArg (· * _) (congrArg (· * _) (congrArg (· * _) as1)))))))) (Grew.refl _))
  obtain ⟨i, J, cur⟩ := x
  simp only at hx ih ⊢
  obtain ⟨hi, hcl⟩ := hx
  rcases Nat.lt_or_ge i (snap).length with hlt | hge
  · refine Run.seq ?_
    refine Run.seq ?_
    refine Run.region ?_
    refine RunL.ok (OpOk.move rfl) rfl ?_
    refine RunL.ok (OpOk.move rfl) rfl ?_
    refine RunL.know (fun w s => (s.conv rfl).ownRd0) (fun rdz1 => ?_)
    refine RunL.ok (OpOk.lenR rfl rfl (Rd.right rdz1) rfl) rfl ?_
    refine RunL.ok (OpOk.asT (OpOk.lss rfl rfl) (by omega)) rfl ?_
    refine RunL.nil ?_
    refine Run.condT rfl ?_
    refine Run.skip ?_
    refine Run.seq ?_
    refine Run.block ?_
    refine Run.region ?_
    refine RunL.ok (OpOk.move rfl) rfl ?_
    refine RunL.ok (OpOk.move rfl) rfl ?_
    refine RunL.ok (OpOk.move rfl) rfl ?_
    refine RunL.ok (OpOk.move rfl) rfl ?_
    refine RunL.ok (OpOk.idx1N rfl ti5 rfl (Rd.right rdz1) rfl (by omega)) rfl ?_
    refine RunL.ok (OpOk.load rfl rfl rfl (Rd.getB (Rd.right rdz1) (by omega))) rfl ?_
    refine RunL.ok (OpOk.xor rfl rfl (x255 _)) rfl ?_
    refine RunL.ok (OpOk.idx1N rfl ti5 rfl (Rd.right rdz1) rfl (by omega)) rfl ?_
    refine RunL.storeB _ ti5 rfl rfl rfl rfl (by omega) ?_
    refine RunL.nil ?_
    refine Run.inBlock ?_
    refine Run.region ?_
    refine RunL.ok (OpOk.move rfl) rfl ?_
    refine RunL.ok (OpOk.addN _ 1 rfl rfl rfl rfl (by omega)) rfl ?_
    refine RunL.ok (OpOk.assign rfl) rfl ?_
    refine RunL.nil ?_
    refine Run.jump ((ih (i + 1, _, cur.set i (cur.getD i 0 ^^^ 255)) ⟨by dsimp only; omega, by dsimp only; rw [List.length_set]; exact hcl⟩ (by dsimp only; omega))) ⟨rfl, rfl, rfl, rfl, rfl, rfl, trivial⟩ (Grew.of (congrArg (· * _) (congrArg (· * _) (congrArg (· * _) (congrArg (· * _) (congrArg (· * _) (congrArg (· * _) (congrArg (· * _) as1))))))) (Grew.refl _))
  · obtain rfl : i = (snap).length := by omega
    clear ih
    refine Run.seq ?_
    refine Run.seq ?_
    refine Run.region ?_
    refine RunL.ok (OpOk.move rfl) rfl ?_
    refine RunL.ok (OpOk.move rfl) rfl ?_
    refine RunL.know (fun w s => (s.conv rfl).ownRd0) (fun rdz1 => ?_)
    refine RunL.ok (OpOk.lenR rfl rfl (Rd.right rdz1) rfl) rfl ?_
    refine RunL.ok (OpOk.asF (OpOk.lss rfl rfl) (by omega)) rfl ?_
    refine RunL.nil ?_
    refine Run.condF rfl ?_
    refine Run.exit rfl ?_
    refine Run.seq ?_
    refine Run.seq ?_
    refine Run.region ?_
    refine RunL.ok (OpOk.assign rfl) rfl ?_
    refine RunL.nil ?_
    refine Run.block ?_
    refine Run.jump ((Run.loopM0 (X := Nat × List Nat × Asn) (fun x => x.2.1) (fun x => [(9, .int .i64 (x.1 : Int)), (5, .int .i64 (-1)), (4, .pointer (some ⟨bx2, 0, none⟩)), (3, .pointer (some ⟨bx1, 0, none⟩)), (0, .pointer (some ⟨p, 0, none⟩))]) (fun x => A * x.2.2 * pts bx1 (.cells #[u] 75 (0, 0)) * pts bx2 (.cells #[.bool false] 4 (0, 0)) * pts p (.cells #[sv, .bool false, rv, .pointer (some ⟨fp, 0, none⟩), .bool dn] 149 (0, 0)) * own 5 1 sv (snap).length (B (snap)) * own 63 1 rv (recs).length (Fl encV (recs)) * ownsB 5 (recs)) (fun x => x.1 ≤ 2) (fun x => 2 - x.1) (0, [], _) (Nat.zero_le _) rfl (fun x hx ih => ?_))) ⟨rfl, rfl, rfl, rfl, rfl, trivial⟩ (Grew.of (Eq.trans (frc (frl rfl) (frc (frl rfl) (frc (frl rfl) (frc (frl rfl) (frc (frl rfl) (frc (frl rfl) rfl)))))) (congrArg (· * _) (congrArg (· * _) (congrArg (· * _) (congrArg (· * _) (congrArg (· * _) (congrArg (· * _) (asg as1)))))))) (Grew.refl _))
    obtain ⟨i, ds, J⟩ := x
    simp only at hx ih ⊢
    rcases Nat.lt_or_ge i 2 with hlt | hge
    · refine Run.seq ?_
      refine Run.seq ?_
      refine Run.region ?_
      refine RunL.ok (OpOk.move rfl) rfl ?_
      refine RunL.ok (OpOk.asT (OpOk.lss rfl rfl) (by omega)) rfl ?_
      refine RunL.nil ?_
      refine Run.condT rfl ?_
      refine Run.skip ?_
      refine Run.seq ?_
      refine Run.block ?_
      refine Run.seq ?_
      refine Run.region ?_
      refine RunL.ok (OpOk.move rfl) rfl ?_
      refine RunL.ok (OpOk.add rfl rfl (wrapI (by omega) (by omega))) rfl ?_
      refine RunL.alloc ti3 rfl (fun bq1 => ?_)
      refine RunL.store ti3 rfl rfl rfl rfl (by exact Nat.le_of_ble_eq_true rfl) (.inl rfl) ?_
      refine RunL.nil ?_
      refine Run.seq ?_
      refine Run.seq ?_
      refine Run.region ?_
      refine RunL.ok (OpOk.move rfl) rfl ?_
      refine RunL.mem (frc (frl (frl rfl)) (frc (frl (frl rfl)) (frc (frl (frl rfl)) (frc (frl (frl rfl)) rfl)))) ?_
      refine RunL.call cal30 rfl (s30 (by omega)) rfl (fun vq2 Aq2 hq2 => ?_)
      obtain ⟨q3, ⟨q4, ⟨rfl, rfl⟩⟩⟩ := hq2
      refine RunL.nil ?_
      refine Run.block ?_
      refine Run.rangeF (Z := Asn × Int) (iterJ (recs := recs) (b := q3) (v := q4) (by omega) hb) rfl rfl (fun z => A * z.1 * pts bx1 (.cells #[u] 75 (0, 0)) * pts bx2 (.cells #[.bool false] 4 (0, 0)) * pts p (.cells #[sv, .bool false, rv, .pointer (some ⟨fp, 0, none⟩), .bool dn] 149 (0, 0)) * own 5 1 sv (snap).length (B (snap)) * own 63 1 rv recs.length (Fl encV recs) * pts bq1 (.cells #[.int .i64 z.2] 3 (0, 0))) (fun i z => z.2 = ((0 + i : Nat) : Int)) (fun _ _ => False) (J, ((0 : Nat) : Int)) rfl ?_ (fun RR l rc j z uu J3 hj hz hgo _ _ => ?_) (fun z J3 D hz => ?_) (fun c z J3 D hz => hz.elim)
      · have e0 : ((-1) : Int) + 1 = ((0 : Nat) : Int) := by omega
        try rw [e0]
        show _ * pts bq1 (.cells #[.int .i64 ((0 : Nat) : Int)] 3 (0, 0)) * _ * _ * _ * _ * _ * _ = _
        dsimp only
        simp only [← sep_assoc]
        exact (frc (frl (frl (frl (frl (frl (frl (frl rfl))))))) (frc (frl (frl rfl)) (frc rfl (frc rfl (frc (frl (frl (frl rfl))) rfl)))))
      · obtain ⟨J2, nk⟩ := z
        have hz : nk = ((0 + j : Nat) : Int) := hz
        subst hz
        have hjT : 0 + j < T.length := by omega
        have hbd : (recs.getD j default).2 = (T.getD (0 + j) default).2 := hel j hj
        have hbi := hb _ (getD_mem hj)
        refine Run.region ?_
        refine RunL.ok (OpOk.assign rfl) rfl ?_
        refine RunL.nil ?_
        refine Run.beginRound ?_
        refine Run.block ?_
        refine Run.seq ?_
        refine Run.seq ?_
        refine Run.know (fun w s => (s.conv (frl (frl rfl))).ownRd0) (fun rdt1 => ?_)
        (apply Run.drawD [] (by rfl) (sep_emp _).symm; case hchk => kernel_rfl)
        refine Sd.quiet 0 _ _ rfl rfl rfl rfl rfl (QOp.ok (fun X => OpOk.load rfl rfl rfl (Blk.out Blk.pts.left.left.left.left.left _ _ (by first | rfl | assumption)))) ?_
        refine Sd.quiet 1 _ _ rfl rfl rfl rfl rfl (QOp.ok (fun X => OpOk.load rfl rfl rfl (Blk.out Blk.pts.left.left.left.left.left.left.left.left.left.left _ _ (by first | rfl | assumption)))) ?_
        refine Sd.quiet 2 _ _ rfl rfl rfl rfl rfl (QOp.ok (fun X => OpOk.lenR rfl rfl rd.left.left.left.left.left.left.left.left.left.left.left.left rfl)) ?_
        refine Sd.quiet 3 _ _ rfl rfl rfl rfl rfl (QOp.ok (fun X => OpOk.asF (OpOk.geq rfl rfl) (by omega))) ?_
        refine Sd.quiet 4 _ _ rfl rfl rfl rfl rfl (QOp.ok (fun X => OpOk.move rfl)) ?_
        refine Sd.quiet 5 _ _ rfl rfl rfl rfl rfl (QOp.ok (fun X => OpOk.move rfl)) ?_
        refine Sd.quiet 6 _ _ rfl rfl rfl rfl rfl (QOp.ok (fun X => OpOk.strOf rfl rfl rfl rfl (Rd.right rdt1).left.left.left.left)) ?_
        refine Sd.quiet 7 _ _ rfl rfl rfl rfl rfl (QOp.ok (fun X => OpOk.load rfl rfl rfl (Blk.out Blk.pts.left.left.left.left.left.left.left.left.left.left _ _ (by first | rfl | assumption)))) ?_
        refine Sd.quiet 8 _ _ rfl rfl rfl rfl rfl (QOp.ok (fun X => OpOk.load rfl rfl rfl (Blk.out Blk.pts.left.left.left.left.left _ _ (by first | rfl | assumption)))) ?_
        refine Sd.quiet 9 _ _ rfl rfl rfl rfl rfl (QOp.ok (fun X => OpOk.idxN rfl ti159 rfl rd.left.left.left.left.left.left.left.left.left.left.left.left rfl (by omega))) ?_
        refine Sd.quiet 10 _ _ rfl rfl rfl rfl rfl (QOp.ok (fun X => OpOk.fieldAddrA fld159_1 rfl)) ?_
        refine Sd.quiet 11 _ _ rfl rfl rfl rfl rfl (QOp.ok (fun X => OpOk.loadFl1 default rfl rfl rfl rd.left.left.left.left.left.left.left.left.left.left.left.left (fun _ => rfl) rfl (by omega) rfl)) ?_
        refine Sd.quiet 12 _ _ rfl rfl rfl rfl rfl (QOp.ok (fun X => OpOk.as (c := false) (OpOk.neqSS rfl rfl) (by rw [decide_eq_true (by omega)]; rfl))) ?_
        refine Sd.quiet 13 _ _ rfl rfl rfl rfl rfl (QOp.ok (fun X => OpOk.pickF rfl rfl)) ?_
        (apply Sd.tail; case hall => kernel_rfl)
        refine RunL.mem (fl2 (sep_emp _) (sep_emp _)) ?_
        refine RunL.nil ?_
        refine Run.condF rfl ?_
        refine Run.skip ?_
        refine Run.seq ?_
        refine Run.seq ?_
        refine Run.region ?_
        refine RunL.ok (OpOk.assign rfl) rfl ?_
        refine RunL.nil ?_
        refine Run.block ?_
        refine Run.jump ((Run.loopJ (X := Nat × List UInt8) (fun x => [(12, .int .i64 (x.1 : Int)), (11, uu), (10, .pointer (some ⟨bq1, 0, none⟩))]) (fun x => A * J2 * pts bx1 (.cells #[u] 75 (0, 0)) * pts bx2 (.cells #[.bool false] 4 (0, 0)) * pts p (.cells #[sv, .bool false, rv, .pointer (some ⟨fp, 0, none⟩), .bool dn] 149 (0, 0)) * own 5 1 sv (snap).length (B (snap)) * own 63 1 rv recs.length (Fl encV recs) * pts bq1 (.cells #[.int .i64 ((0 + j : Nat) : Int)] 3 (0, 0)) * J3 * lp l rc .busy none * own 5 1 uu (recs.getD j default).2.length (B x.2)) (fun x => x.1 ≤ (recs.getD j default).2.length ∧ x.2.length = (recs.getD j default).2.length) (fun x => (recs.getD j default).2.length - x.1) (0, (recs.getD j default).2) ⟨Nat.zero_le _, rfl⟩ (fun x hx ih3 => ?_))) ⟨rfl, rfl, rfl, trivial⟩ (Grew.of (frc (frl (frl rfl)) rfl) (Grew.refl _))
        obtain ⟨i3, cur⟩ := x
        simp only at hx ih3 ⊢
        obtain ⟨hi3, hcl⟩ := hx
        rcases Nat.lt_or_ge i3 (recs.getD j default).2.length with hlt3 | hge3
        · refine Run.seq ?_
          refine Run.seq ?_
          refine Run.region ?_
          refine RunL.ok (OpOk.move rfl) rfl ?_
          refine RunL.ok (OpOk.move rfl) rfl ?_
          refine RunL.know (fun w s => (s.conv rfl).ownRd0) (fun rds1 => ?_)
          refine RunL.ok (OpOk.lenR rfl rfl (Rd.right rds1) rfl) rfl ?_
          refine RunL.ok (OpOk.asT (OpOk.lss rfl rfl) (by omega)) rfl ?_
          refine RunL.nil ?_
          refine Run.condT rfl ?_
          refine Run.skip ?_
          refine Run.seq ?_
          refine Run.block ?_
          refine Run.region ?_
          refine RunL.ok (OpOk.move rfl) rfl ?_
          refine RunL.ok (OpOk.move rfl) rfl ?_
          refine RunL.ok (OpOk.move rfl) rfl ?_
          refine RunL.ok (OpOk.move rfl) rfl ?_
          refine RunL.ok (OpOk.idx1N rfl ti5 rfl (Rd.right rds1) rfl (by omega)) rfl ?_
          refine RunL.ok (OpOk.load rfl rfl rfl (Rd.getB (Rd.right rds1) (by omega))) rfl ?_
          refine RunL.ok (OpOk.xor rfl rfl (x255 _)) rfl ?_
          refine RunL.ok (OpOk.idx1N rfl ti5 rfl (Rd.right rds1) rfl (by omega)) rfl ?_
          refine RunL.storeB _ ti5 rfl rfl rfl rfl (by omega) ?_
          refine RunL.nil ?_
          refine Run.inBlock ?_
          refine Run.region ?_
          refine RunL.ok (OpOk.move rfl) rfl ?_
          refine RunL.ok (OpOk.addN _ 1 rfl rfl rfl rfl (by omega)) rfl ?_
          refine RunL.ok (OpOk.assign rfl) rfl ?_
          refine RunL.nil ?_
          refine Run.jump ((ih3 (i3 + 1, cur.set i3 (cur.getD i3 0 ^^^ 255)) ⟨by dsimp only; omega, by dsimp only; rw [List.length_set]; exact hcl⟩ (by dsimp only; omega))) ⟨rfl, rfl, rfl, trivial⟩ ((Grew.refl _))
        · obtain rfl : i3 = (recs.getD j default).2.length := by omega
          clear ih3
          refine Run.seq ?_
          refine Run.seq ?_
          refine Run.region ?_
          refine RunL.ok (OpOk.move rfl) rfl ?_
          refine RunL.ok (OpOk.move rfl) rfl ?_
          refine RunL.know (fun w s => (s.conv rfl).ownRd0) (fun rds1 => ?_)
          refine RunL.ok (OpOk.lenR rfl rfl (Rd.right rds1) rfl) rfl ?_
          refine RunL.ok (OpOk.asF (OpOk.lss rfl rfl) (by omega)) rfl ?_
          refine RunL.nil ?_
          refine Run.condF rfl ?_
          refine Run.exit rfl ?_
          refine Run.region ?_
          refine RunL.ok (OpOk.load rfl rfl rfl (Blk.out Blk.pts.left.left.left _ _ (by first | rfl | assumption))) rfl ?_
          refine RunL.ok (OpOk.addN _ 1 rfl rfl rfl rfl (by omega)) rfl ?_
          refine RunL.store ti3 rfl rfl rfl (frl (frl (frl rfl))) (by exact Nat.le_of_ble_eq_true rfl) (.inl rfl) ?_
          refine RunL.nil ?_
          refine Run.inBlock ?_
          refine Run.jump ((hgo (_, ((0 + j + 1 : Nat) : Int)) (by dsimp only; omega) [])) trivial (Grew.of (Eq.trans (frc (frl (frl rfl)) (frc (frl (frl rfl)) (frc rfl (frc (frl rfl) (frc (frl rfl) (frc (frl rfl) (frc (frl rfl) (frc (frl rfl) rfl)))))))) (congrArg (· * _) (congrArg (· * _) (congrArg (· * _) (congrArg (· * _) (congrArg (· * _) (congrArg (· * _) (congrArg (· * _) (congrArg (· * _) (asg as1)))))))))) (Grew.refl _))
      · obtain ⟨J2, nk⟩ := z
        have hz : nk = ((0 + recs.length : Nat) : Int) := hz
        subst hz
        refine Run.inBlock ?_
        refine Run.seq ?_
        refine Run.region ?_
        refine RunL.ok (OpOk.load rfl rfl rfl (Blk.out Blk.pts.left.left.left _ _ (by first | rfl | assumption))) rfl ?_
        refine RunL.ok (OpOk.load rfl rfl rfl (Blk.out Blk.pts.left.left.left.left.left.left.left.left _ _ (by first | rfl | assumption))) rfl ?_
        refine RunL.ok (OpOk.lenR rfl rfl rd.left.left.left.left.left.left.left.left.left.left rfl) rfl ?_
        refine RunL.ok (OpOk.as (c := false) (OpOk.neq rfl rfl) (by rw [decide_eq_true (by omega)]; rfl)) rfl ?_
        refine RunL.nil ?_
        refine Run.condF rfl ?_
        refine Run.skip ?_
        refine Run.inBlock ?_
        refine Run.region ?_
        refine RunL.ok (OpOk.move rfl) rfl ?_
        refine RunL.ok (OpOk.addN _ 1 rfl rfl rfl rfl (by omega)) rfl ?_
        refine RunL.ok (OpOk.assign rfl) rfl ?_
        refine RunL.nil ?_
        refine Run.jump ((ih (i + 1, D :: ds, _) (by dsimp only; omega) (by dsimp only; omega))) ⟨rfl, rfl, rfl, rfl, rfl, trivial⟩ (Grew.of (Eq.trans (frc rfl (frc (frl rfl) (frc (frl (frl rfl)) (frc (frl (frl rfl)) (frc (frl (frl rfl)) (frc (frl (frl rfl)) (frc (frl (frl rfl)) rfl))))))) (congrArg (· * _) (congrArg (· * _) (congrArg (· * _) (congrArg (· * _) (congrArg (· * _) (congrArg (· * _) (congrArg (· * _) (asg (asg as1)))))))))) (Grew.refl _))
    · obtain rfl : i = 2 := by omega
      clear ih
      refine Run.seq ?_
      refine Run.seq ?_
      refine Run.region ?_
      refine RunL.ok (OpOk.move rfl) rfl ?_
      refine RunL.ok (OpOk.asF (OpOk.lss rfl rfl) (by omega)) rfl ?_
      refine RunL.nil ?_
      refine Run.condF rfl ?_
      refine Run.exit rfl ?_
      refine Run.seq ?_
      refine Run.region ?_
      refine RunL.store ti4 rfl rfl rfl (frl (frl (frl (frl (frl rfl))))) (by exact Nat.le_of_ble_eq_true rfl) (.inl rfl) ?_
      refine RunL.nil ?_
      refine Run.mem (frc (frl rfl) rfl) ?_
      refine Run.shut ?_
      refine Run.retC1 (A' := _) Try.func36 rfl rfl rfl rfl Blk.pts rfl (Grew.refl _) ?_
      exact ⟨_, rfl, (Eq.trans (frc (frl rfl) (frc (frl rfl) (frc (frl rfl) (frc (frl rfl) rfl)))) (congrArg (· * _) (congrArg (· * _) (congrArg (· * _) (congrArg (· * _) (asg (asg as1)))))))⟩
theorem showsB {u : Value} {k : Nat} {T : List Th} (rd : Rd w0 A u 2 T.length (Fl encT159 T)) (hz : snapI 0 T (-1) = (k : Int)) (hkl : k < T.length) (hr : recs.map Prod.snd = (T.map Prod.snd).drop (k + 1)) (hsb : snap = (T.getD k default).2) (hm : T.length ≤ 16777216) (hb : ∀ r ∈ recs, r.2.length ≤ 16777216) (hsl : snap.length ≤ 16777216) :
    Spec Try.prog w0 36 [.pointer (some ⟨p, 0, none⟩), u] (A * pts p (.cells #[sv, .bool true, rv, .pointer (some ⟨fp, 0, none⟩), .bool dn] 149 (0, 0)) * own 5 1 sv (snap).length (B (snap)) * own 63 1 rv (recs).length (Fl encV (recs)) * ownsB 5 (recs)) (fun v' A' => ∃ J, v' = .bool true ∧ A' = A * J * pts p (.cells #[sv, .bool true, rv, .pointer (some ⟨fp, 0, none⟩), .bool dn] 149 (0, 0)) * own 5 1 sv (snap).length (B (snap)) * own 63 1 rv (recs).length (Fl encV (recs)) * ownsB 5 (recs)) := by
  have hc : u.cells = #[u] := Rd.cells1 rd
  have hrl : recs.length = T.length - (k + 1) := by have := congrArg List.length hr; simpa using this
  have hel : ∀ j, j < recs.length → (recs.getD j default).2 = (T.getD (k + 1 + j) default).2 := fun j hj => by
    have := congrArg (fun l => l.getD j default) hr
    simp only [snd_get hj, List.getD_eq_getElem?_getD, List.getElem?_drop, List.getElem?_map, List.getElem?_eq_getElem (show k + 1 + j < T.length by omega)] at this
    rw [List.getD_eq_getElem?_getD (l := T), List.getElem?_eq_getElem (show k + 1 + j < T.length by omega)]
    exact this
  have rw_z := hz
  refine Spec.of_run [(0, .pointer (some ⟨p, 0, none⟩)), (1, u)] Try.func36 rfl (Nat.le_of_ble_eq_true rfl) (by repeat (first | exact trivial | refine ⟨rfl, ?_⟩)) ?_
  refine Run.seq ?_
  refine Run.region ?_
  refine RunL.box rfl rfl (fun bx1 => ?_)
  refine RunL.alloc ti4 rfl (fun bx2 => ?_)
  refine RunL.nil ?_
  refine Run.seq ?_
  refine Run.region ?_
  rw [hc]
  refine RunL.ok (OpOk.load rfl rfl rfl (Blk.out Blk.pts.left _ _ (by first | rfl | assumption))) rfl ?_
  refine RunL.know (fun w s => (s.conv (frl (frl rfl))).ownsB0) (fun aly1 => ?_)
  refine RunL.call cal80 rfl (s80 rd.left.left.left.left.left.left) rfl (fun vy2 Ay2 hy2 => ?_)
  obtain ⟨rfl, rfl⟩ := hy2
  refine RunL.ok (OpOk.assign rfl) rfl ?_
  refine RunL.nil ?_
  refine Run.seq ?_
  rw [rw_z]
  refine Run.region ?_
  refine RunL.ok (OpOk.move rfl) rfl ?_
  refine RunL.mem (frc (frl (frl rfl)) (frc (frl (frl rfl)) (frc (frl (frl rfl)) (frc (frl (frl rfl)) rfl)))) ?_
  refine RunL.call cal33 rfl (s33 (by assumption)) rfl (fun vy3 Ay3 hy3 => ?_)
  obtain ⟨y4, ⟨y5, ⟨rfl, rfl⟩⟩⟩ := hy3
  refine RunL.ok (OpOk.move rfl) rfl ?_
  refine RunL.ok (OpOk.ext20 rfl) rfl ?_
  refine RunL.ok (OpOk.ext21 rfl) rfl ?_
  refine RunL.ok (OpOk.assign rfl) rfl ?_
  refine RunL.ok (OpOk.assign rfl) rfl ?_
  refine RunL.nil ?_
  refine Run.seq ?_
  refine Run.seq ?_
  refine Run.know (fun w s => (s.conv (frl (frl (frl (frl rfl))))).ownRd0) (fun rdy6 => ?_)
  refine Run.know (fun w s => (s.conv (frl (frl rfl))).ownRd0) (fun rdy7 => ?_)
  refine Run.know (fun w s => (s.conv (frl rfl)).ownRd0) (fun rdy8 => ?_)
  (apply Run.drawD [] (by rfl) (Eq.trans rfl (asg (asg (asg rfl)))); case hchk => kernel_rfl)
  refine Sd.quiet 0 _ _ rfl rfl rfl rfl rfl (QOp.ok (fun X => OpOk.move rfl)) ?_
  refine Sd.quiet 1 _ _ rfl rfl rfl rfl rfl (QOp.ok (fun X => OpOk.move rfl)) ?_
  refine Sd.quiet 2 _ _ rfl rfl rfl rfl rfl (QOp.ok (fun X => OpOk.asT (OpOk.geq rfl rfl) (by omega))) ?_
  refine Sd.quiet 3 _ _ rfl rfl rfl rfl rfl (QOp.ok (fun X => OpOk.neqB rfl rfl rfl)) ?_
  refine Sd.quiet 4 _ _ rfl rfl rfl rfl rfl (QOp.ok (fun X => OpOk.move rfl)) ?_
  refine Sd.quiet 5 _ _ rfl rfl rfl rfl rfl (QOp.ok (fun X => OpOk.move rfl)) ?_
  refine Sd.quiet 6 _ _ rfl rfl rfl rfl rfl (QOp.ok (fun X => OpOk.move rfl)) ?_
  refine Sd.quiet 7 _ _ rfl rfl rfl rfl rfl (QOp.ok (fun X => OpOk.move rfl)) ?_
  refine Sd.quiet 8 _ _ rfl rfl rfl rfl rfl (QOp.ok (fun X => OpOk.strOf rfl rfl rfl rfl (Rd.right rdy6).left.left)) ?_
  refine Sd.quiet 9 _ _ rfl rfl rfl rfl rfl (QOp.ok (fun X => OpOk.load rfl rfl rfl (Blk.out Blk.pts.left.left.left.left.left _ _ (by first | rfl | assumption)))) ?_
  refine Sd.quiet 10 _ _ rfl rfl rfl rfl rfl (QOp.ok (fun X => OpOk.move rfl)) ?_
  refine Sd.quiet 11 _ _ rfl rfl rfl rfl rfl (QOp.ok (fun X => OpOk.idxN rfl ti159 rfl rd.left.left.left.left.left.left rfl (by omega))) ?_
  refine Sd.quiet 12 _ _ rfl rfl rfl rfl rfl (QOp.ok (fun X => OpOk.fieldAddrA fld159_1 rfl)) ?_
  refine Sd.quiet 13 _ _ rfl rfl rfl rfl rfl (QOp.ok (fun X => OpOk.loadFl1 default rfl rfl rfl rd.left.left.left.left.left.left (fun _ => rfl) rfl (by omega) rfl)) ?_
  refine Sd.quiet 14 _ _ rfl rfl rfl rfl rfl (QOp.ok (fun X => OpOk.as (c := false) (OpOk.neqSS rfl rfl) (by rw [decide_eq_true (by omega)]; rfl))) ?_
  refine Sd.quiet 15 _ _ rfl rfl rfl rfl rfl (QOp.ok (fun X => OpOk.pickT rfl rfl)) ?_
  refine Sd.quiet 16 _ _ rfl rfl rfl rfl rfl (QOp.ok (fun X => OpOk.pickF rfl rfl)) ?_
  refine Sd.quiet 17 _ _ rfl rfl rfl rfl rfl (QOp.ok (fun X => OpOk.move rfl)) ?_
  refine Sd.quiet 18 _ _ rfl rfl rfl rfl rfl (QOp.ok (fun X => OpOk.move rfl)) ?_
  refine Sd.quiet 19 _ _ rfl rfl rfl rfl rfl (QOp.ok (fun X => OpOk.not rfl)) ?_
  refine Sd.quiet 20 _ _ rfl rfl rfl rfl rfl (QOp.ok (fun X => OpOk.move rfl)) ?_
  refine Sd.skip 21 _ rfl rfl rfl rfl rfl ?_
  refine Sd.skip 22 _ rfl rfl rfl rfl rfl ?_
  refine Sd.skip 23 _ rfl rfl rfl rfl rfl ?_
  refine Sd.quiet 24 _ _ rfl rfl rfl rfl rfl (QOp.ok (fun X => OpOk.pickF rfl rfl)) ?_
  refine Sd.quiet 25 _ _ rfl rfl rfl rfl rfl (QOp.ok (fun X => OpOk.pickF rfl rfl)) ?_
  refine Sd.quiet 26 _ _ rfl rfl rfl rfl rfl (QOp.ok (fun X => OpOk.move rfl)) ?_
  refine Sd.quiet 27 _ _ rfl rfl rfl rfl rfl (QOp.ok (fun X => OpOk.move rfl)) ?_
  refine Sd.quiet 29 _ _ rfl rfl rfl rfl rfl (QOp.ok (fun X => OpOk.load rfl rfl rfl (Blk.out Blk.pts.left.left.left.left.left _ _ (by first | rfl | assumption)))) ?_
  refine Sd.quiet 30 _ _ rfl rfl rfl rfl rfl (QOp.ok (fun X => OpOk.lenR rfl rfl rd.left.left.left.left.left.left rfl)) ?_
  refine Sd.quiet 31 _ _ rfl rfl rfl rfl rfl (QOp.ok (fun X => OpOk.subN _ 1 rfl rfl rfl rfl (by omega) (by omega))) ?_
  refine Sd.quiet 32 _ _ rfl rfl rfl rfl rfl (QOp.ok (fun X => OpOk.move rfl)) ?_
  refine Sd.quiet 33 _ _ rfl rfl rfl rfl rfl (QOp.ok (fun X => OpOk.subN _ _ rfl rfl rfl rfl (by omega) (by omega))) ?_
  (refine Sd.exec 28 rfl rfl rfl rfl rfl ?hrest (by rfl) (fun Xy9 Ky9 hKy9 => ?_); case hrest => kernel_rfl)
  refine RunL.mem (fl2 (sep_emp _) (flS (flS (flS rfl)))) ?_
  refine RunL.call cal29 rfl (s29) rfl (fun vy10 Ay10 hy10 => ?_)
  obtain ⟨rfl, rfl⟩ := hy10
  refine Sd.ret hKy9 (Eq.trans rfl (gp2 (sep_emp _).symm (asg (asg (asg rfl))))) ⟨_, (emp_sep _).symm⟩ ?_
  refine Sd.quiet 34 _ _ rfl rfl rfl rfl rfl (QOp.ok (fun X => OpOk.as (c := false) (OpOk.neq rfl rfl) (by rw [decide_eq_true (by omega)]; rfl))) ?_
  refine Sd.quiet 35 _ _ rfl rfl rfl rfl rfl (QOp.ok (fun X => OpOk.pickF rfl rfl)) ?_
  (apply Sd.tail; case hall => kernel_rfl)
  refine RunL.mem (fl2 (flS (flS (flS rfl))) (sep_emp _)) ?_
  refine RunL.nil ?_
  refine Run.condF rfl ?_
  refine Run.skip ?_
  refine Run.seq ?_
  refine Run.seq ?_
  refine Run.region ?_
  refine RunL.ok (OpOk.assign rfl) rfl ?_
  refine RunL.nil ?_
  refine Run.block ?_
  refine Run.jump ((Run.loopJ (X := Nat × Asn × List UInt8) (fun x => [(8, .int .i64 (x.1 : Int)), (6, y4), (5, .int .i64 (k : Int)), (4, .pointer (some ⟨bx2, 0, none⟩)), (3, .pointer (some ⟨bx1, 0, none⟩)), (0, .pointer (some ⟨p, 0, none⟩))]) (fun x => A * x.2.1 * pts bx1 (.cells #[u] 75 (0, 0)) * pts bx2 (.cells #[.bool false] 4 (0, 0)) * pts p (.cells #[sv, .bool true, rv, .pointer (some ⟨fp, 0, none⟩), .bool dn] 149 (0, 0)) * own 5 1 sv (snap).length (B (snap)) * own 63 1 rv (recs).length (Fl encV (recs)) * ownsB 5 (recs) * own 5 1 y4 (snap).length (B x.2.2)) (fun x => x.1 ≤ (snap).length ∧ x.2.2.length = (snap).length) (fun x => (snap).length - x.1) (0, _, snap) ⟨Nat.zero_le _, rfl⟩ (fun x hx ih => ?_))) ⟨rfl, rfl, rfl, rfl, rfl, rfl, trivial⟩ (Grew.of (Eq.trans (frc (frl (frl (frl (frl rfl)))) (frc rfl (frc rfl (frc rfl (frc rfl (frc (frl rfl) (frc (frl rfl) rfl))))))) (congrArg (· * _) (congrArg (· * _) (congrArg (· * _) (congrArg (· * _) (congrArg (· * _) (congrArg (· * _) (congrArg (· * _) as1)))))))) (Grew.refl _))
  obtain ⟨i, J, cur⟩ := x
  simp only at hx ih ⊢
  obtain ⟨hi, hcl⟩ := hx
  rcases Nat.lt_or_ge i (snap).length with hlt | hge
  · refine Run.seq ?_
    refine Run.seq ?_
    refine Run.region ?_
    refine RunL.ok (OpOk.move rfl) rfl ?_
    refine RunL.ok (OpOk.move rfl) rfl ?_
    refine RunL.know (fun w s => (s.conv rfl).ownRd0) (fun rdz1 => ?_)
    refine RunL.ok (OpOk.lenR rfl rfl (Rd.right rdz1) rfl) rfl ?_
    refine RunL.ok (OpOk.asT (OpOk.lss rfl rfl) (by omega)) rfl ?_
    refine RunL.nil ?_
    refine Run.condT rfl ?_
    refine Run.skip ?_
    refine Run.seq ?_
    refine Run.block ?_
    refine Run.region ?_
    refine RunL.ok (OpOk.move rfl) rfl ?_
    refine RunL.ok (OpOk.move rfl) rfl ?_
    refine RunL.ok (OpOk.move rfl) rfl ?_
    refine RunL.ok (OpOk.move rfl) rfl ?_
    refine RunL.ok (OpOk.idx1N rfl ti5 rfl (Rd.right rdz1) rfl (by omega)) rfl ?_
    refine RunL.ok (OpOk.load rfl rfl rfl (Rd.getB (Rd.right rdz1) (by omega))) rfl ?_
    refine RunL.ok (OpOk.xor rfl rfl (x255 _)) rfl ?_
    refine RunL.ok (OpOk.idx1N rfl ti5 rfl (Rd.right rdz1) rfl (by omega)) rfl ?_
    refine RunL.storeB _ ti5 rfl rfl rfl rfl (by omega) ?_
    refine RunL.nil ?_
    refine Run.inBlock ?_
    refine Run.region ?_
    refine RunL.ok (OpOk.move rfl) rfl ?_
    refine RunL.ok (OpOk.addN _ 1 rfl rfl rfl rfl (by omega)) rfl ?_
    refine RunL.ok (OpOk.assign rfl) rfl ?_
    refine RunL.nil ?_
    refine Run.jump ((ih (i + 1, _, cur.set i (cur.getD i 0 ^^^ 255)) ⟨by dsimp only; omega, by dsimp only; rw [List.length_set]; exact hcl⟩ (by dsimp only; omega))) ⟨rfl, rfl, rfl, rfl, rfl, rfl, trivial⟩ (Grew.of (congrArg (· * _) (congrArg (· * _) (congrArg (· * _) (congrArg (· * _) (congrArg (· * _) (congrArg (· * _) (congrArg (· * _) as1))))))) (Grew.refl _))
  · obtain rfl : i = (snap).length := by omega
    clear ih
    refine Run.seq ?_
    refine Run.seq ?_
    refine Run.region ?_
    refine RunL.ok (OpOk.move rfl) rfl ?_
    refine RunL.ok (OpOk.move rfl) rfl ?_
    refine RunL.know (fun w s => (s.conv rfl).ownRd0) (fun rdz1 => ?_)
    refine RunL.ok (OpOk.lenR rfl rfl (Rd.right rdz1) rfl) rfl ?_
    refine RunL.ok (OpOk.asF (OpOk.lss rfl rfl) (by omega)) rfl ?_
    refine RunL.nil ?_
    refine Run.condF rfl ?_
    refine Run.exit rfl ?_
    refine Run.seq ?_
    refine Run.seq ?_
    refine Run.region ?_
    refine RunL.ok (OpOk.assign rfl) rfl ?_
    refine RunL.nil ?_
    refine Run.block ?_
    refine Run.jump ((Run.loopM0 (X := Nat × List Nat × Asn) (fun x => x.2.1) (fun x => [(9, .int .i64 (x.1 : Int)), (5, .int .i64 (k : Int)), (4, .pointer (some ⟨bx2, 0, none⟩)), (3, .pointer (some ⟨bx1, 0, none⟩)), (0, .pointer (some ⟨p, 0, none⟩))]) (fun x => A * x.2.2 * pts bx1 (.cells #[u] 75 (0, 0)) * pts bx2 (.cells #[.bool false] 4 (0, 0)) * pts p (.cells #[sv, .bool true, rv, .pointer (some ⟨fp, 0, none⟩), .bool dn] 149 (0, 0)) * own 5 1 sv (snap).length (B (snap)) * own 63 1 rv (recs).length (Fl encV (recs)) * ownsB 5 (recs)) (fun x => x.1 ≤ 2) (fun x => 2 - x.1) (0, [], _) (Nat.zero_le _) rfl (fun x hx ih => ?_))) ⟨rfl, rfl, rfl, rfl, rfl, trivial⟩ (Grew.of (Eq.trans (frc (frl rfl) (frc (frl rfl) (frc (frl rfl) (frc (frl rfl) (frc (frl rfl) (frc (frl rfl) rfl)))))) (congrArg (· * _) (congrArg (· * _) (congrArg (· * _) (congrArg (· * _) (congrArg (· * _) (congrArg (· * _) (asg as1)))))))) (Grew.refl _))
    obtain ⟨i, ds, J⟩ := x
    simp only at hx ih ⊢
    rcases Nat.lt_or_ge i 2 with hlt | hge
    · refine Run.seq ?_
      refine Run.seq ?_
      refine Run.region ?_
      refine RunL.ok (OpOk.move rfl) rfl ?_
      refine RunL.ok (OpOk.asT (OpOk.lss rfl rfl) (by omega)) rfl ?_
      refine RunL.nil ?_
      refine Run.condT rfl ?_
      refine Run.skip ?_
      refine Run.seq ?_
      refine Run.block ?_
      refine Run.seq ?_
      refine Run.region ?_
      refine RunL.ok (OpOk.move rfl) rfl ?_
      refine RunL.ok (OpOk.addN _ 1 rfl rfl rfl rfl (by omega)) rfl ?_
      refine RunL.alloc ti3 rfl (fun bq1 => ?_)
      refine RunL.store ti3 rfl rfl rfl rfl (by exact Nat.le_of_ble_eq_true rfl) (.inl rfl) ?_
      refine RunL.nil ?_
      refine Run.seq ?_
      refine Run.seq ?_
      refine Run.region ?_
      refine RunL.ok (OpOk.move rfl) rfl ?_
      refine RunL.mem (frc (frl (frl rfl)) (frc (frl (frl rfl)) (frc (frl (frl rfl)) (frc (frl (frl rfl)) rfl)))) ?_
      refine RunL.call cal30 rfl (s30 (by omega)) rfl (fun vq2 Aq2 hq2 => ?_)
      obtain ⟨q3, ⟨q4, ⟨rfl, rfl⟩⟩⟩ := hq2
      refine RunL.nil ?_
      refine Run.block ?_
      refine Run.rangeF (Z := Asn × Int) (iterJ (recs := recs) (b := q3) (v := q4) (by omega) hb) rfl rfl (fun z => A * z.1 * pts bx1 (.cells #[u] 75 (0, 0)) * pts bx2 (.cells #[.bool false] 4 (0, 0)) * pts p (.cells #[sv, .bool true, rv, .pointer (some ⟨fp, 0, none⟩), .bool dn] 149 (0, 0)) * own 5 1 sv (snap).length (B (snap)) * own 63 1 rv recs.length (Fl encV recs) * pts bq1 (.cells #[.int .i64 z.2] 3 (0, 0))) (fun i z => z.2 = (((k + 1) + i : Nat) : Int)) (fun _ _ => False) (J, (((k + 1) : Nat) : Int)) rfl ?_ (fun RR l rc j z uu J3 hj hz hgo _ _ => ?_) (fun z J3 D hz => ?_) (fun c z J3 D hz => hz.elim)
      · have e0 : ((k : Int) : Int) + 1 = (((k + 1) : Nat) : Int) := by omega
        try rw [e0]
        show _ * pts bq1 (.cells #[.int .i64 (((k + 1) : Nat) : Int)] 3 (0, 0)) * _ * _ * _ * _ * _ * _ = _
        dsimp only
        simp only [← sep_assoc]
        exact (frc (frl (frl (frl (frl (frl (frl (frl rfl))))))) (frc (frl (frl rfl)) (frc rfl (frc rfl (frc (frl (frl (frl rfl))) rfl)))))
      · obtain ⟨J2, nk⟩ := z
        have hz : nk = (((k + 1) + j : Nat) : Int) := hz
        subst hz
        have hjT : (k + 1) + j < T.length := by omega
        have hbd : (recs.getD j default).2 = (T.getD ((k + 1) + j) default).2 := hel j hj
        have hbi := hb _ (getD_mem hj)
        refine Run.region ?_
        refine RunL.ok (OpOk.assign rfl) rfl ?_
        refine RunL.nil ?_
        refine Run.beginRound ?_
        refine Run.block ?_
        refine Run.seq ?_
        refine Run.seq ?_
        refine Run.know (fun w s => (s.conv (frl (frl rfl))).ownRd0) (fun rdt1 => ?_)
        (apply Run.drawD [] (by rfl) (sep_emp _).symm; case hchk => kernel_rfl)
        refine Sd.quiet 0 _ _ rfl rfl rfl rfl rfl (QOp.ok (fun X => OpOk.load rfl rfl rfl (Blk.out Blk.pts.left.left.left.left.left _ _ (by first | rfl | assumption)))) ?_
        refine Sd.quiet 1 _ _ rfl rfl rfl rfl rfl (QOp.ok (fun X => OpOk.load rfl rfl rfl (Blk.out Blk.pts.left.left.left.left.left.left.left.left.left.left _ _ (by first | rfl | assumption)))) ?_
        refine Sd.quiet 2 _ _ rfl rfl rfl rfl rfl (QOp.ok (fun X => OpOk.lenR rfl rfl rd.left.left.left.left.left.left.left.left.left.left.left.left rfl)) ?_
        refine Sd.quiet 3 _ _ rfl rfl rfl rfl rfl (QOp.ok (fun X => OpOk.asF (OpOk.geq rfl rfl) (by omega))) ?_
        refine Sd.quiet 4 _ _ rfl rfl rfl rfl rfl (QOp.ok (fun X => OpOk.move rfl)) ?_
        refine Sd.quiet 5 _ _ rfl rfl rfl rfl rfl (QOp.ok (fun X => OpOk.move rfl)) ?_
        refine Sd.quiet 6 _ _ rfl rfl rfl rfl rfl (QOp.ok (fun X => OpOk.strOf rfl rfl rfl rfl (Rd.right rdt1).left.left.left.left)) ?_
        refine Sd.quiet 7 _ _ rfl rfl rfl rfl rfl (QOp.ok (fun X => OpOk.load rfl rfl rfl (Blk.out Blk.pts.left.left.left.left.left.left.left.left.left.left _ _ (by first | rfl | assumption)))) ?_
        refine Sd.quiet 8 _ _ rfl rfl rfl rfl rfl (QOp.ok (fun X => OpOk.load rfl rfl rfl (Blk.out Blk.pts.left.left.left.left.left _ _ (by first | rfl | assumption)))) ?_
        refine Sd.quiet 9 _ _ rfl rfl rfl rfl rfl (QOp.ok (fun X => OpOk.idxN rfl ti159 rfl rd.left.left.left.left.left.left.left.left.left.left.left.left rfl (by omega))) ?_
        refine Sd.quiet 10 _ _ rfl rfl rfl rfl rfl (QOp.ok (fun X => OpOk.fieldAddrA fld159_1 rfl)) ?_
        refine Sd.quiet 11 _ _ rfl rfl rfl rfl rfl (QOp.ok (fun X => OpOk.loadFl1 default rfl rfl rfl rd.left.left.left.left.left.left.left.left.left.left.left.left (fun _ => rfl) rfl (by omega) rfl)) ?_
        refine Sd.quiet 12 _ _ rfl rfl rfl rfl rfl (QOp.ok (fun X => OpOk.as (c := false) (OpOk.neqSS rfl rfl) (by rw [decide_eq_true (by omega)]; rfl))) ?_
        refine Sd.quiet 13 _ _ rfl rfl rfl rfl rfl (QOp.ok (fun X => OpOk.pickF rfl rfl)) ?_
        (apply Sd.tail; case hall => kernel_rfl)
        refine RunL.mem (fl2 (sep_emp _) (sep_emp _)) ?_
        refine RunL.nil ?_
        refine Run.condF rfl ?_
        refine Run.skip ?_
        refine Run.seq ?_
        refine Run.seq ?_
        refine Run.region ?_
        refine RunL.ok (OpOk.assign rfl) rfl ?_
        refine RunL.nil ?_
        refine Run.block ?_
        refine Run.jump ((Run.loopJ (X := Nat × List UInt8) (fun x => [(12, .int .i64 (x.1 : Int)), (11, uu), (10, .pointer (some ⟨bq1, 0, none⟩))]) (fun x => A * J2 * pts bx1 (.cells #[u] 75 (0, 0)) * pts bx2 (.cells #[.bool false] 4 (0, 0)) * pts p (.cells #[sv, .bool true, rv, .pointer (some ⟨fp, 0, none⟩), .bool dn] 149 (0, 0)) * own 5 1 sv (snap).length (B (snap)) * own 63 1 rv recs.length (Fl encV recs) * pts bq1 (.cells #[.int .i64 (((k + 1) + j : Nat) : Int)] 3 (0, 0)) * J3 * lp l rc .busy none * own 5 1 uu (recs.getD j default).2.length (B x.2)) (fun x => x.1 ≤ (recs.getD j default).2.length ∧ x.2.length = (recs.getD j default).2.length) (fun x => (recs.getD j default).2.length - x.1) (0, (recs.getD j default).2) ⟨Nat.zero_le _, rfl⟩ (fun x hx ih3 => ?_))) ⟨rfl, rfl, rfl, trivial⟩ (Grew.of (frc (frl (frl rfl)) rfl) (Grew.refl _))
        obtain ⟨i3, cur⟩ := x
        simp only at hx ih3 ⊢
        obtain ⟨hi3, hcl⟩ := hx
        rcases Nat.lt_or_ge i3 (recs.getD j default).2.length with hlt3 | hge3
        · refine Run.seq ?_
          refine Run.seq ?_
          refine Run.region ?_
          refine RunL.ok (OpOk.move rfl) rfl ?_
          refine RunL.ok (OpOk.move rfl) rfl ?_
          refine RunL.know (fun w s => (s.conv rfl).ownRd0) (fun rds1 => ?_)
          refine RunL.ok (OpOk.lenR rfl rfl (Rd.right rds1) rfl) rfl ?_
          refine RunL.ok (OpOk.asT (OpOk.lss rfl rfl) (by omega)) rfl ?_
          refine RunL.nil ?_
          refine Run.condT rfl ?_
          refine Run.skip ?_
          refine Run.seq ?_
          refine Run.block ?_
          refine Run.region ?_
          refine RunL.ok (OpOk.move rfl) rfl ?_
          refine RunL.ok (OpOk.move rfl) rfl ?_
          refine RunL.ok (OpOk.move rfl) rfl ?_
          refine RunL.ok (OpOk.move rfl) rfl ?_
          refine RunL.ok (OpOk.idx1N rfl ti5 rfl (Rd.right rds1) rfl (by omega)) rfl ?_
          refine RunL.ok (OpOk.load rfl rfl rfl (Rd.getB (Rd.right rds1) (by omega))) rfl ?_
          refine RunL.ok (OpOk.xor rfl rfl (x255 _)) rfl ?_
          refine RunL.ok (OpOk.idx1N rfl ti5 rfl (Rd.right rds1) rfl (by omega)) rfl ?_
          refine RunL.storeB _ ti5 rfl rfl rfl rfl (by omega) ?_
          refine RunL.nil ?_
          refine Run.inBlock ?_
          refine Run.region ?_
          refine RunL.ok (OpOk.move rfl) rfl ?_
          refine RunL.ok (OpOk.addN _ 1 rfl rfl rfl rfl (by omega)) rfl ?_
          refine RunL.ok (OpOk.assign rfl) rfl ?_
          refine RunL.nil ?_
          refine Run.jump ((ih3 (i3 + 1, cur.set i3 (cur.getD i3 0 ^^^ 255)) ⟨by dsimp only; omega, by dsimp only; rw [List.length_set]; exact hcl⟩ (by dsimp only; omega))) ⟨rfl, rfl, rfl, trivial⟩ ((Grew.refl _))
        · obtain rfl : i3 = (recs.getD j default).2.length := by omega
          clear ih3
          refine Run.seq ?_
          refine Run.seq ?_
          refine Run.region ?_
          refine RunL.ok (OpOk.move rfl) rfl ?_
          refine RunL.ok (OpOk.move rfl) rfl ?_
          refine RunL.know (fun w s => (s.conv rfl).ownRd0) (fun rds1 => ?_)
          refine RunL.ok (OpOk.lenR rfl rfl (Rd.right rds1) rfl) rfl ?_
          refine RunL.ok (OpOk.asF (OpOk.lss rfl rfl) (by omega)) rfl ?_
          refine RunL.nil ?_
          refine Run.condF rfl ?_
          refine Run.exit rfl ?_
          refine Run.region ?_
          refine RunL.ok (OpOk.load rfl rfl rfl (Blk.out Blk.pts.left.left.left _ _ (by first | rfl | assumption))) rfl ?_
          refine RunL.ok (OpOk.addN _ 1 rfl rfl rfl rfl (by omega)) rfl ?_
          refine RunL.store ti3 rfl rfl rfl (frl (frl (frl rfl))) (by exact Nat.le_of_ble_eq_true rfl) (.inl rfl) ?_
          refine RunL.nil ?_
          refine Run.inBlock ?_
          refine Run.jump ((hgo (_, (((k + 1) + j + 1 : Nat) : Int)) (by dsimp only; omega) [])) trivial (Grew.of (Eq.trans (frc (frl (frl rfl)) (frc (frl (frl rfl)) (frc rfl (frc (frl rfl) (frc (frl rfl) (frc (frl rfl) (frc (frl rfl) (frc (frl rfl) rfl)))))))) (congrArg (· * _) (congrArg (· * _) (congrArg (· * _) (congrArg (· * _) (congrArg (· * _) (congrArg (· * _) (congrArg (· * _) (congrArg (· * _) (asg as1)))))))))) (Grew.refl _))
      · obtain ⟨J2, nk⟩ := z
        have hz : nk = (((k + 1) + recs.length : Nat) : Int) := hz
        subst hz
        refine Run.inBlock ?_
        refine Run.seq ?_
        refine Run.region ?_
        refine RunL.ok (OpOk.load rfl rfl rfl (Blk.out Blk.pts.left.left.left _ _ (by first | rfl | assumption))) rfl ?_
        refine RunL.ok (OpOk.load rfl rfl rfl (Blk.out Blk.pts.left.left.left.left.left.left.left.left _ _ (by first | rfl | assumption))) rfl ?_
        refine RunL.ok (OpOk.lenR rfl rfl rd.left.left.left.left.left.left.left.left.left.left rfl) rfl ?_
        refine RunL.ok (OpOk.as (c := false) (OpOk.neq rfl rfl) (by rw [decide_eq_true (by omega)]; rfl)) rfl ?_
        refine RunL.nil ?_
        refine Run.condF rfl ?_
        refine Run.skip ?_
        refine Run.inBlock ?_
        refine Run.region ?_
        refine RunL.ok (OpOk.move rfl) rfl ?_
        refine RunL.ok (OpOk.addN _ 1 rfl rfl rfl rfl (by omega)) rfl ?_
        refine RunL.ok (OpOk.assign rfl) rfl ?_
        refine RunL.nil ?_
        refine Run.jump ((ih (i + 1, D :: ds, _) (by dsimp only; omega) (by dsimp only; omega))) ⟨rfl, rfl, rfl, rfl, rfl, trivial⟩ (Grew.of (Eq.trans (frc rfl (frc (frl rfl) (frc (frl (frl rfl)) (frc (frl (frl rfl)) (frc (frl (frl rfl)) (frc (frl (frl rfl)) (frc (frl (frl rfl)) rfl))))))) (congrArg (· * _) (congrArg (· * _) (congrArg (· * _) (congrArg (· * _) (congrArg (· * _) (congrArg (· * _) (congrArg (· * _) (asg (asg as1)))))))))) (Grew.refl _))
    · obtain rfl : i = 2 := by omega
      clear ih
      refine Run.seq ?_
      refine Run.seq ?_
      refine Run.region ?_
      refine RunL.ok (OpOk.move rfl) rfl ?_
      refine RunL.ok (OpOk.asF (OpOk.lss rfl rfl) (by omega)) rfl ?_
      refine RunL.nil ?_
      refine Run.condF rfl ?_
      refine Run.exit rfl ?_
      refine Run.seq ?_
      refine Run.region ?_
      refine RunL.store ti4 rfl rfl rfl (frl (frl (frl (frl (frl rfl))))) (by exact Nat.le_of_ble_eq_true rfl) (.inl rfl) ?_
      refine RunL.nil ?_
      refine Run.mem (frc (frl rfl) rfl) ?_
      refine Run.shut ?_
      refine Run.retC1 (A' := _) Try.func36 rfl rfl rfl rfl Blk.pts rfl (Grew.refl _) ?_
      exact ⟨_, rfl, (Eq.trans (frc (frl rfl) (frc (frl rfl) (frc (frl rfl) (frc (frl rfl) rfl)))) (congrArg (· * _) (congrArg (· * _) (congrArg (· * _) (congrArg (· * _) (asg (asg as1)))))))⟩
/-- What a journal has is what these rows say. -/
structure Says (T : List Th) (C : Cn) : Prop where
  out : Rel (T.map Prod.snd) (snapI 0 T (-1)) C
theorem s36 {u : Value} {m : Nat} {T : List Th} (rd : Rd w0 A u 2 m (Fl encT159 T)) (hrel : Says T (snap, has, recs.map Prod.snd)) (hm : T.length ≤ 16777216) (hb : ∀ r ∈ recs, r.2.length ≤ 16777216) (hsl : snap.length ≤ 16777216) :
    Spec Try.prog w0 36 [.pointer (some ⟨p, 0, none⟩), u] (A * pts p (.cells #[sv, .bool has, rv, .pointer (some ⟨fp, 0, none⟩), .bool dn] 149 (0, 0)) * own 5 1 sv (snap).length (B (snap)) * own 63 1 rv (recs).length (Fl encV (recs)) * ownsB 5 (recs)) (fun v' A' => ∃ J, v' = .bool true ∧ A' = A * J * pts p (.cells #[sv, .bool has, rv, .pointer (some ⟨fp, 0, none⟩), .bool dn] 149 (0, 0)) * own 5 1 sv (snap).length (B (snap)) * own 63 1 rv (recs).length (Fl encV (recs)) * ownsB 5 (recs)) := by
  have hl0 := rd.lenFl (fun _ => rfl) (by decide)
  subst hl0
  obtain ⟨h1, h2⟩ | ⟨k, h1, h2, h3⟩ := hrel.out
  · simp only [Prod.mk.injEq] at h2
    obtain ⟨rfl, rfl, h3⟩ := h2
    exact showsA rd h1 h3 rfl hm hb
  · simp only [Prod.mk.injEq] at h3
    obtain ⟨h4, rfl, h5⟩ := h3
    rw [List.length_map] at h2
    refine showsB rd h1 h2 h5 ?_ hm hb hsl
    rw [h4, List.getD_eq_getElem?_getD, List.getD_eq_getElem?_getD, List.getElem?_map, List.getElem?_eq_getElem h2]
    rfl
end
end Go.Proofs.Yteopadjihklkmaa
