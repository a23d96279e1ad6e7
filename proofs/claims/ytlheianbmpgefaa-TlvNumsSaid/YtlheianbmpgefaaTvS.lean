/- Numbers and their bytes, walked. -/
import Derived.Test.YtlheianbmpgefaaTvM
import Derived.Test.YtlheianbmpgefaaTvJ
import Derived.Test.YtlheianbmpgefaaDw
namespace Go.Proofs.Ytlheianbmpgefaa
open Go Go.Proofs
set_option maxRecDepth 100000
set_option maxHeartbeats 4000000
set_option linter.unusedSimpArgs false
/-- The first and the last i places swapped. -/
def Rv (bs cs : List UInt8) (i : Nat) : Prop := cs.length = bs.length ∧ ∀ k, k < bs.length → cs.getD k 0 = if k < i ∨ bs.length ≤ k + i then bs.getD (bs.length - 1 - k) 0 else bs.getD k 0
theorem Rv.new (bs : List UInt8) : Rv bs bs 0 := ⟨rfl, fun k hk => by rw [if_neg (by omega)]⟩
theorem getD_setB {l : List UInt8} {i k : Nat} {x : UInt8} (h : i < l.length) : (l.set i x).getD k 0 = if k = i then x else l.getD k 0 := by
  rw [List.getD_eq_getElem?_getD, List.getElem?_set]
  rcases Decidable.em (i = k) with e | e
  · subst e
    rw [if_pos rfl, if_pos rfl, if_pos h]; rfl
  · rw [if_neg e, if_neg (fun h => e h.symm), ← List.getD_eq_getElem?_getD]
theorem Rv.step {bs cs : List UInt8} {i j : Nat} (h : Rv bs cs i) (hij : i < j) (hj : j + i + 1 = bs.length) : Rv bs ((cs.set i (cs.getD j 0)).set j (cs.getD i 0)) (i + 1) := by
  obtain ⟨h1, h2⟩ := h
  refine ⟨by simp [h1], fun k hk => ?_⟩
  rw [getD_setB (by rw [List.length_set]; omega), getD_setB (by omega), h2 i (by omega), h2 j (by omega), h2 k hk]
  rcases Decidable.em (k = j) with e1 | e1
  · subst e1
    rw [if_pos rfl, if_neg (by omega), if_pos (by omega), show bs.length - 1 - k = i by omega]
  · rw [if_neg e1]
    rcases Decidable.em (k = i) with e2 | e2
    · subst e2
      rw [if_pos rfl, if_neg (by omega), if_pos (by omega), show bs.length - 1 - k = j by omega]
    · rw [if_neg e2]
      rcases Decidable.em (k < i ∨ bs.length ≤ k + i) with e3 | e3
      · rw [if_pos e3, if_pos (by omega)]
      · rw [if_neg e3, if_neg (by omega)]
theorem Rv.done {bs cs : List UInt8} {i : Nat} (h : Rv bs cs i) (hi : bs.length ≤ 2 * i + 1) : cs = bs.reverse := by
  obtain ⟨h1, h2⟩ := h
  refine List.ext_getElem (by simp [h1]) fun k hk1 hk2 => ?_
  have h3 := h2 k (by omega)
  rw [List.getD_eq_getElem?_getD, List.getElem?_eq_getElem hk1, Option.getD_some] at h3
  rw [h3, List.getElem_reverse]
  have hb : bs.getD (bs.length - 1 - k) 0 = bs[bs.length - 1 - k]'(by omega) := by
    rw [List.getD_eq_getElem?_getD, List.getElem?_eq_getElem (by omega), Option.getD_some]
  rcases Decidable.em (k < i ∨ bs.length ≤ k + i) with e3 | e3
  · rw [if_pos e3, hb]
  · rw [if_neg e3, ← hb, show bs.length - 1 - k = k by omega]
section
variable {w0 : World} {A : Asn}
theorem s50 {v : Value} {bs : List UInt8} : Spec Try.prog w0 50 [v] (A * own 5 1 v bs.length (B bs)) (fun _ A' => A' = A * own 5 1 v bs.length (B bs.reverse)) := by
  refine Spec.of_run [(0, v)] Try.func50 rfl (Nat.le_of_ble_eq_true rfl) (by repeat (first | exact trivial | refine ⟨rfl, ?_⟩)) ?_
  refine Run.know (fun w s => s.ownRd0) (fun rdv => ?_)
  have hmx := rdv.max
  refine Run.seq ?_
  refine Run.region ?_
  refine RunL.ok (OpOk.move rfl) rfl ?_
  refine RunL.ok (OpOk.lenR rfl rfl (Rd.right rdv) rfl) rfl ?_
  refine RunL.ok (OpOk.sub rfl rfl (wrapI (by omega) (by omega))) rfl ?_
  refine RunL.ok (OpOk.assign rfl) rfl ?_
  refine RunL.ok (OpOk.assign rfl) rfl ?_
  refine RunL.nil ?_
  refine Run.block ?_
  refine Run.jump ((Run.loopJ (X := Nat × Int × List UInt8) (fun x => [(2, .int .i64 (x.1 : Int)), (3, .int .i64 x.2.1), (0, v)]) (fun x => A * own 5 1 v bs.length (B x.2.2)) (fun x => x.2.1 = (bs.length : Int) - 1 - (x.1 : Int) ∧ 2 * x.1 ≤ bs.length + 1 ∧ Rv bs x.2.2 x.1) (fun x => bs.length + 1 - x.1) (0, (bs.length : Int) - 1, bs) ⟨by simp, by simp, Rv.new bs⟩ (fun x hx ih => ?_))) ⟨rfl, rfl, rfl, trivial⟩ ((Grew.refl _))
  obtain ⟨i, jj, cs⟩ := x
  simp only at hx ih ⊢
  obtain ⟨hjj, hi2, hrv⟩ := hx
  have hcl := hrv.1
  rcases Decidable.em ((i : Int) < jj) with hlt | hge
  · obtain ⟨j, rfl⟩ := Int.eq_ofNat_of_zero_le (show 0 ≤ jj by omega)
    have hst := hrv.step (j := j) (by omega) (by omega)
    have drawStop : True := trivial
    refine Run.seq ?_
    refine Run.seq ?_
    refine Run.region ?_
    refine RunL.ok (OpOk.move rfl) rfl ?_
    refine RunL.ok (OpOk.move rfl) rfl ?_
    refine RunL.ok (OpOk.asT (OpOk.lss rfl rfl) (by omega)) rfl ?_
    refine RunL.nil ?_
    refine Run.condT rfl ?_
    refine Run.skip ?_
    refine Run.seq ?_
    refine Run.block ?_
    clear drawStop
    refine Run.know (fun w s => s.ownRd0) (fun rdc => ?_)
    refine Run.drawL [] (by rfl) (A := A) (L := own 5 1 v bs.length (B cs)) rfl (by kernel_rfl) ?_
    refine St.quiet 0 _ _ rfl rfl rfl rfl (QOp.ok (fun X => OpOk.move rfl)) ?_
    refine St.quiet 1 _ _ rfl rfl rfl rfl (QOp.ok (fun X => OpOk.move rfl)) ?_
    refine St.quiet 2 _ _ rfl rfl rfl rfl (QOp.ok (fun X => OpOk.move rfl)) ?_
    refine St.quiet 3 _ _ rfl rfl rfl rfl (QOp.ok (fun X => OpOk.move rfl)) ?_
    refine St.quiet 4 _ _ rfl rfl rfl rfl (QOp.ok (fun X => OpOk.move rfl)) ?_
    refine St.quiet 5 _ _ rfl rfl rfl rfl (QOp.ok (fun X => OpOk.move rfl)) ?_
    refine St.quiet 6 _ _ rfl rfl rfl rfl (QOp.ok (fun X => OpOk.idxAny1N rfl ti5 rfl rdv rfl (by omega))) ?_
    refine St.quiet 8 _ _ rfl rfl rfl rfl (QOp.ok (fun X => OpOk.move rfl)) ?_
    refine St.quiet 9 _ _ rfl rfl rfl rfl (QOp.ok (fun X => OpOk.move rfl)) ?_
    refine St.quiet 10 _ _ rfl rfl rfl rfl (QOp.ok (fun X => OpOk.idxAny1N rfl ti5 rfl rdv rfl (by omega))) ?_
    refine St.quiet 12 _ _ rfl rfl rfl rfl (QOp.ok (fun X => OpOk.idxAny1N rfl ti5 rfl rdv rfl (by omega))) ?_
    refine St.quiet 14 _ _ rfl rfl rfl rfl (QOp.ok (fun X => OpOk.idxAny1N rfl ti5 rfl rdv rfl (by omega))) ?_
    refine St.chain2 7 _ (fun x P' L' => x = .int .u8 ((cs.getD j 0).toNat : Int) ∧ P' = emp ∧ L' = own 5 1 v bs.length (B cs)) 11 _ (fun x P' L' => x = .int .u8 ((cs.getD i 0).toNat : Int) ∧ P' = emp ∧ L' = own 5 1 v bs.length (B cs)) (by decide) rfl rfl rfl rfl rfl rfl rfl rfl (by kernel_rfl) ?_ ?_ (fun _ P' L' h => ⟨emp, by rw [h.2.1, sep_emp]⟩) (fun _ P' L' h => ⟨emp, by rw [h.2.1, sep_emp]⟩) ?_ ?_
    · refine COp.of (ops := #[]) (by rfl) (fun K hk => RunL.ok (OpOk.load rfl rfl rfl (Rd.getB (Rd.right rdc) (by omega))) rfl (hk _ _ _ ⟨rfl, rfl, rfl⟩))
    · refine COp.of (ops := #[]) (by rfl) (fun K hk => RunL.ok (OpOk.load rfl rfl rfl (Rd.getB (Rd.right rdc) (by omega))) rfl (hk _ _ _ ⟨rfl, rfl, rfl⟩))
    · rintro _ P' L' ⟨rfl, rfl, rfl⟩
      refine St.chain 11 _ (fun x P' L' => x = .int .u8 ((cs.getD i 0).toNat : Int) ∧ P' = emp ∧ L' = own 5 1 v bs.length (B cs)) rfl rfl rfl rfl (by kernel_rfl) ?_ ?_ (fun _ P' L' h => ⟨emp, by rw [h.2.1, sep_emp]⟩)
      · refine COp.of (ops := #[]) (by rfl) (fun K hk => RunL.ok (OpOk.load rfl rfl rfl (Rd.getB (Rd.right rdc) (by omega))) rfl (hk _ _ _ ⟨rfl, rfl, rfl⟩))
      · rintro _ P' L' ⟨rfl, rfl, rfl⟩
        refine St.chain2 13 _ (fun _ P' L' => P' = emp ∧ L' = own 5 1 v bs.length (B (cs.set i (cs.getD j 0)))) 15 _ (fun _ P' L' => P' = emp ∧ L' = own 5 1 v bs.length (B (cs.set j (cs.getD i 0)))) (by decide) rfl rfl rfl rfl rfl rfl rfl rfl (by kernel_rfl) ?_ ?_ (fun _ P' L' h => ⟨emp, by rw [h.1, sep_emp]⟩) (fun _ P' L' h => ⟨emp, by rw [h.1, sep_emp]⟩) ?_ ?_
        · refine COp.ofS (ops := #[]) (fun K hk => RunL.storeB (cs.getD j 0) ti5 rfl rfl rfl rfl (by omega) (hk _ _ ⟨rfl, rfl⟩))
        · refine COp.ofS (ops := #[]) (fun K hk => RunL.storeB (cs.getD i 0) ti5 rfl rfl rfl rfl (by omega) (hk _ _ ⟨rfl, rfl⟩))
        · rintro _ P' L' ⟨rfl, rfl⟩
          refine St.chain 15 _ (fun _ P' L' => P' = emp ∧ L' = own 5 1 v bs.length (B ((cs.set i (cs.getD j 0)).set j (cs.getD i 0)))) rfl rfl rfl rfl (by kernel_rfl) ?_ ?_ (fun _ P' L' h => ⟨emp, by rw [h.1, sep_emp]⟩)
          · refine COp.ofS (ops := #[]) (fun K hk => RunL.storeB (cs.getD i 0) ti5 rfl rfl rfl rfl (by omega) (hk _ _ ⟨rfl, rfl⟩))
          · rintro _ P' L' ⟨rfl, rfl⟩
            refine St.tail (by kernel_rfl) ?_
            refine RunL.mem (by rw [sep_emp]) ?_
            skip
            refine RunL.nil ?_
            refine Run.inBlock ?_
            refine Run.region ?_
            refine RunL.ok (OpOk.move rfl) rfl ?_
            refine RunL.ok (OpOk.addN _ 1 rfl rfl rfl rfl (by omega)) rfl ?_
            refine RunL.ok (OpOk.move rfl) rfl ?_
            refine RunL.ok (OpOk.subN _ 1 rfl rfl rfl rfl (by omega) (by omega)) rfl ?_
            refine RunL.ok (OpOk.assign rfl) rfl ?_
            refine RunL.ok (OpOk.assign rfl) rfl ?_
            refine RunL.nil ?_
            refine Run.jump ((ih (i + 1, ((j - 1 : Nat) : Int), _) ⟨by dsimp only; omega, by dsimp only; omega, hst⟩ (by dsimp only; omega))) ⟨rfl, rfl, rfl, trivial⟩ ((Grew.refl _))
        · rintro _ P' L' ⟨rfl, rfl⟩
          refine St.chain 13 _ (fun _ P' L' => P' = emp ∧ L' = own 5 1 v bs.length (B ((cs.set j (cs.getD i 0)).set i (cs.getD j 0)))) rfl rfl rfl rfl (by kernel_rfl) ?_ ?_ (fun _ P' L' h => ⟨emp, by rw [h.1, sep_emp]⟩)
          · refine COp.ofS (ops := #[]) (fun K hk => RunL.storeB (cs.getD j 0) ti5 rfl rfl rfl rfl (by omega) (hk _ _ ⟨rfl, rfl⟩))
          · rintro _ P' L' ⟨rfl, rfl⟩
            refine St.tail (by kernel_rfl) ?_
            refine RunL.mem (by rw [sep_emp]) ?_
            rw [← List.set_comm _ _ (show i ≠ j by omega)]
            refine RunL.nil ?_
            refine Run.inBlock ?_
            refine Run.region ?_
            refine RunL.ok (OpOk.move rfl) rfl ?_
            refine RunL.ok (OpOk.addN _ 1 rfl rfl rfl rfl (by omega)) rfl ?_
            refine RunL.ok (OpOk.move rfl) rfl ?_
            refine RunL.ok (OpOk.subN _ 1 rfl rfl rfl rfl (by omega) (by omega)) rfl ?_
            refine RunL.ok (OpOk.assign rfl) rfl ?_
            refine RunL.ok (OpOk.assign rfl) rfl ?_
            refine RunL.nil ?_
            refine Run.jump ((ih (i + 1, ((j - 1 : Nat) : Int), _) ⟨by dsimp only; omega, by dsimp only; omega, hst⟩ (by dsimp only; omega))) ⟨rfl, rfl, rfl, trivial⟩ ((Grew.refl _))
    · rintro _ P' L' ⟨rfl, rfl, rfl⟩
      refine St.chain 7 _ (fun x P' L' => x = .int .u8 ((cs.getD j 0).toNat : Int) ∧ P' = emp ∧ L' = own 5 1 v bs.length (B cs)) rfl rfl rfl rfl (by kernel_rfl) ?_ ?_ (fun _ P' L' h => ⟨emp, by rw [h.2.1, sep_emp]⟩)
      · refine COp.of (ops := #[]) (by rfl) (fun K hk => RunL.ok (OpOk.load rfl rfl rfl (Rd.getB (Rd.right rdc) (by omega))) rfl (hk _ _ _ ⟨rfl, rfl, rfl⟩))
      · rintro _ P' L' ⟨rfl, rfl, rfl⟩
        refine St.chain2 13 _ (fun _ P' L' => P' = emp ∧ L' = own 5 1 v bs.length (B (cs.set i (cs.getD j 0)))) 15 _ (fun _ P' L' => P' = emp ∧ L' = own 5 1 v bs.length (B (cs.set j (cs.getD i 0)))) (by decide) rfl rfl rfl rfl rfl rfl rfl rfl (by kernel_rfl) ?_ ?_ (fun _ P' L' h => ⟨emp, by rw [h.1, sep_emp]⟩) (fun _ P' L' h => ⟨emp, by rw [h.1, sep_emp]⟩) ?_ ?_
        · refine COp.ofS (ops := #[]) (fun K hk => RunL.storeB (cs.getD j 0) ti5 rfl rfl rfl rfl (by omega) (hk _ _ ⟨rfl, rfl⟩))
        · refine COp.ofS (ops := #[]) (fun K hk => RunL.storeB (cs.getD i 0) ti5 rfl rfl rfl rfl (by omega) (hk _ _ ⟨rfl, rfl⟩))
        · rintro _ P' L' ⟨rfl, rfl⟩
          refine St.chain 15 _ (fun _ P' L' => P' = emp ∧ L' = own 5 1 v bs.length (B ((cs.set i (cs.getD j 0)).set j (cs.getD i 0)))) rfl rfl rfl rfl (by kernel_rfl) ?_ ?_ (fun _ P' L' h => ⟨emp, by rw [h.1, sep_emp]⟩)
          · refine COp.ofS (ops := #[]) (fun K hk => RunL.storeB (cs.getD i 0) ti5 rfl rfl rfl rfl (by omega) (hk _ _ ⟨rfl, rfl⟩))
          · rintro _ P' L' ⟨rfl, rfl⟩
            refine St.tail (by kernel_rfl) ?_
            refine RunL.mem (by rw [sep_emp]) ?_
            skip
            refine RunL.nil ?_
            refine Run.inBlock ?_
            refine Run.region ?_
            refine RunL.ok (OpOk.move rfl) rfl ?_
            refine RunL.ok (OpOk.addN _ 1 rfl rfl rfl rfl (by omega)) rfl ?_
            refine RunL.ok (OpOk.move rfl) rfl ?_
            refine RunL.ok (OpOk.subN _ 1 rfl rfl rfl rfl (by omega) (by omega)) rfl ?_
            refine RunL.ok (OpOk.assign rfl) rfl ?_
            refine RunL.ok (OpOk.assign rfl) rfl ?_
            refine RunL.nil ?_
            refine Run.jump ((ih (i + 1, ((j - 1 : Nat) : Int), _) ⟨by dsimp only; omega, by dsimp only; omega, hst⟩ (by dsimp only; omega))) ⟨rfl, rfl, rfl, trivial⟩ ((Grew.refl _))
        · rintro _ P' L' ⟨rfl, rfl⟩
          refine St.chain 13 _ (fun _ P' L' => P' = emp ∧ L' = own 5 1 v bs.length (B ((cs.set j (cs.getD i 0)).set i (cs.getD j 0)))) rfl rfl rfl rfl (by kernel_rfl) ?_ ?_ (fun _ P' L' h => ⟨emp, by rw [h.1, sep_emp]⟩)
          · refine COp.ofS (ops := #[]) (fun K hk => RunL.storeB (cs.getD j 0) ti5 rfl rfl rfl rfl (by omega) (hk _ _ ⟨rfl, rfl⟩))
          · rintro _ P' L' ⟨rfl, rfl⟩
            refine St.tail (by kernel_rfl) ?_
            refine RunL.mem (by rw [sep_emp]) ?_
            rw [← List.set_comm _ _ (show i ≠ j by omega)]
            refine RunL.nil ?_
            refine Run.inBlock ?_
            refine Run.region ?_
            refine RunL.ok (OpOk.move rfl) rfl ?_
            refine RunL.ok (OpOk.addN _ 1 rfl rfl rfl rfl (by omega)) rfl ?_
            refine RunL.ok (OpOk.move rfl) rfl ?_
            refine RunL.ok (OpOk.subN _ 1 rfl rfl rfl rfl (by omega) (by omega)) rfl ?_
            refine RunL.ok (OpOk.assign rfl) rfl ?_
            refine RunL.ok (OpOk.assign rfl) rfl ?_
            refine RunL.nil ?_
            refine Run.jump ((ih (i + 1, ((j - 1 : Nat) : Int), _) ⟨by dsimp only; omega, by dsimp only; omega, hst⟩ (by dsimp only; omega))) ⟨rfl, rfl, rfl, trivial⟩ ((Grew.refl _))
  · clear ih
    have hd := hrv.done (by omega)
    subst hd
    refine Run.seq ?_
    refine Run.seq ?_
    refine Run.region ?_
    refine RunL.ok (OpOk.move rfl) rfl ?_
    refine RunL.ok (OpOk.move rfl) rfl ?_
    refine RunL.ok (OpOk.asF (OpOk.lss rfl rfl) (by omega)) rfl ?_
    refine RunL.nil ?_
    refine Run.condF rfl ?_
    refine Run.exit rfl ?_
    refine Run.fall0 Try.func50 rfl ?_
    exact rfl
theorem B_mod (acc : List UInt8) (x : Nat) : B acc ++ [Value.int .u8 ((x : Int) % 256)] = B (acc ++ [UInt8.ofNat (x % 256)]) := by
  simp only [B, List.map_append, List.map_cons, List.map_nil, UInt8.toNat_ofNat']
  rw [Nat.mod_eq_of_lt (show x % 256 < 2 ^ 8 from Nat.mod_lt _ (by decide))]
  congr 3
theorem byte0 {c : UInt8} (h : (c.toNat : Int) = 0) : c = 0 := by
  have h1 : c.toNat = 0 := by omega
  have := congrArg UInt8.ofNat h1
  simpa using this
theorem beT_take {b : List UInt8} {i : Nat} (h : i < b.length) : beT (b.take (i + 1)) = 256 * beT (b.take i) + (b.getD i 0).toNat := by
  rw [take_nextB h, beT_snoc]
theorem or_low {a c : Nat} (hc : c < 256) (ha : 256 * a + c ≤ 9223372036854775807) : IntKind.i64.wrap (((BitVec.ofInt IntKind.i64.bits ((a * 2 ^ 8 : Nat) : Int) ||| BitVec.ofInt IntKind.i64.bits (c : Int)).toNat : Nat) : Int) = ((256 * a + c : Nat) : Int) := by
  rw [BitVec.ofInt_natCast, BitVec.ofInt_natCast, BitVec.toNat_or, BitVec.toNat_ofNat, BitVec.toNat_ofNat, show IntKind.i64.bits = 64 from rfl, Nat.mod_eq_of_lt (by omega), Nat.mod_eq_of_lt (by omega), Nat.mul_comm a, ← Nat.two_pow_add_eq_or_of_lt (show c < 2 ^ 8 from hc)]
  exact wrapI (by omega) (by omega)
theorem numNeg {n : Int} (hn : n < 0) : Spec Try.prog w0 35 [.int .i64 n] A (fun v' A' => ∃ J, A' = A * J * own 5 1 v' 0 (B [])) := by
  have hr := s50 (w0 := w0) (A := A) (v := .slice none 0 0) (bs := [])
  refine Spec.of_run [(0, .int .i64 n)] Try.func35 rfl (Nat.le_of_ble_eq_true rfl) (by repeat (first | exact trivial | refine ⟨rfl, ?_⟩)) ?_
  refine Run.seq ?_
  refine Run.region ?_
  refine RunL.ok (OpOk.assign rfl) rfl ?_
  refine RunL.nil ?_
  refine Run.seq ?_
  refine Run.region ?_
  refine RunL.ok (OpOk.assign rfl) rfl ?_
  refine RunL.nil ?_
  refine Run.seq ?_
  refine Run.block ?_
  refine Run.jump ((Run.loopJ (X := Unit) (fun _ => [(0, .int .i64 n), (3, .slice none 0 0)]) (fun _ => A) (fun _ => True) (fun _ => 0) () trivial (fun x _ ih => ?_))) ⟨rfl, rfl, trivial⟩ ((Grew.refl _))
  clear ih
  refine Run.ent (Ent.ownNil' _ 5 1 (B []) rfl) ?_
  refine Run.seq ?_
  refine Run.seq ?_
  refine Run.region ?_
  refine RunL.ok (OpOk.move rfl) rfl ?_
  refine RunL.ok (OpOk.asF (OpOk.gtr rfl rfl) (by omega)) rfl ?_
  refine RunL.nil ?_
  refine Run.condF rfl ?_
  refine Run.exit rfl ?_
  refine Run.seq ?_
  refine Run.region ?_
  refine RunL.ok (OpOk.move rfl) rfl ?_
  refine RunL.know (fun w s => (s.conv rfl).ownRd0) (fun rdy1 => ?_)
  refine RunL.call cal50 rfl (s50) rfl (fun vy2 Ay2 hy2 => ?_)
  obtain rfl := hy2
  refine RunL.nil ?_
  refine Run.seq ?_
  refine Run.region ?_
  refine RunL.ok (OpOk.move rfl) rfl ?_
  refine RunL.ok (OpOk.assign rfl) rfl ?_
  refine RunL.nil ?_
  refine Run.ent (Ent.ownNil' _ 5 1 (B []) rfl) ?_
  refine Run.ret1 Try.func35 rfl rfl ?_
  exact ⟨_, (congrArg (· * _) as1)⟩
theorem numPos {k : Nat} (hk : k ≤ 9223372036854775807) : Spec Try.prog w0 35 [.int .i64 (k : Int)] A (fun v' A' => ∃ J, A' = A * J * own 5 1 v' (numT k).length (B (numT k))) := by
  have h8 := (numT_len 8 k).2 (Nat.lt_of_le_of_lt hk (by decide))
  have hll : (leT k).length = (numT k).length := by rw [leT, List.length_reverse]
  refine Spec.of_run [(0, .int .i64 (k : Int))] Try.func35 rfl (Nat.le_of_ble_eq_true rfl) (by repeat (first | exact trivial | refine ⟨rfl, ?_⟩)) ?_
  refine Run.seq ?_
  refine Run.region ?_
  refine RunL.ok (OpOk.assign rfl) rfl ?_
  refine RunL.nil ?_
  refine Run.seq ?_
  refine Run.region ?_
  refine RunL.ok (OpOk.assign rfl) rfl ?_
  refine RunL.nil ?_
  refine Run.seq ?_
  refine Run.block ?_
  refine Run.ent (Ent.ownNil' _ 5 1 (B []) rfl) ?_
  refine Run.jump ((Run.loopJ (X := Nat × Asn × Value × List UInt8) (fun x => [(0, .int .i64 (x.1 : Int)), (3, x.2.2.1)]) (fun x => A * x.2.1 * own 5 1 x.2.2.1 x.2.2.2.length (B x.2.2.2)) (fun x => x.1 ≤ 9223372036854775807 ∧ x.2.2.2 ++ leT x.1 = leT k) (fun x => x.1) (k, _, .slice none 0 0, []) ⟨hk, rfl⟩ (fun x hx ih => ?_))) ⟨rfl, rfl, trivial⟩ (Grew.of (Eq.trans (frc rfl rfl) (congrArg (· * _) as0)) (Grew.refl _))
  obtain ⟨x, J, v3, acc⟩ := x
  simp only at hx ih ⊢
  obtain ⟨hx1, hacc⟩ := hx
  have hal := congrArg List.length hacc
  rw [List.length_append] at hal
  rcases Nat.eq_zero_or_pos x with h0 | h0
  · subst h0
    rw [leT_zero, List.append_nil] at hacc
    subst hacc
    clear ih
    refine Run.seq ?_
    refine Run.seq ?_
    refine Run.region ?_
    refine RunL.ok (OpOk.move rfl) rfl ?_
    refine RunL.ok (OpOk.asF (OpOk.gtr rfl rfl) (by omega)) rfl ?_
    refine RunL.nil ?_
    refine Run.condF rfl ?_
    refine Run.exit rfl ?_
    refine Run.seq ?_
    refine Run.region ?_
    refine RunL.ok (OpOk.move rfl) rfl ?_
    refine RunL.know (fun w s => (s.conv rfl).ownRd0) (fun rdy1 => ?_)
    refine RunL.call cal50 rfl (s50) rfl (fun vy2 Ay2 hy2 => ?_)
    obtain rfl := hy2
    refine RunL.nil ?_
    refine Run.seq ?_
    refine Run.region ?_
    refine RunL.ok (OpOk.move rfl) rfl ?_
    refine RunL.ok (OpOk.assign rfl) rfl ?_
    refine RunL.nil ?_
    refine Run.ret1 Try.func35 rfl rfl ?_
    exact ⟨J, by rw [← hll, show (leT k).reverse = numT k by rw [leT, List.reverse_reverse]]⟩
  · rw [leT_pos (by omega)] at hacc hal
    rw [List.length_cons] at hal
    have hdl : x / 256 < x := Nat.div_lt_self h0 (by decide)
    refine Run.seq ?_
    refine Run.seq ?_
    refine Run.region ?_
    refine RunL.ok (OpOk.move rfl) rfl ?_
    refine RunL.ok (OpOk.asT (OpOk.gtr rfl rfl) (by omega)) rfl ?_
    refine RunL.nil ?_
    refine Run.condT rfl ?_
    refine Run.skip ?_
    refine Run.seq ?_
    refine Run.block ?_
    refine Run.region ?_
    refine RunL.ok (OpOk.move rfl) rfl ?_
    refine RunL.ok (OpOk.move rfl) rfl ?_
    refine RunL.ok (OpOk.convInt rfl rfl rfl (wrapU8m _)) rfl ?_
    refine RunL.lits rfl ti5 rfl rfl rfl (by simp [Value.cells]) (by decide) rfl (fun vy1 rdy1 => ?_)
    refine RunL.know (fun w s => (s.conv rfl).ownRd0) (fun rdy3 => ?_)
    refine RunL.append rfl ti5 rfl rfl rfl (frl rfl) (Rd.right rdy3) (by first | assumption | simp [Value.oneCell']) rfl (by decide) (by omega) (by simp only [maxLen]; omega) rfl (fun vy2 rdy2 => ?_)
    refine RunL.ok (OpOk.assign rfl) rfl ?_
    refine RunL.nil ?_
    refine Run.inBlock ?_
    refine Run.region ?_
    refine RunL.ok (OpOk.move rfl) rfl ?_
    refine RunL.ok (OpOk.shrN _ 8 rfl rfl rfl rfl (by omega)) rfl ?_
    refine RunL.ok (OpOk.assign rfl) rfl ?_
    refine RunL.nil ?_
    rw [B_mod, show acc.length + 1 = (acc ++ [UInt8.ofNat (x % 256)]).length by simp]
    refine Run.jump ((ih (x / 2 ^ 8, _, vy2, acc ++ [UInt8.ofNat (x % 256)]) ⟨by dsimp only; omega, by dsimp only; rw [List.append_assoc]; exact hacc⟩ (by dsimp only; omega))) ⟨rfl, rfl, trivial⟩ (Grew.of (congrArg (· * _) (asg as1)) (Grew.refl _))
theorem s36 {u : Value} {m : Nat} {b : List UInt8} {z e : Int} (rd : Rd w0 A u 1 m (B b)) (h : intT b = (z, e)) : Spec Try.prog w0 36 [u] A (fun v' A' => v' = .tuple #[.int .i64 z, .int .i64 e] ∧ A' = A) := by
  have hl : b.length = m := by simpa [B] using rd.len
  subst hl
  have hmx := rd.max
  unfold intT at h
  rcases Decidable.em (7 < b.length) with h7 | h7
  · rw [if_pos h7] at h
    obtain ⟨rfl, rfl⟩ := Prod.mk.inj h
    refine Spec.of_run [(0, u)] Try.func36 rfl (Nat.le_of_ble_eq_true rfl) (by repeat (first | exact trivial | refine ⟨rfl, ?_⟩)) ?_
    refine Run.seq ?_
    refine Run.region ?_
    refine RunL.ok (OpOk.assign rfl) rfl ?_
    refine RunL.ok (OpOk.assign rfl) rfl ?_
    refine RunL.nil ?_
    refine Run.seq ?_
    refine Run.block ?_
    refine Run.seq ?_
    refine Run.region ?_
    refine RunL.ok (OpOk.move rfl) rfl ?_
    refine RunL.ok (OpOk.lenR rfl rfl rd rfl) rfl ?_
    refine RunL.ok (OpOk.asT (OpOk.gtr rfl rfl) (by omega)) rfl ?_
    refine RunL.ok (OpOk.assign rfl) rfl ?_
    refine RunL.nil ?_
    refine Run.condT rfl ?_
    refine Run.seq ?_
    refine Run.region ?_
    refine RunL.ok (OpOk.assign rfl) rfl ?_
    refine RunL.ok (OpOk.assign rfl) rfl ?_
    refine RunL.nil ?_
    refine Run.ret2 Try.func36 rfl rfl rfl ?_
    exact ⟨rfl, rfl⟩
  · rw [if_neg h7] at h
    rcases Decidable.em (0 < b.length ∧ b.getD 0 0 = 0) with h0 | h0
    · rw [if_pos h0] at h
      obtain ⟨rfl, rfl⟩ := Prod.mk.inj h
      obtain ⟨h01, h02⟩ := h0
      refine Spec.of_run [(0, u)] Try.func36 rfl (Nat.le_of_ble_eq_true rfl) (by repeat (first | exact trivial | refine ⟨rfl, ?_⟩)) ?_
      refine Run.seq ?_
      refine Run.region ?_
      refine RunL.ok (OpOk.assign rfl) rfl ?_
      refine RunL.ok (OpOk.assign rfl) rfl ?_
      refine RunL.nil ?_
      refine Run.seq ?_
      refine Run.block ?_
      refine Run.seq ?_
      refine Run.region ?_
      refine RunL.ok (OpOk.move rfl) rfl ?_
      refine RunL.ok (OpOk.lenR rfl rfl rd rfl) rfl ?_
      refine RunL.ok (OpOk.asF (OpOk.gtr rfl rfl) (by omega)) rfl ?_
      refine RunL.ok (OpOk.assign rfl) rfl ?_
      refine RunL.nil ?_
      refine Run.condF rfl ?_
      refine Run.seq ?_
      refine Run.region ?_
      refine RunL.ok (OpOk.move rfl) rfl ?_
      refine RunL.ok (OpOk.lenR rfl rfl rd rfl) rfl ?_
      refine RunL.ok (OpOk.asT (OpOk.gtr rfl rfl) (by omega)) rfl ?_
      refine RunL.ok (OpOk.move rfl) rfl ?_
      refine RunL.on rfl rfl ?_
      refine RunL.ok (OpOk.move rfl) rfl ?_
      refine RunL.on rfl rfl ?_
      refine RunL.ok (OpOk.idx1N rfl ti5 rfl rd rfl (by omega)) rfl ?_
      refine RunL.on rfl rfl ?_
      refine RunL.ok (OpOk.load rfl rfl rfl (Rd.getBE (by assumption) rd (by omega))) rfl ?_
      refine RunL.on rfl rfl ?_
      refine RunL.ok (OpOk.eql rfl rfl) rfl ?_
      refine RunL.ok (OpOk.pickT rfl rfl) rfl ?_
      refine RunL.ok (OpOk.assign rfl) rfl ?_
      refine RunL.nil ?_
      refine Run.condT rfl ?_
      refine Run.seq ?_
      refine Run.region ?_
      refine RunL.ok (OpOk.assign rfl) rfl ?_
      refine RunL.ok (OpOk.assign rfl) rfl ?_
      refine RunL.nil ?_
      refine Run.ret2 Try.func36 rfl rfl rfl ?_
      exact ⟨rfl, rfl⟩
    · rw [if_neg h0] at h
      obtain ⟨rfl, rfl⟩ := Prod.mk.inj h
      refine Spec.of_run [(0, u)] Try.func36 rfl (Nat.le_of_ble_eq_true rfl) (by repeat (first | exact trivial | refine ⟨rfl, ?_⟩)) ?_
      refine Run.seq ?_
      refine Run.region ?_
      refine RunL.ok (OpOk.assign rfl) rfl ?_
      refine RunL.ok (OpOk.assign rfl) rfl ?_
      refine RunL.nil ?_
      refine Run.seq ?_
      refine Run.block ?_
      refine Run.seq ?_
      refine Run.region ?_
      refine RunL.ok (OpOk.move rfl) rfl ?_
      refine RunL.ok (OpOk.lenR rfl rfl rd rfl) rfl ?_
      refine RunL.ok (OpOk.asF (OpOk.gtr rfl rfl) (by omega)) rfl ?_
      refine RunL.ok (OpOk.assign rfl) rfl ?_
      refine RunL.nil ?_
      refine Run.condF rfl ?_
      refine Run.seq ?_
      refine Run.region ?_
      refine RunL.ok (OpOk.move rfl) rfl ?_
      refine RunL.ok (OpOk.lenR rfl rfl rd rfl) rfl ?_
      refine RunL.ok (OpOk.gtr rfl rfl) rfl ?_
      refine RunL.ok (OpOk.move rfl) rfl ?_
      refine RunL.splitD (t := 15) rfl (fun x1 => ?_) (fun x1 => ?_)
      · refine RunL.on rfl rfl ?_
        refine RunL.ok (OpOk.move rfl) rfl ?_
        refine RunL.on rfl rfl ?_
        refine RunL.ok (OpOk.idx1 rfl ti5 rfl rd rfl (by omega) (by omega)) rfl ?_
        refine RunL.on rfl rfl ?_
        refine RunL.ok (OpOk.load rfl rfl rfl (Rd.getB rd (by omega))) rfl ?_
        refine RunL.on rfl rfl ?_
        refine RunL.ok (OpOk.eql rfl rfl) rfl ?_
        refine RunL.ok (OpOk.pickT rfl rfl) rfl ?_
        refine RunL.ok (OpOk.assign rfl) rfl ?_
        refine RunL.nil ?_
        refine Run.condD rfl (fun x2 => ?_) (fun x2 => ?_)
        · refine Run.seq ?_
          refine Run.region ?_
          refine RunL.ok (OpOk.assign rfl) rfl ?_
          refine RunL.ok (OpOk.assign rfl) rfl ?_
          refine RunL.nil ?_
          refine Run.ret2 Try.func36 rfl rfl rfl ?_
          exact absurd ⟨by omega, byte0 x2⟩ h0
        refine Run.skip ?_
        refine Run.inBlock ?_
        refine Run.seq ?_
        refine Run.region ?_
        refine RunL.ok (OpOk.assign rfl) rfl ?_
        refine RunL.nil ?_
        refine Run.seq ?_
        refine Run.seq ?_
        refine Run.region ?_
        refine RunL.ok (OpOk.move rfl) rfl ?_
        refine RunL.ok (OpOk.lenR rfl rfl rd rfl) rfl ?_
        refine RunL.ok (OpOk.move rfl) rfl ?_
        refine RunL.nil ?_
        refine Run.block ?_
        refine Run.jump ((Run.loopJ (X := Nat) (fun i => [(23, .int .i64 (i : Int)), (22, .int .i64 (b.length : Int)), (21, u), (4, .int .i64 (beT (b.take i) : Int))]) (fun _ => A) (fun i => i ≤ b.length) (fun i => b.length - i) 0 (Nat.zero_le _) (fun i hi ih => ?_))) ⟨rfl, rfl, rfl, rfl, trivial⟩ ((Grew.refl _))
        have hbt := beT_lt (b.take i)
        rw [List.length_take, Nat.min_eq_left hi] at hbt
        have hp7 : 256 ^ i ≤ 256 ^ 7 := Nat.pow_le_pow_right (by decide) (by omega)
        rcases Nat.lt_or_ge i b.length with hlt | hge
        · have hp6 : 256 ^ i ≤ 256 ^ 6 := Nat.pow_le_pow_right (by decide) (by omega)
          have hnx := beT_take hlt
          have hbl := (b.getD i 0).toNat_lt
          refine Run.seq ?_
          refine Run.region ?_
          refine RunL.ok (OpOk.asT (OpOk.lss rfl rfl) (by omega)) rfl ?_
          refine RunL.nil ?_
          refine Run.seq ?_
          refine Run.condT rfl ?_
          refine Run.skip ?_
          refine Run.seq ?_
          refine Run.block ?_
          refine Run.seq ?_
          refine Run.region ?_
          refine RunL.ok (OpOk.idx1N rfl ti5 rfl rd rfl (by omega)) rfl ?_
          refine RunL.ok (OpOk.load rfl rfl rfl (Rd.getB rd (by omega))) rfl ?_
          refine RunL.ok (OpOk.assign rfl) rfl ?_
          refine RunL.nil ?_
          refine Run.region ?_
          refine RunL.ok (OpOk.move rfl) rfl ?_
          refine RunL.ok (OpOk.shlN _ 8 rfl rfl rfl rfl (by omega) (by omega)) rfl ?_
          refine RunL.ok (OpOk.move rfl) rfl ?_
          refine RunL.ok (OpOk.convInt rfl rfl rfl (wrapI (by omega) (by omega))) rfl ?_
          refine RunL.ok (OpOk.or rfl rfl (or_low (by omega) (by omega))) rfl ?_
          rw [← hnx]
          refine RunL.ok (OpOk.assign rfl) rfl ?_
          refine RunL.nil ?_
          refine Run.inBlock ?_
          refine Run.region ?_
          refine RunL.ok (OpOk.addN _ 1 rfl rfl rfl rfl (by omega)) rfl ?_
          refine RunL.ok (OpOk.move rfl) rfl ?_
          refine RunL.nil ?_
          refine Run.jump ((ih (i + 1) (by omega) (by omega))) ⟨rfl, rfl, rfl, rfl, trivial⟩ ((Grew.refl _))
        · obtain rfl : i = b.length := by omega
          clear ih
          rw [List.take_length]
          refine Run.seq ?_
          refine Run.region ?_
          refine RunL.ok (OpOk.asF (OpOk.lss rfl rfl) (by omega)) rfl ?_
          refine RunL.nil ?_
          refine Run.seq ?_
          refine Run.condF rfl ?_
          refine Run.exit rfl ?_
          refine Run.seq ?_
          refine Run.region ?_
          refine RunL.ok (OpOk.move rfl) rfl ?_
          refine RunL.ok (OpOk.assign rfl) rfl ?_
          refine RunL.ok (OpOk.assign rfl) rfl ?_
          refine RunL.nil ?_
          refine Run.ret2 Try.func36 rfl rfl rfl ?_
          exact ⟨rfl, rfl⟩
      refine RunL.off rfl rfl rfl rfl ?_
      refine RunL.off rfl rfl rfl rfl ?_
      refine RunL.off rfl rfl rfl rfl ?_
      refine RunL.off rfl rfl rfl rfl ?_
      refine RunL.ok (OpOk.pickF rfl rfl) rfl ?_
      refine RunL.ok (OpOk.assign rfl) rfl ?_
      refine RunL.nil ?_
      refine Run.condF rfl ?_
      refine Run.skip ?_
      refine Run.inBlock ?_
      refine Run.seq ?_
      refine Run.region ?_
      refine RunL.ok (OpOk.assign rfl) rfl ?_
      refine RunL.nil ?_
      refine Run.seq ?_
      refine Run.seq ?_
      refine Run.region ?_
      refine RunL.ok (OpOk.move rfl) rfl ?_
      refine RunL.ok (OpOk.lenR rfl rfl rd rfl) rfl ?_
      refine RunL.ok (OpOk.move rfl) rfl ?_
      refine RunL.nil ?_
      refine Run.block ?_
      refine Run.jump ((Run.loopJ (X := Nat) (fun i => [(23, .int .i64 (i : Int)), (22, .int .i64 (b.length : Int)), (21, u), (4, .int .i64 (beT (b.take i) : Int))]) (fun _ => A) (fun i => i ≤ b.length) (fun i => b.length - i) 0 (Nat.zero_le _) (fun i hi ih => ?_))) ⟨rfl, rfl, rfl, rfl, trivial⟩ ((Grew.refl _))
      have hbt := beT_lt (b.take i)
      rw [List.length_take, Nat.min_eq_left hi] at hbt
      have hp7 : 256 ^ i ≤ 256 ^ 7 := Nat.pow_le_pow_right (by decide) (by omega)
      rcases Nat.lt_or_ge i b.length with hlt | hge
      · have hp6 : 256 ^ i ≤ 256 ^ 6 := Nat.pow_le_pow_right (by decide) (by omega)
        have hnx := beT_take hlt
        have hbl := (b.getD i 0).toNat_lt
        refine Run.seq ?_
        refine Run.region ?_
        refine RunL.ok (OpOk.asT (OpOk.lss rfl rfl) (by omega)) rfl ?_
        refine RunL.nil ?_
        refine Run.seq ?_
        refine Run.condT rfl ?_
        refine Run.skip ?_
        refine Run.seq ?_
        refine Run.block ?_
        refine Run.seq ?_
        refine Run.region ?_
        refine RunL.ok (OpOk.idx1N rfl ti5 rfl rd rfl (by omega)) rfl ?_
        refine RunL.ok (OpOk.load rfl rfl rfl (Rd.getB rd (by omega))) rfl ?_
        refine RunL.ok (OpOk.assign rfl) rfl ?_
        refine RunL.nil ?_
        refine Run.region ?_
        refine RunL.ok (OpOk.move rfl) rfl ?_
        refine RunL.ok (OpOk.shlN _ 8 rfl rfl rfl rfl (by omega) (by omega)) rfl ?_
        refine RunL.ok (OpOk.move rfl) rfl ?_
        refine RunL.ok (OpOk.convInt rfl rfl rfl (wrapI (by omega) (by omega))) rfl ?_
        refine RunL.ok (OpOk.or rfl rfl (or_low (by omega) (by omega))) rfl ?_
        rw [← hnx]
        refine RunL.ok (OpOk.assign rfl) rfl ?_
        refine RunL.nil ?_
        refine Run.inBlock ?_
        refine Run.region ?_
        refine RunL.ok (OpOk.addN _ 1 rfl rfl rfl rfl (by omega)) rfl ?_
        refine RunL.ok (OpOk.move rfl) rfl ?_
        refine RunL.nil ?_
        refine Run.jump ((ih (i + 1) (by omega) (by omega))) ⟨rfl, rfl, rfl, rfl, trivial⟩ ((Grew.refl _))
      · obtain rfl : i = b.length := by omega
        clear ih
        rw [List.take_length]
        refine Run.seq ?_
        refine Run.region ?_
        refine RunL.ok (OpOk.asF (OpOk.lss rfl rfl) (by omega)) rfl ?_
        refine RunL.nil ?_
        refine Run.seq ?_
        refine Run.condF rfl ?_
        refine Run.exit rfl ?_
        refine Run.seq ?_
        refine Run.region ?_
        refine RunL.ok (OpOk.move rfl) rfl ?_
        refine RunL.ok (OpOk.assign rfl) rfl ?_
        refine RunL.ok (OpOk.assign rfl) rfl ?_
        refine RunL.nil ?_
        refine Run.ret2 Try.func36 rfl rfl rfl ?_
        exact ⟨rfl, rfl⟩
end
end Go.Proofs.Ytlheianbmpgefaa
