/- The law of puts, walked. -/
import Derived.Test.YtlheianbmpgefaaBiA
import Derived.Test.YtlheianbmpgefaaBiS
namespace Go.Proofs.Ytlheianbmpgefaa
open Go Go.Proofs
set_option maxRecDepth 100000
set_option maxHeartbeats 4000000
def encVF (p : Value × List (Int × Int)) : List Value := [p.1]
theorem Fl_VF : ∀ (l : List (Value × List (Int × Int))) (i : Nat), i < l.length → (Fl encVF l)[i]? = some (l.getD i default).1
  | [], i, h => by simp at h
  | p :: r, 0, _ => rfl
  | p :: r, i + 1, h => Fl_VF r i (by simpa using h)
/-- The number of k bits from a place on, noughts behind the end. -/
def octN (bs : List Bool) (p : Nat) : Nat → Nat
  | 0 => 0
  | k + 1 => 2 * octN bs p k + b2n (bitOf bs (p + k))
theorem octN_lt (bs : List Bool) (p k : Nat) : octN bs p k < 2 ^ k := by
  induction k with
  | zero => simp [octN]
  | succ k ih => have := b2n_le (bitOf bs (p + k)); simp only [octN, Nat.pow_succ]; omega
theorem octN_byte (bs : List Bool) (j : Nat) : octN bs (8 * j) 8 = (byteAt bs j).toNat := by
  simp only [octN, byteAt, Nat.add_zero]
  generalize bitOf bs (8 * j) = b0
  generalize bitOf bs (8 * j + 1) = b1
  generalize bitOf bs (8 * j + 2) = b2
  generalize bitOf bs (8 * j + 3) = b3
  generalize bitOf bs (8 * j + 4) = b4
  generalize bitOf bs (8 * j + 5) = b5
  generalize bitOf bs (8 * j + 6) = b6
  generalize bitOf bs (8 * j + 7) = b7
  revert b0 b1 b2 b3 b4 b5 b6 b7
  decide +kernel
theorem pack_next (bs : List Bool) (j : Nat) : pack bs (j + 1) = pack bs j ++ [byteAt bs j] := by
  unfold pack
  rw [List.range_succ, List.map_append, List.map_singleton]
theorem txt_at {bs : List Bool} {i : Nat} (h : i < bs.length) : (((txt bs).getD i 0).toNat = 49) = (bitOf bs i = true) := by
  have : (txt bs).getD i 0 = if bitOf bs i then 49 else 48 := by simp [txt, bitOf, List.getD_eq_getElem?_getD, h]
  rw [this]
  cases bitOf bs i <;> simp
theorem s20 {w0 : World} {A : Asn} {s : List UInt8} {bs : List Bool} (hs : s = txt bs) (hlim : bs.length ≤ 562949953421312) :
    Spec Try.prog w0 20 [S s] A (fun v' A' => A' = A * own 5 1 v' ((bs.length + 7) / 8) (B (pack bs ((bs.length + 7) / 8)))) := by
  subst hs
  refine Spec.of_run [(0, S (txt bs))] Try.func20 rfl (Nat.le_of_ble_eq_true rfl) (by repeat (first | exact trivial | refine ⟨rfl, ?_⟩)) ?_
  have htl := txt_length bs
  refine Run.seq ?_
  refine Run.region ?_
  refine RunL.ok (OpOk.assign rfl) rfl ?_
  refine RunL.nil ?_
  refine Run.seq ?_
  refine Run.region ?_
  refine RunL.ok (OpOk.assign rfl) rfl ?_
  refine RunL.nil ?_
  refine Run.seq ?_
  refine Run.seq ?_
  refine Run.region ?_
  refine RunL.ok (OpOk.assign rfl) rfl ?_
  refine RunL.nil ?_
  refine Run.block ?_
  refine Run.ent (Ent.ownNil' _ 5 1 (B []) rfl) ?_
  refine Run.jump ((Run.loopJ (X := Nat × Value) (fun x => [(0, S (txt bs)), (3, x.2), (4, .int .i64 ((8 * x.1 : Nat) : Int))]) (fun x => A * own 5 1 x.2 x.1 (B (pack bs x.1))) (fun x => x.1 ≤ (bs.length + 7) / 8) (fun x => (bs.length + 7) / 8 - x.1) (0, .slice none 0 0) (Nat.zero_le _) (fun x hx ih => ?_))) ⟨rfl, rfl, rfl, trivial⟩ (Grew.of (frc rfl rfl) (Grew.refl _))
  obtain ⟨j, v1⟩ := x
  simp only at hx ih ⊢
  rcases Nat.lt_or_ge j ((bs.length + 7) / 8) with hlt | hge
  · refine Run.seq ?_
    refine Run.seq ?_
    refine Run.region ?_
    refine RunL.ok (OpOk.move rfl) rfl ?_
    refine RunL.ok (OpOk.move rfl) rfl ?_
    refine RunL.ok (OpOk.lenSS rfl rfl rfl) rfl ?_
    refine RunL.ok (OpOk.asT (OpOk.lss rfl rfl) (by omega)) rfl ?_
    refine RunL.nil ?_
    refine Run.condT rfl ?_
    refine Run.skip ?_
    refine Run.seq ?_
    refine Run.block ?_
    refine Run.seq ?_
    refine Run.region ?_
    refine RunL.ok (OpOk.assign rfl) rfl ?_
    refine RunL.nil ?_
    refine Run.seq ?_
    refine Run.seq ?_
    refine Run.region ?_
    refine RunL.ok (OpOk.assign rfl) rfl ?_
    refine RunL.nil ?_
    refine Run.block ?_
    refine Run.jump ((Run.loopJ (X := Nat) (fun k => [(0, S (txt bs)), (3, v1), (4, .int .i64 ((8 * j : Nat) : Int)), (5, .int .i64 ((octN bs (8 * j) k : Nat) : Int)), (6, .int .i64 (k : Int))]) (fun _ => A * own 5 1 v1 j (B (pack bs j))) (fun k => k ≤ 8) (fun k => 8 - k) 0 (by omega) (fun k hk ih2 => ?_))) ⟨rfl, rfl, rfl, rfl, rfl, trivial⟩ ((Grew.refl _))
    have hol := octN_lt bs (8 * j) k
    have hp : 2 ^ k ≤ 2 ^ 8 := Nat.pow_le_pow_right (by decide) hk
    rcases Nat.lt_or_ge k 8 with hk1 | hk1
    · have hn : octN bs (8 * j) (k + 1) = 2 * octN bs (8 * j) k + b2n (bitOf bs (8 * j + k)) := rfl
      rcases Nat.lt_or_ge (8 * j + k) bs.length with hin | hin
      · have hat := txt_at hin
        rcases Bool.eq_false_or_eq_true (bitOf bs (8 * j + k)) with hb | hb
        · rw [hb] at hn hat
          have hat2 : ((txt bs).getD (8 * j + k) 0).toNat = 49 := by rw [hat]
          have hn2 : 2 * octN bs (8 * j) k + 1 = octN bs (8 * j) (k + 1) := hn.symm
          refine Run.seq ?_
          refine Run.seq ?_
          refine Run.region ?_
          refine RunL.ok (OpOk.move rfl) rfl ?_
          refine RunL.ok (OpOk.asT (OpOk.lss rfl rfl) (by omega)) rfl ?_
          refine RunL.nil ?_
          refine Run.condT rfl ?_
          refine Run.skip ?_
          refine Run.seq ?_
          refine Run.block ?_
          refine Run.seq ?_
          refine Run.region ?_
          refine RunL.ok (OpOk.move rfl) rfl ?_
          refine RunL.ok (OpOk.mulN 2 _ rfl rfl rfl rfl (by omega)) rfl ?_
          refine RunL.ok (OpOk.assign rfl) rfl ?_
          refine RunL.nil ?_
          refine Run.seq ?_
          refine Run.region ?_
          refine RunL.ok (OpOk.move rfl) rfl ?_
          refine RunL.ok (OpOk.move rfl) rfl ?_
          refine RunL.ok (OpOk.addN _ _ rfl rfl rfl rfl (by omega)) rfl ?_
          refine RunL.ok (OpOk.move rfl) rfl ?_
          refine RunL.ok (OpOk.lenSS rfl rfl rfl) rfl ?_
          refine RunL.ok (OpOk.asT (OpOk.lss rfl rfl) (by omega)) rfl ?_
          refine RunL.ok (OpOk.move rfl) rfl ?_
          refine RunL.on rfl rfl ?_
          refine RunL.ok (OpOk.move rfl) rfl ?_
          refine RunL.on rfl rfl ?_
          refine RunL.ok (OpOk.move rfl) rfl ?_
          refine RunL.on rfl rfl ?_
          refine RunL.ok (OpOk.move rfl) rfl ?_
          refine RunL.on rfl rfl ?_
          refine RunL.ok (OpOk.addN _ _ rfl rfl rfl rfl (by omega)) rfl ?_
          refine RunL.on rfl rfl ?_
          refine RunL.ok (OpOk.idxSS rfl rfl rfl (by omega)) rfl ?_
          refine RunL.on rfl rfl ?_
          refine RunL.ok (OpOk.asT (OpOk.eql rfl rfl) (by omega)) rfl ?_
          refine RunL.ok (OpOk.pickT rfl rfl) rfl ?_
          refine RunL.nil ?_
          refine Run.condT rfl ?_
          refine Run.region ?_
          refine RunL.ok (OpOk.move rfl) rfl ?_
          refine RunL.ok (OpOk.addN _ 1 rfl rfl rfl rfl (by omega)) rfl ?_
          refine RunL.ok (OpOk.assign rfl) rfl ?_
          refine RunL.nil ?_
          refine Run.inBlock ?_
          refine Run.region ?_
          refine RunL.ok (OpOk.move rfl) rfl ?_
          refine RunL.ok (OpOk.addN _ 1 rfl rfl rfl rfl (by omega)) rfl ?_
          refine RunL.ok (OpOk.assign rfl) rfl ?_
          refine RunL.nil ?_
          rw [hn2]
          refine Run.jump ((ih2 (k + 1) (by omega) (by omega))) ⟨rfl, rfl, rfl, rfl, rfl, trivial⟩ ((Grew.refl _))
        · rw [hb] at hn hat
          have hat2 : ((txt bs).getD (8 * j + k) 0).toNat ≠ 49 := by rw [ne_eq, hat]; simp
          have hn2 : 2 * octN bs (8 * j) k = octN bs (8 * j) (k + 1) := hn.symm
          refine Run.seq ?_
          refine Run.seq ?_
          refine Run.region ?_
          refine RunL.ok (OpOk.move rfl) rfl ?_
          refine RunL.ok (OpOk.asT (OpOk.lss rfl rfl) (by omega)) rfl ?_
          refine RunL.nil ?_
          refine Run.condT rfl ?_
          refine Run.skip ?_
          refine Run.seq ?_
          refine Run.block ?_
          refine Run.seq ?_
          refine Run.region ?_
          refine RunL.ok (OpOk.move rfl) rfl ?_
          refine RunL.ok (OpOk.mulN 2 _ rfl rfl rfl rfl (by omega)) rfl ?_
          refine RunL.ok (OpOk.assign rfl) rfl ?_
          refine RunL.nil ?_
          refine Run.seq ?_
          refine Run.region ?_
          refine RunL.ok (OpOk.move rfl) rfl ?_
          refine RunL.ok (OpOk.move rfl) rfl ?_
          refine RunL.ok (OpOk.addN _ _ rfl rfl rfl rfl (by omega)) rfl ?_
          refine RunL.ok (OpOk.move rfl) rfl ?_
          refine RunL.ok (OpOk.lenSS rfl rfl rfl) rfl ?_
          refine RunL.ok (OpOk.asT (OpOk.lss rfl rfl) (by omega)) rfl ?_
          refine RunL.ok (OpOk.move rfl) rfl ?_
          refine RunL.on rfl rfl ?_
          refine RunL.ok (OpOk.move rfl) rfl ?_
          refine RunL.on rfl rfl ?_
          refine RunL.ok (OpOk.move rfl) rfl ?_
          refine RunL.on rfl rfl ?_
          refine RunL.ok (OpOk.move rfl) rfl ?_
          refine RunL.on rfl rfl ?_
          refine RunL.ok (OpOk.addN _ _ rfl rfl rfl rfl (by omega)) rfl ?_
          refine RunL.on rfl rfl ?_
          refine RunL.ok (OpOk.idxSS rfl rfl rfl (by omega)) rfl ?_
          refine RunL.on rfl rfl ?_
          refine RunL.ok (OpOk.asF (OpOk.eql rfl rfl) (by omega)) rfl ?_
          refine RunL.ok (OpOk.pickT rfl rfl) rfl ?_
          refine RunL.nil ?_
          refine Run.condF rfl ?_
          refine Run.skip ?_
          refine Run.inBlock ?_
          refine Run.region ?_
          refine RunL.ok (OpOk.move rfl) rfl ?_
          refine RunL.ok (OpOk.addN _ 1 rfl rfl rfl rfl (by omega)) rfl ?_
          refine RunL.ok (OpOk.assign rfl) rfl ?_
          refine RunL.nil ?_
          rw [hn2]
          refine Run.jump ((ih2 (k + 1) (by omega) (by omega))) ⟨rfl, rfl, rfl, rfl, rfl, trivial⟩ ((Grew.refl _))
      · rw [bitOf_past hin] at hn
        have hn2 : 2 * octN bs (8 * j) k = octN bs (8 * j) (k + 1) := hn.symm
        refine Run.seq ?_
        refine Run.seq ?_
        refine Run.region ?_
        refine RunL.ok (OpOk.move rfl) rfl ?_
        refine RunL.ok (OpOk.asT (OpOk.lss rfl rfl) (by omega)) rfl ?_
        refine RunL.nil ?_
        refine Run.condT rfl ?_
        refine Run.skip ?_
        refine Run.seq ?_
        refine Run.block ?_
        refine Run.seq ?_
        refine Run.region ?_
        refine RunL.ok (OpOk.move rfl) rfl ?_
        refine RunL.ok (OpOk.mulN 2 _ rfl rfl rfl rfl (by omega)) rfl ?_
        refine RunL.ok (OpOk.assign rfl) rfl ?_
        refine RunL.nil ?_
        refine Run.seq ?_
        refine Run.region ?_
        refine RunL.ok (OpOk.move rfl) rfl ?_
        refine RunL.ok (OpOk.move rfl) rfl ?_
        refine RunL.ok (OpOk.addN _ _ rfl rfl rfl rfl (by omega)) rfl ?_
        refine RunL.ok (OpOk.move rfl) rfl ?_
        refine RunL.ok (OpOk.lenSS rfl rfl rfl) rfl ?_
        refine RunL.ok (OpOk.asF (OpOk.lss rfl rfl) (by omega)) rfl ?_
        refine RunL.ok (OpOk.move rfl) rfl ?_
        refine RunL.off rfl rfl rfl rfl ?_
        refine RunL.off rfl rfl rfl rfl ?_
        refine RunL.off rfl rfl rfl rfl ?_
        refine RunL.off rfl rfl rfl rfl ?_
        refine RunL.off rfl rfl rfl rfl ?_
        refine RunL.off rfl rfl rfl rfl ?_
        refine RunL.ok (OpOk.pickF rfl rfl) rfl ?_
        refine RunL.nil ?_
        refine Run.condF rfl ?_
        refine Run.skip ?_
        refine Run.inBlock ?_
        refine Run.region ?_
        refine RunL.ok (OpOk.move rfl) rfl ?_
        refine RunL.ok (OpOk.addN _ 1 rfl rfl rfl rfl (by omega)) rfl ?_
        refine RunL.ok (OpOk.assign rfl) rfl ?_
        refine RunL.nil ?_
        rw [hn2]
        refine Run.jump ((ih2 (k + 1) (by omega) (by omega))) ⟨rfl, rfl, rfl, rfl, rfl, trivial⟩ ((Grew.refl _))
    · obtain rfl : k = 8 := by omega
      rw [octN_byte]
      have hbl := (byteAt bs j).toNat_lt
      refine Run.seq ?_
      refine Run.seq ?_
      refine Run.region ?_
      refine RunL.ok (OpOk.move rfl) rfl ?_
      refine RunL.ok (OpOk.asF (OpOk.lss rfl rfl) (by omega)) rfl ?_
      refine RunL.nil ?_
      refine Run.condF rfl ?_
      refine Run.exit rfl ?_
      refine Run.region ?_
      refine RunL.ok (OpOk.move rfl) rfl ?_
      refine RunL.ok (OpOk.move rfl) rfl ?_
      refine RunL.ok (OpOk.convInt rfl rfl rfl (wrapU8 (by omega) (by omega))) rfl ?_
      refine RunL.litB (xs := [byteAt bs j]) rfl ti5 rfl rfl rfl (by decide) rfl (fun vz1 rdz1 => ?_)
      refine RunL.know (fun w s => (s.conv rfl).ownRd0) (fun rdz3 => ?_)
      refine RunL.appendB rfl ti5 rfl rfl rfl (frl rfl) (Rd.right rdz3) (by omega) rfl (fun vz2 rdz2 => ?_)
      refine RunL.ok (OpOk.assign rfl) rfl ?_
      refine RunL.nil ?_
      refine Run.inBlock ?_
      refine Run.region ?_
      refine RunL.ok (OpOk.move rfl) rfl ?_
      refine RunL.ok (OpOk.addN _ 8 rfl rfl rfl rfl (by omega)) rfl ?_
      refine RunL.ok (OpOk.assign rfl) rfl ?_
      refine RunL.nil ?_
      rw [← pack_next]
      refine Run.jump ((ih (j + 1, _) (by simp; omega) (by simp; omega))) ⟨rfl, rfl, rfl, trivial⟩ (Grew.of (frc (frl rfl) rfl) (Grew.mul (Grew.refl _) _))
  · obtain rfl : j = (bs.length + 7) / 8 := by omega
    refine Run.seq ?_
    refine Run.seq ?_
    refine Run.region ?_
    refine RunL.ok (OpOk.move rfl) rfl ?_
    refine RunL.ok (OpOk.move rfl) rfl ?_
    refine RunL.ok (OpOk.lenSS rfl rfl rfl) rfl ?_
    refine RunL.ok (OpOk.asF (OpOk.lss rfl rfl) (by omega)) rfl ?_
    refine RunL.nil ?_
    refine Run.condF rfl ?_
    refine Run.exit rfl ?_
    refine Run.seq ?_
    refine Run.region ?_
    refine RunL.ok (OpOk.move rfl) rfl ?_
    refine RunL.ok (OpOk.assign rfl) rfl ?_
    refine RunL.nil ?_
    refine Run.ret1 Try.func20 rfl rfl ?_
    exact rfl
end Go.Proofs.Ytlheianbmpgefaa
