/- The law TlvNums, walked. -/
import Derived.Test.YtlheianbmpgefaaTvS
namespace Go.Proofs.Ytlheianbmpgefaa
open Go Go.Proofs
set_option maxRecDepth 100000
set_option maxHeartbeats 4000000
set_option linter.unusedSimpArgs false
def CNum (w0 : World) (n : Nat) : Prop := ∀ (A : Asn) (k : Nat), k ≤ n → k ≤ 9223372036854775807 → Spec Try.prog w0 38 [.int .i64 (k : Int)] A (fun v' A' => ∃ J, A' = A * J * own 5 1 v' (numT k).length (B (numT k)))
theorem B_modN (acc : List UInt8) (x : Nat) : B acc ++ [Value.int .u8 ((x % 256 : Nat) : Int)] = B (acc ++ [UInt8.ofNat (x % 256)]) := by
  simp only [B, List.map_append, List.map_cons, List.map_nil, UInt8.toNat_ofNat']
  rw [Nat.mod_eq_of_lt (show x % 256 < 2 ^ 8 from Nat.mod_lt _ (by decide))]
theorem int_num {k : Nat} (h : k < 72057594037927936) : intT (numT k) = ((k : Int), 0) := by
  have h7 := (numT_len 7 k).2 (by simpa using h)
  unfold intT
  rw [if_neg (by omega), if_neg, beT_num]
  rintro ⟨h1, h2⟩
  rcases Decidable.em (k = 0) with h0 | h0
  · rw [h0, numT_zero] at h1
    simp at h1
  · exact numT_head k h0 h2
theorem int_long {k : Nat} (h : 72057594037927936 ≤ k) : intT (numT k) = (0, 11) := by
  have h7 : ¬ (numT k).length ≤ 7 := fun h1 => by
    have := (numT_len 7 k).1 h1
    omega
  unfold intT
  rw [if_pos (by omega)]
theorem int_back {b : List UInt8} {z : Int} (h : intT b = (z, 0)) : z = (beT b : Int) ∧ numT (beT b) = b ∧ beT b ≤ 9223372036854775807 := by
  unfold intT at h
  split at h
  · exact absurd (Prod.mk.inj h).2 (by decide)
  · rename_i h7
    split at h
    · exact absurd (Prod.mk.inj h).2 (by decide)
    · rename_i h0
      refine ⟨(Prod.mk.inj h).1.symm, num_beT _ b rfl (fun hne e => h0 ⟨List.length_pos_iff.2 hne, e⟩), ?_⟩
      have h1 := beT_lt b
      have h2 : 256 ^ b.length ≤ 256 ^ 7 := Nat.pow_le_pow_right (by decide) (by omega)
      omega
structure IntF (b : List UInt8) (z e : Int) : Prop where
  h : intT b = (z, e)
section
variable {w0 : World} {A : Asn} {n : Nat}
theorem own_B0 : own 5 1 (Value.slice none 0 0) 0 (B []) = emp := own_nil_eq _ _
theorem s35a {z : Int} (h : z < 0) : Spec Try.prog w0 35 [.int .i64 z] A (fun v' A' => ∃ J, A' = A * J * own 5 1 v' (numT z.toNat).length (B (numT z.toNat))) := by
  have e : numT z.toNat = [] := by rw [show z.toNat = 0 by omega, numT_zero]
  rw [e]
  exact numNeg h
theorem s35b {k : Nat} (hk : k ≤ 9223372036854775807) : Spec Try.prog w0 35 [.int .i64 (k : Int)] A (fun v' A' => ∃ J, A' = A * J * own 5 1 v' (numT k).length (B (numT k))) := numPos hk
theorem s38 {k : Nat} (hrec : CNum w0 n) (h1 : k ≤ n) (h2 : k ≤ 9223372036854775807) : Spec Try.prog w0 38 [.int .i64 (k : Int)] A (fun v' A' => ∃ J, A' = A * J * own 5 1 v' (numT k).length (B (numT k))) := hrec A k h1 h2
theorem refNumNeg {z : Int} (h : z ≤ 0) : Spec Try.prog w0 38 [.int .i64 z] A (fun v' A' => ∃ J, A' = A * J * own 5 1 v' (numT z.toNat).length (B (numT z.toNat))) := by
  rw [show z.toNat = 0 by omega, numT_zero]
  refine Spec.of_run [(0, .int .i64 z)] Try.func38 rfl (Nat.le_of_ble_eq_true rfl) (by repeat (first | exact trivial | refine ⟨rfl, ?_⟩)) ?_
  refine Run.seq ?_
  refine Run.region ?_
  refine RunL.ok (OpOk.assign rfl) rfl ?_
  refine RunL.nil ?_
  refine Run.seq ?_
  refine Run.seq ?_
  refine Run.region ?_
  refine RunL.ok (OpOk.move rfl) rfl ?_
  refine RunL.ok (OpOk.asT (OpOk.leq rfl rfl) (by omega)) rfl ?_
  refine RunL.nil ?_
  refine Run.condT rfl ?_
  refine Run.seq ?_
  refine Run.region ?_
  refine RunL.ok (OpOk.assign rfl) rfl ?_
  refine RunL.nil ?_
  refine Run.ent (Ent.ownNil' _ 5 1 (B []) rfl) ?_
  refine Run.ret1 Try.func38 rfl rfl ?_
  exact ⟨_, (Eq.trans (frc rfl rfl) (congrArg (· * _) as0))⟩
theorem refNumAll : ∀ n, CNum w0 n := fun n => by
  induction n using Nat.strongRecOn with
  | ind n hall =>
  intro A k hk hm
  rcases Nat.eq_zero_or_pos k with h0 | h0
  · subst h0
    exact refNumNeg (z := ((0 : Nat) : Int)) (by decide)
  · have hrec : CNum w0 (n - 1) := hall (n - 1) (by omega)
    have hnp := numT_pos (n := k) (by omega)
    have hdl : k / 256 < k := Nat.div_lt_self h0 (by decide)
    have hl8 := (numT_len 8 (k / 256)).2 (Nat.lt_of_le_of_lt (show k / 256 ≤ 9223372036854775807 by omega) (by decide))
    have hlen : (numT k).length = (numT (k / 256)).length + 1 := by rw [hnp]; simp
    refine Spec.of_run [(0, .int .i64 (k : Int))] Try.func38 rfl (Nat.le_of_ble_eq_true rfl) (by repeat (first | exact trivial | refine ⟨rfl, ?_⟩)) ?_
    refine Run.seq ?_
    refine Run.region ?_
    refine RunL.ok (OpOk.assign rfl) rfl ?_
    refine RunL.nil ?_
    refine Run.seq ?_
    refine Run.seq ?_
    refine Run.region ?_
    refine RunL.ok (OpOk.move rfl) rfl ?_
    refine RunL.ok (OpOk.asF (OpOk.leq rfl rfl) (by omega)) rfl ?_
    refine RunL.nil ?_
    refine Run.condF rfl ?_
    refine Run.skip ?_
    refine Run.seq ?_
    refine Run.region ?_
    refine RunL.ok (OpOk.move rfl) rfl ?_
    refine RunL.ok (OpOk.quoN _ 256 rfl rfl rfl rfl (by omega) (by omega)) rfl ?_
    refine RunL.call cal38 rfl (s38 (by assumption) (by omega) (by omega)) rfl (fun vx1 Ax1 hx1 => ?_)
    obtain ⟨x2, rfl⟩ := hx1
    refine RunL.ok (OpOk.move rfl) rfl ?_
    refine RunL.ok (OpOk.remN _ 256 rfl rfl rfl rfl (by omega)) rfl ?_
    refine RunL.ok (OpOk.convInt rfl rfl rfl (wrapU8 (by omega) (by omega))) rfl ?_
    refine RunL.lits rfl ti5 rfl rfl rfl (by simp [Value.cells]) (by decide) rfl (fun vx3 rdx3 => ?_)
    refine RunL.know (fun w s => (s.conv rfl).ownRd0) (fun rdx5 => ?_)
    refine RunL.append rfl ti5 rfl rfl rfl (frl rfl) (Rd.right rdx5) (by first | assumption | simp [Value.oneCell']) rfl (by decide) (by omega) (by simp only [maxLen]; omega) rfl (fun vx4 rdx4 => ?_)
    refine RunL.ok (OpOk.assign rfl) rfl ?_
    refine RunL.nil ?_
    refine Run.ret1 Try.func38 rfl rfl ?_
    exact ⟨x2 * own 5 1 vx3 1 [.int .u8 ((k % 256 : Nat) : Int)], by rw [B_modN, ← hnp, ← hlen, ← sep_assoc]⟩
theorem s38a {z : Int} (h : z ≤ 0) : Spec Try.prog w0 38 [.int .i64 z] A (fun v' A' => ∃ J, A' = A * J * own 5 1 v' (numT z.toNat).length (B (numT z.toNat))) := refNumNeg h
theorem s38b {k : Nat} (hk : k ≤ 9223372036854775807) : Spec Try.prog w0 38 [.int .i64 (k : Int)] A (fun v' A' => ∃ J, A' = A * J * own 5 1 v' (numT k).length (B (numT k))) := refNumAll _ A k (Nat.le_refl _) hk
theorem s37 {u : Value} {m : Nat} {b : List UInt8} {z e : Int} (rd : Rd w0 A u 1 m (B b)) (h : intT b = (z, e)) : Spec Try.prog w0 37 [u] A (fun v' A' => v' = .tuple #[.int .i64 z, .int .i64 e] ∧ A' = A) := by
  have hl : b.length = m := by simpa [B] using rd.len
  subst hl
  have hmx := rd.max
  unfold intT at h
  rcases Decidable.em (7 < b.length) with h7 | h7
  · rw [if_pos h7] at h
    obtain ⟨rfl, rfl⟩ := Prod.mk.inj h
    refine Spec.of_run [(0, u)] Try.func37 rfl (Nat.le_of_ble_eq_true rfl) (by repeat (first | exact trivial | refine ⟨rfl, ?_⟩)) ?_
    refine Run.seq ?_
    refine Run.region ?_
    refine RunL.ok (OpOk.assign rfl) rfl ?_
    refine RunL.ok (OpOk.assign rfl) rfl ?_
    refine RunL.nil ?_
    refine Run.seq ?_
    refine Run.seq ?_
    refine Run.region ?_
    refine RunL.ok (OpOk.move rfl) rfl ?_
    refine RunL.ok (OpOk.lenR rfl rfl rd rfl) rfl ?_
    refine RunL.ok (OpOk.asT (OpOk.gtr rfl rfl) (by omega)) rfl ?_
    refine RunL.nil ?_
    refine Run.condT rfl ?_
    refine Run.seq ?_
    refine Run.region ?_
    refine RunL.ok (OpOk.assign rfl) rfl ?_
    refine RunL.ok (OpOk.assign rfl) rfl ?_
    refine RunL.nil ?_
    refine Run.ret2 Try.func37 rfl rfl rfl ?_
    exact ⟨rfl, rfl⟩
  · rw [if_neg h7] at h
    rcases Decidable.em (0 < b.length ∧ b.getD 0 0 = 0) with h0 | h0
    · rw [if_pos h0] at h
      obtain ⟨rfl, rfl⟩ := Prod.mk.inj h
      obtain ⟨h01, h02⟩ := h0
      refine Spec.of_run [(0, u)] Try.func37 rfl (Nat.le_of_ble_eq_true rfl) (by repeat (first | exact trivial | refine ⟨rfl, ?_⟩)) ?_
      refine Run.seq ?_
      refine Run.region ?_
      refine RunL.ok (OpOk.assign rfl) rfl ?_
      refine RunL.ok (OpOk.assign rfl) rfl ?_
      refine RunL.nil ?_
      refine Run.seq ?_
      refine Run.seq ?_
      refine Run.region ?_
      refine RunL.ok (OpOk.move rfl) rfl ?_
      refine RunL.ok (OpOk.lenR rfl rfl rd rfl) rfl ?_
      refine RunL.ok (OpOk.asF (OpOk.gtr rfl rfl) (by omega)) rfl ?_
      refine RunL.nil ?_
      refine Run.condF rfl ?_
      refine Run.skip ?_
      refine Run.seq ?_
      refine Run.seq ?_
      refine Run.region ?_
      refine RunL.ok (OpOk.move rfl) rfl ?_
      refine RunL.ok (OpOk.lenR rfl rfl rd rfl) rfl ?_
      refine RunL.ok (OpOk.asT (OpOk.gtr rfl rfl) (by omega)) rfl ?_
      refine RunL.ok (OpOk.move rfl) rfl ?_
      refine RunL.on rfl rfl ?_
      refine RunL.ok (OpOk.move rfl) rfl ?_
      refine RunL.on rfl rfl ?_
      refine RunL.ok (OpOk.idx1N rfl ti5 rfl rd rfl (by omega)) rfl ?_
      refine RunL.on rfl rfl ?_
      refine RunL.ok (OpOk.load rfl rfl rfl (Rd.getBE (by assumption) rd (by omega))) rfl ?_
      refine RunL.on rfl rfl ?_
      refine RunL.ok (OpOk.eql rfl rfl) rfl ?_
      refine RunL.ok (OpOk.pickT rfl rfl) rfl ?_
      refine RunL.nil ?_
      refine Run.condT rfl ?_
      refine Run.seq ?_
      refine Run.region ?_
      refine RunL.ok (OpOk.assign rfl) rfl ?_
      refine RunL.ok (OpOk.assign rfl) rfl ?_
      refine RunL.nil ?_
      refine Run.ret2 Try.func37 rfl rfl rfl ?_
      exact ⟨rfl, rfl⟩
    · rw [if_neg h0] at h
      obtain ⟨rfl, rfl⟩ := Prod.mk.inj h
      refine Spec.of_run [(0, u)] Try.func37 rfl (Nat.le_of_ble_eq_true rfl) (by repeat (first | exact trivial | refine ⟨rfl, ?_⟩)) ?_
      refine Run.seq ?_
      refine Run.region ?_
      refine RunL.ok (OpOk.assign rfl) rfl ?_
      refine RunL.ok (OpOk.assign rfl) rfl ?_
      refine RunL.nil ?_
      refine Run.seq ?_
      refine Run.seq ?_
      refine Run.region ?_
      refine RunL.ok (OpOk.move rfl) rfl ?_
      refine RunL.ok (OpOk.lenR rfl rfl rd rfl) rfl ?_
      refine RunL.ok (OpOk.asF (OpOk.gtr rfl rfl) (by omega)) rfl ?_
      refine RunL.nil ?_
      refine Run.condF rfl ?_
      refine Run.skip ?_
      refine Run.seq ?_
      refine Run.seq ?_
      refine Run.region ?_
      refine RunL.ok (OpOk.move rfl) rfl ?_
      refine RunL.ok (OpOk.lenR rfl rfl rd rfl) rfl ?_
      refine RunL.ok (OpOk.gtr rfl rfl) rfl ?_
      refine RunL.ok (OpOk.move rfl) rfl ?_
      refine RunL.splitD (t := 12) rfl (fun x1 => ?_) (fun x1 => ?_)
      · refine RunL.on rfl rfl ?_
        refine RunL.ok (OpOk.move rfl) rfl ?_
        refine RunL.on rfl rfl ?_
        refine RunL.ok (OpOk.idx1 rfl ti5 rfl rd rfl (by omega) (by omega)) rfl ?_
        refine RunL.on rfl rfl ?_
        refine RunL.ok (OpOk.load rfl rfl rfl (Rd.getB rd (by omega))) rfl ?_
        refine RunL.on rfl rfl ?_
        refine RunL.ok (OpOk.eql rfl rfl) rfl ?_
        refine RunL.ok (OpOk.pickT rfl rfl) rfl ?_
        refine RunL.nil ?_
        refine Run.condD rfl (fun x2 => ?_) (fun x2 => ?_)
        · refine Run.seq ?_
          refine Run.region ?_
          refine RunL.ok (OpOk.assign rfl) rfl ?_
          refine RunL.ok (OpOk.assign rfl) rfl ?_
          refine RunL.nil ?_
          refine Run.ret2 Try.func37 rfl rfl rfl ?_
          exact absurd ⟨by omega, byte0 x2⟩ h0
        refine Run.skip ?_
        refine Run.seq ?_
        refine Run.region ?_
        refine RunL.ok (OpOk.assign rfl) rfl ?_
        refine RunL.nil ?_
        refine Run.seq ?_
        refine Run.seq ?_
        refine Run.region ?_
        refine RunL.ok (OpOk.assign rfl) rfl ?_
        refine RunL.nil ?_
        refine Run.block ?_
        refine Run.jump ((Run.loopJ (X := Nat) (fun i => [(5, .int .i64 (i : Int)), (0, u), (4, .int .i64 (beT (b.take i) : Int))]) (fun _ => A) (fun i => i ≤ b.length) (fun i => b.length - i) 0 (Nat.zero_le _) (fun i hi ih => ?_))) ⟨rfl, rfl, rfl, trivial⟩ ((Grew.refl _))
        have hbt := beT_lt (b.take i)
        rw [List.length_take, Nat.min_eq_left hi] at hbt
        have hp7 : 256 ^ i ≤ 256 ^ 7 := Nat.pow_le_pow_right (by decide) (by omega)
        rcases Nat.lt_or_ge i b.length with hlt | hge
        · have hp6 : 256 ^ i ≤ 256 ^ 6 := Nat.pow_le_pow_right (by decide) (by omega)
          have hnx := beT_take hlt
          have hbl := (b.getD i 0).toNat_lt
          refine Run.seq ?_
          refine Run.seq ?_
          refine Run.region ?_
          refine RunL.ok (OpOk.move rfl) rfl ?_
          refine RunL.ok (OpOk.move rfl) rfl ?_
          refine RunL.ok (OpOk.lenR rfl rfl rd rfl) rfl ?_
          refine RunL.ok (OpOk.asT (OpOk.lss rfl rfl) (by omega)) rfl ?_
          refine RunL.nil ?_
          refine Run.condT rfl ?_
          refine Run.skip ?_
          refine Run.seq ?_
          refine Run.block ?_
          refine Run.region ?_
          refine RunL.ok (OpOk.move rfl) rfl ?_
          refine RunL.ok (OpOk.mulN 256 _ rfl rfl rfl rfl (by omega)) rfl ?_
          refine RunL.ok (OpOk.move rfl) rfl ?_
          refine RunL.ok (OpOk.move rfl) rfl ?_
          refine RunL.ok (OpOk.idx1N rfl ti5 rfl rd rfl (by omega)) rfl ?_
          refine RunL.ok (OpOk.load rfl rfl rfl (Rd.getB rd (by omega))) rfl ?_
          refine RunL.ok (OpOk.convInt rfl rfl rfl (wrapI (by omega) (by omega))) rfl ?_
          refine RunL.ok (OpOk.addN _ _ rfl rfl rfl rfl (by omega)) rfl ?_
          refine RunL.ok (OpOk.assign rfl) rfl ?_
          refine RunL.nil ?_
          refine Run.inBlock ?_
          refine Run.region ?_
          refine RunL.ok (OpOk.move rfl) rfl ?_
          refine RunL.ok (OpOk.addN _ 1 rfl rfl rfl rfl (by omega)) rfl ?_
          refine RunL.ok (OpOk.assign rfl) rfl ?_
          refine RunL.nil ?_
          rw [← hnx]
          refine Run.jump ((ih (i + 1) (by omega) (by omega))) ⟨rfl, rfl, rfl, trivial⟩ ((Grew.refl _))
        · obtain rfl : i = b.length := by omega
          clear ih
          rw [List.take_length]
          refine Run.seq ?_
          refine Run.seq ?_
          refine Run.region ?_
          refine RunL.ok (OpOk.move rfl) rfl ?_
          refine RunL.ok (OpOk.move rfl) rfl ?_
          refine RunL.ok (OpOk.lenR rfl rfl rd rfl) rfl ?_
          refine RunL.ok (OpOk.asF (OpOk.lss rfl rfl) (by omega)) rfl ?_
          refine RunL.nil ?_
          refine Run.condF rfl ?_
          refine Run.exit rfl ?_
          refine Run.seq ?_
          refine Run.region ?_
          refine RunL.ok (OpOk.move rfl) rfl ?_
          refine RunL.ok (OpOk.assign rfl) rfl ?_
          refine RunL.ok (OpOk.assign rfl) rfl ?_
          refine RunL.nil ?_
          refine Run.ret2 Try.func37 rfl rfl rfl ?_
          exact ⟨rfl, rfl⟩
      refine RunL.off rfl rfl rfl rfl ?_
      refine RunL.off rfl rfl rfl rfl ?_
      refine RunL.off rfl rfl rfl rfl ?_
      refine RunL.off rfl rfl rfl rfl ?_
      refine RunL.ok (OpOk.pickF rfl rfl) rfl ?_
      refine RunL.nil ?_
      refine Run.condF rfl ?_
      refine Run.skip ?_
      refine Run.seq ?_
      refine Run.region ?_
      refine RunL.ok (OpOk.assign rfl) rfl ?_
      refine RunL.nil ?_
      refine Run.seq ?_
      refine Run.seq ?_
      refine Run.region ?_
      refine RunL.ok (OpOk.assign rfl) rfl ?_
      refine RunL.nil ?_
      refine Run.block ?_
      refine Run.jump ((Run.loopJ (X := Nat) (fun i => [(5, .int .i64 (i : Int)), (0, u), (4, .int .i64 (beT (b.take i) : Int))]) (fun _ => A) (fun i => i ≤ b.length) (fun i => b.length - i) 0 (Nat.zero_le _) (fun i hi ih => ?_))) ⟨rfl, rfl, rfl, trivial⟩ ((Grew.refl _))
      have hbt := beT_lt (b.take i)
      rw [List.length_take, Nat.min_eq_left hi] at hbt
      have hp7 : 256 ^ i ≤ 256 ^ 7 := Nat.pow_le_pow_right (by decide) (by omega)
      rcases Nat.lt_or_ge i b.length with hlt | hge
      · have hp6 : 256 ^ i ≤ 256 ^ 6 := Nat.pow_le_pow_right (by decide) (by omega)
        have hnx := beT_take hlt
        have hbl := (b.getD i 0).toNat_lt
        refine Run.seq ?_
        refine Run.seq ?_
        refine Run.region ?_
        refine RunL.ok (OpOk.move rfl) rfl ?_
        refine RunL.ok (OpOk.move rfl) rfl ?_
        refine RunL.ok (OpOk.lenR rfl rfl rd rfl) rfl ?_
        refine RunL.ok (OpOk.asT (OpOk.lss rfl rfl) (by omega)) rfl ?_
        refine RunL.nil ?_
        refine Run.condT rfl ?_
        refine Run.skip ?_
        refine Run.seq ?_
        refine Run.block ?_
        refine Run.region ?_
        refine RunL.ok (OpOk.move rfl) rfl ?_
        refine RunL.ok (OpOk.mulN 256 _ rfl rfl rfl rfl (by omega)) rfl ?_
        refine RunL.ok (OpOk.move rfl) rfl ?_
        refine RunL.ok (OpOk.move rfl) rfl ?_
        refine RunL.ok (OpOk.idx1N rfl ti5 rfl rd rfl (by omega)) rfl ?_
        refine RunL.ok (OpOk.load rfl rfl rfl (Rd.getB rd (by omega))) rfl ?_
        refine RunL.ok (OpOk.convInt rfl rfl rfl (wrapI (by omega) (by omega))) rfl ?_
        refine RunL.ok (OpOk.addN _ _ rfl rfl rfl rfl (by omega)) rfl ?_
        refine RunL.ok (OpOk.assign rfl) rfl ?_
        refine RunL.nil ?_
        refine Run.inBlock ?_
        refine Run.region ?_
        refine RunL.ok (OpOk.move rfl) rfl ?_
        refine RunL.ok (OpOk.addN _ 1 rfl rfl rfl rfl (by omega)) rfl ?_
        refine RunL.ok (OpOk.assign rfl) rfl ?_
        refine RunL.nil ?_
        rw [← hnx]
        refine Run.jump ((ih (i + 1) (by omega) (by omega))) ⟨rfl, rfl, rfl, trivial⟩ ((Grew.refl _))
      · obtain rfl : i = b.length := by omega
        clear ih
        rw [List.take_length]
        refine Run.seq ?_
        refine Run.seq ?_
        refine Run.region ?_
        refine RunL.ok (OpOk.move rfl) rfl ?_
        refine RunL.ok (OpOk.move rfl) rfl ?_
        refine RunL.ok (OpOk.lenR rfl rfl rd rfl) rfl ?_
        refine RunL.ok (OpOk.asF (OpOk.lss rfl rfl) (by omega)) rfl ?_
        refine RunL.nil ?_
        refine Run.condF rfl ?_
        refine Run.exit rfl ?_
        refine Run.seq ?_
        refine Run.region ?_
        refine RunL.ok (OpOk.move rfl) rfl ?_
        refine RunL.ok (OpOk.assign rfl) rfl ?_
        refine RunL.ok (OpOk.assign rfl) rfl ?_
        refine RunL.nil ?_
        refine Run.ret2 Try.func37 rfl rfl rfl ?_
        exact ⟨rfl, rfl⟩
theorem tlvNums_spec {z : Int} {u : Value} {b : List UInt8} (hz : z ≤ 9223372036854775807) (rd : Rd w0 (old w0) u 1 b.length (B b)) :
    Spec Try.prog w0 12 [.int .i64 z, u] (old w0) (fun v' A' => v' = .bool true ∧ Grew (old w0) A') := by
  rcases hi : intT b with ⟨m, e⟩
  rcases Decidable.em (e = 0) with he | he
  · subst he
    obtain ⟨rfl, hnb, hbm⟩ := int_back hi
    rcases Decidable.em (z < 0) with hn | hn
    · have hx : numT z.toNat = [] := by rw [show z.toNat = 0 by omega, numT_zero]
      have hxi : intT (numT z.toNat) = (0, 0) := by rw [hx]; rfl
      have hxl : (numT z.toNat).length = 0 := by rw [hx]; rfl
      refine Spec.of_run [(0, .int .i64 z), (1, u)] Try.func12 rfl (Nat.le_of_ble_eq_true rfl) (by repeat (first | exact trivial | refine ⟨rfl, ?_⟩)) ?_
      refine Run.seq ?_
      refine Run.region ?_
      refine RunL.ok (OpOk.assign rfl) rfl ?_
      refine RunL.nil ?_
      refine Run.seq ?_
      refine Run.seq ?_
      refine Run.region ?_
      refine RunL.call cal27 rfl (s27) rfl (fun vx1 Ax1 hx1 => ?_)
      obtain ⟨x2, ⟨rfl, rfl⟩⟩ := hx1
      refine RunL.ok (OpOk.not rfl) rfl ?_
      refine RunL.nil ?_
      refine Run.condF rfl ?_
      refine Run.skip ?_
      refine Run.seq ?_
      refine Run.region ?_
      refine RunL.ok (OpOk.move rfl) rfl ?_
      refine RunL.call cal35 rfl (s35a (by assumption)) rfl (fun vx3 Ax3 hx3 => ?_)
      obtain ⟨x4, rfl⟩ := hx3
      refine RunL.ok (OpOk.assign rfl) rfl ?_
      refine RunL.nil ?_
      refine Run.seq ?_
      refine Run.region ?_
      refine RunL.ok (OpOk.move rfl) rfl ?_
      refine RunL.call cal36 rfl (s36 rd.left.left.left (by assumption)) rfl (fun vx5 Ax5 hx5 => ?_)
      obtain ⟨rfl, rfl⟩ := hx5
      refine RunL.ok (OpOk.move rfl) rfl ?_
      refine RunL.ok (OpOk.ext20 rfl) rfl ?_
      refine RunL.ok (OpOk.ext21 rfl) rfl ?_
      refine RunL.ok (OpOk.assign rfl) rfl ?_
      refine RunL.ok (OpOk.assign rfl) rfl ?_
      refine RunL.nil ?_
      refine Run.seq ?_
      refine Run.region ?_
      refine RunL.ok (OpOk.move rfl) rfl ?_
      refine RunL.call cal37 rfl (s37 rd.left.left.left (by assumption)) rfl (fun vx6 Ax6 hx6 => ?_)
      obtain ⟨rfl, rfl⟩ := hx6
      refine RunL.ok (OpOk.move rfl) rfl ?_
      refine RunL.ok (OpOk.ext20 rfl) rfl ?_
      refine RunL.ok (OpOk.ext21 rfl) rfl ?_
      refine RunL.ok (OpOk.assign rfl) rfl ?_
      refine RunL.ok (OpOk.assign rfl) rfl ?_
      refine RunL.nil ?_
      refine Run.seq ?_
      refine Run.seq ?_
      refine Run.know (fun w s => (s.conv rfl).ownRd0) (fun rdx7 => ?_)
      (apply Run.drawD [] (by rfl) (sep_emp _).symm; case hchk => kernel_rfl)
      refine Sd.quiet 0 _ _ rfl rfl rfl rfl rfl (QOp.ok (fun X => OpOk.move rfl)) ?_
      refine Sd.quiet 1 _ _ rfl rfl rfl rfl rfl (QOp.ok (fun X => OpOk.strOf rfl rfl rfl rfl (Rd.right rdx7).left.left)) ?_
      refine Sd.quiet 2 _ _ rfl rfl rfl rfl rfl (QOp.ok (fun X => OpOk.move rfl)) ?_
      (refine Sd.exec 3 rfl rfl rfl rfl rfl ?hrest (by rfl) (fun Xx8 Kx8 hKx8 => ?_); case hrest => kernel_rfl)
      refine RunL.mem (fl2 (sep_emp _) (sep_emp _)) ?_
      refine RunL.call cal38 rfl (s38a (by omega)) rfl (fun vx9 Ax9 hx9 => ?_)
      obtain ⟨x10, rfl⟩ := hx9
      refine RunL.know (fun w s => (s.conv rfl).ownRd0) (fun rdx11 => ?_)
      refine Sd.ret hKx8 (Eq.trans rfl (gp2 (sep_emp _).symm (asg rfl))) ⟨_, (emp_sep _).symm⟩ ?_
      refine Sd.quiet 4 _ _ rfl rfl rfl rfl rfl (QOp.ok (fun X => OpOk.strOf rfl rfl rfl rfl (Rd.right (Rd.right rdx11)).left)) ?_
      refine Sd.quiet 5 _ _ rfl rfl rfl rfl rfl (QOp.ok (fun X => OpOk.neqSS rfl rfl)) ?_
      refine Sd.quiet 6 _ _ rfl rfl rfl rfl rfl (QOp.ok (fun X => OpOk.move rfl)) ?_
      refine Sd.splitBF (bnF (by first | omega | with_reducible rfl | assumption)) ?_
      refine Sd.quiet 7 _ _ rfl rfl rfl rfl rfl (QOp.ok (fun X => OpOk.move rfl)) ?_
      refine Sd.quiet 8 _ _ rfl rfl rfl rfl rfl (QOp.ok (fun X => OpOk.move rfl)) ?_
      refine Sd.quiet 9 _ _ rfl rfl rfl rfl rfl (QOp.ok (fun X => OpOk.as (c := false) (OpOk.neq rfl rfl) (by rw [decide_eq_true (by omega)]; rfl))) ?_
      refine Sd.quiet 10 _ _ rfl rfl rfl rfl rfl (QOp.ok (fun X => OpOk.pickF rfl rfl)) ?_
      refine Sd.quiet 11 _ _ rfl rfl rfl rfl rfl (QOp.ok (fun X => OpOk.move rfl)) ?_
      refine Sd.quiet 12 _ _ rfl rfl rfl rfl rfl (QOp.ok (fun X => OpOk.move rfl)) ?_
      refine Sd.quiet 13 _ _ rfl rfl rfl rfl rfl (QOp.ok (fun X => OpOk.move rfl)) ?_
      refine Sd.quiet 14 _ _ rfl rfl rfl rfl rfl (QOp.ok (fun X => OpOk.as (c := false) (OpOk.neq rfl rfl) (by rw [decide_eq_true (by omega)]; rfl))) ?_
      refine Sd.quiet 15 _ _ rfl rfl rfl rfl rfl (QOp.ok (fun X => OpOk.pickF rfl rfl)) ?_
      (apply Sd.tail; case hall => kernel_rfl)
      refine RunL.mem (fl2 (flS rfl) (sep_emp _)) ?_
      refine RunL.nil ?_
      refine Run.condF rfl ?_
      refine Run.skip ?_
      refine Run.seq ?_
      refine Run.seq ?_
      (apply Run.drawD [] (by rfl) (sep_emp _).symm; case hchk => kernel_rfl)
      refine Sd.quiet 0 _ _ rfl rfl rfl rfl rfl (QOp.ok (fun X => OpOk.move rfl)) ?_
      refine Sd.quiet 1 _ _ rfl rfl rfl rfl rfl (QOp.ok (fun X => OpOk.asT (OpOk.eql rfl rfl) (by omega))) ?_
      refine Sd.quiet 2 _ _ rfl rfl rfl rfl rfl (QOp.ok (fun X => OpOk.move rfl)) ?_
      refine Sd.quiet 3 _ _ rfl rfl rfl rfl rfl (QOp.ok (fun X => OpOk.move rfl)) ?_
      refine Sd.quiet 6 _ _ rfl rfl rfl rfl rfl (QOp.ok (fun X => OpOk.move rfl)) ?_
      refine Sd.quiet 7 _ _ rfl rfl rfl rfl rfl (QOp.ok (fun X => OpOk.strOf rfl rfl rfl rfl rd.left.left.left.left.left.left.left)) ?_
      (refine Sd.exec 4 rfl rfl rfl rfl rfl ?hrest (by rfl) (fun Xx12 Kx12 hKx12 => ?_); case hrest => kernel_rfl)
      refine RunL.mem (fl2 (sep_emp _) (sep_emp _)) ?_
      refine RunL.call cal35 rfl (s35b (by assumption)) rfl (fun vx14 Ax14 hx14 => ?_)
      obtain ⟨x15, rfl⟩ := hx14
      refine RunL.know (fun w s => (s.conv rfl).ownRd0) (fun rdx16 => ?_)
      refine Sd.ret hKx12 (Eq.trans rfl (gp2 (sep_emp _).symm (asg rfl))) ⟨_, (emp_sep _).symm⟩ ?_
      refine Sd.quiet 5 _ _ rfl rfl rfl rfl rfl (QOp.ok (fun X => OpOk.strOf rfl rfl rfl rfl (Rd.right (Rd.right rdx16)).left)) ?_
      refine Sd.quiet 8 _ _ rfl rfl rfl rfl rfl (QOp.ok (fun X => OpOk.as (c := false) (OpOk.neqSS rfl rfl) (by rw [decide_eq_true (by omega)]; rfl))) ?_
      refine Sd.quiet 9 _ _ rfl rfl rfl rfl rfl (QOp.ok (fun X => OpOk.pickT rfl rfl)) ?_
      (apply Sd.tail; case hall => kernel_rfl)
      refine RunL.mem (fl2 (flS rfl) (sep_emp _)) ?_
      refine RunL.nil ?_
      refine Run.condF rfl ?_
      refine Run.skip ?_
      refine Run.seq ?_
      refine Run.region ?_
      refine RunL.ok (OpOk.move rfl) rfl ?_
      refine RunL.call cal36 rfl (s36 (Rd.right rdx7).left.left.left.left (by assumption)) rfl (fun vx17 Ax17 hx17 => ?_)
      obtain ⟨rfl, rfl⟩ := hx17
      refine RunL.ok (OpOk.move rfl) rfl ?_
      refine RunL.ok (OpOk.ext20 rfl) rfl ?_
      refine RunL.ok (OpOk.ext21 rfl) rfl ?_
      refine RunL.ok (OpOk.assign rfl) rfl ?_
      refine RunL.ok (OpOk.assign rfl) rfl ?_
      refine RunL.nil ?_
      refine Run.seq ?_
      refine Run.region ?_
      refine RunL.ok (OpOk.move rfl) rfl ?_
      refine RunL.ok (OpOk.asT (OpOk.lss rfl rfl) (by omega)) rfl ?_
      refine RunL.ok (OpOk.move rfl) rfl ?_
      refine RunL.on rfl rfl ?_
      refine RunL.ok (OpOk.move rfl) rfl ?_
      refine RunL.on rfl rfl ?_
      refine RunL.ok (OpOk.lenR rfl rfl (Rd.right rdx7).left.left.left.left rfl) rfl ?_
      refine RunL.on rfl rfl ?_
      refine RunL.ok (OpOk.asT (OpOk.eql rfl rfl) (by omega)) rfl ?_
      refine RunL.ok (OpOk.pickT rfl rfl) rfl ?_
      refine RunL.ok (OpOk.move rfl) rfl ?_
      refine RunL.off rfl rfl rfl rfl ?_
      refine RunL.off rfl rfl rfl rfl ?_
      refine RunL.off rfl rfl rfl rfl ?_
      refine RunL.off rfl rfl rfl rfl ?_
      refine RunL.off rfl rfl rfl rfl ?_
      refine RunL.off rfl rfl rfl rfl ?_
      refine RunL.ok (OpOk.pickT rfl rfl) rfl ?_
      refine RunL.ok (OpOk.move rfl) rfl ?_
      refine RunL.off rfl rfl rfl rfl ?_
      refine RunL.off rfl rfl rfl rfl ?_
      refine RunL.off rfl rfl rfl rfl ?_
      refine RunL.off rfl rfl rfl rfl ?_
      refine RunL.off rfl rfl rfl rfl ?_
      refine RunL.off rfl rfl rfl rfl ?_
      refine RunL.off rfl rfl rfl rfl ?_
      refine RunL.off rfl rfl rfl rfl ?_
      refine RunL.off rfl rfl rfl rfl ?_
      refine RunL.off rfl rfl rfl rfl ?_
      refine RunL.off rfl rfl rfl rfl ?_
      refine RunL.off rfl rfl rfl rfl ?_
      refine RunL.off rfl rfl rfl rfl ?_
      refine RunL.off rfl rfl rfl rfl ?_
      refine RunL.off rfl rfl rfl rfl ?_
      refine RunL.ok (OpOk.pickT rfl rfl) rfl ?_
      refine RunL.ok (OpOk.assign rfl) rfl ?_
      refine RunL.nil ?_
      refine Run.ret1 Try.func12 rfl rfl ?_
      exact ⟨rfl, ⟨_, (asg (asg (asg (asg (asg (asg as1))))))⟩⟩
    · obtain ⟨k, rfl⟩ := Int.eq_ofNat_of_zero_le (show 0 ≤ z by omega)
      rcases Nat.lt_or_ge k 72057594037927936 with hk | hk
      · have hxi := int_num hk
        refine Spec.of_run [(0, .int .i64 (k : Int)), (1, u)] Try.func12 rfl (Nat.le_of_ble_eq_true rfl) (by repeat (first | exact trivial | refine ⟨rfl, ?_⟩)) ?_
        refine Run.seq ?_
        refine Run.region ?_
        refine RunL.ok (OpOk.assign rfl) rfl ?_
        refine RunL.nil ?_
        refine Run.seq ?_
        refine Run.seq ?_
        refine Run.region ?_
        refine RunL.call cal27 rfl (s27) rfl (fun vx1 Ax1 hx1 => ?_)
        obtain ⟨x2, ⟨rfl, rfl⟩⟩ := hx1
        refine RunL.ok (OpOk.not rfl) rfl ?_
        refine RunL.nil ?_
        refine Run.condF rfl ?_
        refine Run.skip ?_
        refine Run.seq ?_
        refine Run.region ?_
        refine RunL.ok (OpOk.move rfl) rfl ?_
        refine RunL.call cal35 rfl (s35b (by omega)) rfl (fun vx4 Ax4 hx4 => ?_)
        obtain ⟨x5, rfl⟩ := hx4
        refine RunL.ok (OpOk.assign rfl) rfl ?_
        refine RunL.nil ?_
        refine Run.seq ?_
        refine Run.region ?_
        refine RunL.ok (OpOk.move rfl) rfl ?_
        refine RunL.call cal36 rfl (s36 rd.left.left.left (by assumption)) rfl (fun vx6 Ax6 hx6 => ?_)
        obtain ⟨rfl, rfl⟩ := hx6
        refine RunL.ok (OpOk.move rfl) rfl ?_
        refine RunL.ok (OpOk.ext20 rfl) rfl ?_
        refine RunL.ok (OpOk.ext21 rfl) rfl ?_
        refine RunL.ok (OpOk.assign rfl) rfl ?_
        refine RunL.ok (OpOk.assign rfl) rfl ?_
        refine RunL.nil ?_
        refine Run.seq ?_
        refine Run.region ?_
        refine RunL.ok (OpOk.move rfl) rfl ?_
        refine RunL.call cal37 rfl (s37 rd.left.left.left (by assumption)) rfl (fun vx7 Ax7 hx7 => ?_)
        obtain ⟨rfl, rfl⟩ := hx7
        refine RunL.ok (OpOk.move rfl) rfl ?_
        refine RunL.ok (OpOk.ext20 rfl) rfl ?_
        refine RunL.ok (OpOk.ext21 rfl) rfl ?_
        refine RunL.ok (OpOk.assign rfl) rfl ?_
        refine RunL.ok (OpOk.assign rfl) rfl ?_
        refine RunL.nil ?_
        refine Run.seq ?_
        refine Run.seq ?_
        refine Run.know (fun w s => (s.conv rfl).ownRd0) (fun rdx8 => ?_)
        (apply Run.drawD [] (by rfl) (sep_emp _).symm; case hchk => kernel_rfl)
        refine Sd.quiet 0 _ _ rfl rfl rfl rfl rfl (QOp.ok (fun X => OpOk.move rfl)) ?_
        refine Sd.quiet 1 _ _ rfl rfl rfl rfl rfl (QOp.ok (fun X => OpOk.strOf rfl rfl rfl rfl (Rd.right rdx8).left.left)) ?_
        refine Sd.quiet 2 _ _ rfl rfl rfl rfl rfl (QOp.ok (fun X => OpOk.move rfl)) ?_
        (refine Sd.exec 3 rfl rfl rfl rfl rfl ?hrest (by rfl) (fun Xx9 Kx9 hKx9 => ?_); case hrest => kernel_rfl)
        refine RunL.mem (fl2 (sep_emp _) (sep_emp _)) ?_
        refine RunL.call cal38 rfl (s38b (by omega)) rfl (fun vx11 Ax11 hx11 => ?_)
        obtain ⟨x12, rfl⟩ := hx11
        refine RunL.know (fun w s => (s.conv rfl).ownRd0) (fun rdx13 => ?_)
        refine Sd.ret hKx9 (Eq.trans rfl (gp2 (sep_emp _).symm (asg rfl))) ⟨_, (emp_sep _).symm⟩ ?_
        refine Sd.quiet 4 _ _ rfl rfl rfl rfl rfl (QOp.ok (fun X => OpOk.strOf rfl rfl rfl rfl (Rd.right (Rd.right rdx13)).left)) ?_
        refine Sd.quiet 5 _ _ rfl rfl rfl rfl rfl (QOp.ok (fun X => OpOk.neqSS rfl rfl)) ?_
        refine Sd.quiet 6 _ _ rfl rfl rfl rfl rfl (QOp.ok (fun X => OpOk.move rfl)) ?_
        refine Sd.splitBF (bnF (by first | omega | with_reducible rfl | assumption)) ?_
        refine Sd.quiet 7 _ _ rfl rfl rfl rfl rfl (QOp.ok (fun X => OpOk.move rfl)) ?_
        refine Sd.quiet 8 _ _ rfl rfl rfl rfl rfl (QOp.ok (fun X => OpOk.move rfl)) ?_
        refine Sd.quiet 9 _ _ rfl rfl rfl rfl rfl (QOp.ok (fun X => OpOk.as (c := false) (OpOk.neq rfl rfl) (by rw [decide_eq_true (by omega)]; rfl))) ?_
        refine Sd.quiet 10 _ _ rfl rfl rfl rfl rfl (QOp.ok (fun X => OpOk.pickF rfl rfl)) ?_
        refine Sd.quiet 11 _ _ rfl rfl rfl rfl rfl (QOp.ok (fun X => OpOk.move rfl)) ?_
        refine Sd.quiet 12 _ _ rfl rfl rfl rfl rfl (QOp.ok (fun X => OpOk.move rfl)) ?_
        refine Sd.quiet 13 _ _ rfl rfl rfl rfl rfl (QOp.ok (fun X => OpOk.move rfl)) ?_
        refine Sd.quiet 14 _ _ rfl rfl rfl rfl rfl (QOp.ok (fun X => OpOk.as (c := false) (OpOk.neq rfl rfl) (by rw [decide_eq_true (by omega)]; rfl))) ?_
        refine Sd.quiet 15 _ _ rfl rfl rfl rfl rfl (QOp.ok (fun X => OpOk.pickF rfl rfl)) ?_
        (apply Sd.tail; case hall => kernel_rfl)
        refine RunL.mem (fl2 (flS rfl) (sep_emp _)) ?_
        refine RunL.nil ?_
        refine Run.condF rfl ?_
        refine Run.skip ?_
        refine Run.seq ?_
        refine Run.seq ?_
        (apply Run.drawD [] (by rfl) (sep_emp _).symm; case hchk => kernel_rfl)
        refine Sd.quiet 0 _ _ rfl rfl rfl rfl rfl (QOp.ok (fun X => OpOk.move rfl)) ?_
        refine Sd.quiet 1 _ _ rfl rfl rfl rfl rfl (QOp.ok (fun X => OpOk.asT (OpOk.eql rfl rfl) (by omega))) ?_
        refine Sd.quiet 2 _ _ rfl rfl rfl rfl rfl (QOp.ok (fun X => OpOk.move rfl)) ?_
        refine Sd.quiet 3 _ _ rfl rfl rfl rfl rfl (QOp.ok (fun X => OpOk.move rfl)) ?_
        refine Sd.quiet 6 _ _ rfl rfl rfl rfl rfl (QOp.ok (fun X => OpOk.move rfl)) ?_
        refine Sd.quiet 7 _ _ rfl rfl rfl rfl rfl (QOp.ok (fun X => OpOk.strOf rfl rfl rfl rfl rd.left.left.left.left.left.left.left)) ?_
        (refine Sd.exec 4 rfl rfl rfl rfl rfl ?hrest (by rfl) (fun Xx14 Kx14 hKx14 => ?_); case hrest => kernel_rfl)
        refine RunL.mem (fl2 (sep_emp _) (sep_emp _)) ?_
        refine RunL.call cal35 rfl (s35b (by assumption)) rfl (fun vx16 Ax16 hx16 => ?_)
        obtain ⟨x17, rfl⟩ := hx16
        refine RunL.know (fun w s => (s.conv rfl).ownRd0) (fun rdx18 => ?_)
        refine Sd.ret hKx14 (Eq.trans rfl (gp2 (sep_emp _).symm (asg rfl))) ⟨_, (emp_sep _).symm⟩ ?_
        refine Sd.quiet 5 _ _ rfl rfl rfl rfl rfl (QOp.ok (fun X => OpOk.strOf rfl rfl rfl rfl (Rd.right (Rd.right rdx18)).left)) ?_
        refine Sd.quiet 8 _ _ rfl rfl rfl rfl rfl (QOp.ok (fun X => OpOk.as (c := false) (OpOk.neqSS rfl rfl) (by rw [decide_eq_true (by omega)]; rfl))) ?_
        refine Sd.quiet 9 _ _ rfl rfl rfl rfl rfl (QOp.ok (fun X => OpOk.pickT rfl rfl)) ?_
        (apply Sd.tail; case hall => kernel_rfl)
        refine RunL.mem (fl2 (flS rfl) (sep_emp _)) ?_
        refine RunL.nil ?_
        refine Run.condF rfl ?_
        refine Run.skip ?_
        refine Run.seq ?_
        refine Run.region ?_
        refine RunL.ok (OpOk.move rfl) rfl ?_
        refine RunL.call cal36 rfl (s36 (Rd.right rdx8).left.left.left.left (by assumption)) rfl (fun vx19 Ax19 hx19 => ?_)
        obtain ⟨rfl, rfl⟩ := hx19
        refine RunL.ok (OpOk.move rfl) rfl ?_
        refine RunL.ok (OpOk.ext20 rfl) rfl ?_
        refine RunL.ok (OpOk.ext21 rfl) rfl ?_
        refine RunL.ok (OpOk.assign rfl) rfl ?_
        refine RunL.ok (OpOk.assign rfl) rfl ?_
        refine RunL.nil ?_
        refine Run.seq ?_
        refine Run.region ?_
        refine RunL.ok (OpOk.move rfl) rfl ?_
        refine RunL.ok (OpOk.asF (OpOk.lss rfl rfl) (by omega)) rfl ?_
        refine RunL.ok (OpOk.move rfl) rfl ?_
        refine RunL.off rfl rfl rfl rfl ?_
        refine RunL.off rfl rfl rfl rfl ?_
        refine RunL.off rfl rfl rfl rfl ?_
        refine RunL.ok (OpOk.pickF rfl rfl) rfl ?_
        refine RunL.ok (OpOk.move rfl) rfl ?_
        refine RunL.on rfl rfl ?_
        refine RunL.ok (OpOk.move rfl) rfl ?_
        refine RunL.on rfl rfl ?_
        refine RunL.ok (OpOk.asF (OpOk.geq rfl rfl) (by omega)) rfl ?_
        refine RunL.on rfl rfl ?_
        refine RunL.ok (OpOk.move rfl) rfl ?_
        refine RunL.off rfl rfl rfl rfl ?_
        refine RunL.off rfl rfl rfl rfl ?_
        refine RunL.on rfl rfl ?_
        refine RunL.ok (OpOk.pickF rfl rfl) rfl ?_
        refine RunL.ok (OpOk.pickF rfl rfl) rfl ?_
        refine RunL.ok (OpOk.move rfl) rfl ?_
        refine RunL.on rfl rfl ?_
        refine RunL.ok (OpOk.move rfl) rfl ?_
        refine RunL.on rfl rfl ?_
        refine RunL.ok (OpOk.asT (OpOk.geq rfl rfl) (by omega)) rfl ?_
        refine RunL.on rfl rfl ?_
        refine RunL.ok (OpOk.move rfl) rfl ?_
        refine RunL.on rfl rfl ?_
        refine RunL.ok (OpOk.move rfl) rfl ?_
        refine RunL.on rfl rfl ?_
        refine RunL.ok (OpOk.asT (OpOk.lss rfl rfl) (by omega)) rfl ?_
        refine RunL.on rfl rfl ?_
        refine RunL.ok (OpOk.pickT rfl rfl) rfl ?_
        refine RunL.on rfl rfl ?_
        refine RunL.ok (OpOk.move rfl) rfl ?_
        refine RunL.on rfl rfl ?_
        refine RunL.ok (OpOk.move rfl) rfl ?_
        refine RunL.on rfl rfl ?_
        refine RunL.ok (OpOk.asT (OpOk.eql rfl rfl) (by omega)) rfl ?_
        refine RunL.on rfl rfl ?_
        refine RunL.ok (OpOk.pickT rfl rfl) rfl ?_
        refine RunL.on rfl rfl ?_
        refine RunL.ok (OpOk.move rfl) rfl ?_
        refine RunL.on rfl rfl ?_
        refine RunL.ok (OpOk.move rfl) rfl ?_
        refine RunL.on rfl rfl ?_
        refine RunL.ok (OpOk.move rfl) rfl ?_
        refine RunL.on rfl rfl ?_
        refine RunL.ok (OpOk.asT (OpOk.eql rfl rfl) (by omega)) rfl ?_
        refine RunL.on rfl rfl ?_
        refine RunL.ok (OpOk.pickT rfl rfl) rfl ?_
        refine RunL.ok (OpOk.pickF rfl rfl) rfl ?_
        refine RunL.ok (OpOk.assign rfl) rfl ?_
        refine RunL.nil ?_
        refine Run.ret1 Try.func12 rfl rfl ?_
        exact ⟨rfl, ⟨_, (asg (asg (asg (asg (asg (asg as1))))))⟩⟩
      · have hxi := int_long hk
        refine Spec.of_run [(0, .int .i64 (k : Int)), (1, u)] Try.func12 rfl (Nat.le_of_ble_eq_true rfl) (by repeat (first | exact trivial | refine ⟨rfl, ?_⟩)) ?_
        refine Run.seq ?_
        refine Run.region ?_
        refine RunL.ok (OpOk.assign rfl) rfl ?_
        refine RunL.nil ?_
        refine Run.seq ?_
        refine Run.seq ?_
        refine Run.region ?_
        refine RunL.call cal27 rfl (s27) rfl (fun vx1 Ax1 hx1 => ?_)
        obtain ⟨x2, ⟨rfl, rfl⟩⟩ := hx1
        refine RunL.ok (OpOk.not rfl) rfl ?_
        refine RunL.nil ?_
        refine Run.condF rfl ?_
        refine Run.skip ?_
        refine Run.seq ?_
        refine Run.region ?_
        refine RunL.ok (OpOk.move rfl) rfl ?_
        refine RunL.call cal35 rfl (s35b (by omega)) rfl (fun vx4 Ax4 hx4 => ?_)
        obtain ⟨x5, rfl⟩ := hx4
        refine RunL.ok (OpOk.assign rfl) rfl ?_
        refine RunL.nil ?_
        refine Run.seq ?_
        refine Run.region ?_
        refine RunL.ok (OpOk.move rfl) rfl ?_
        refine RunL.call cal36 rfl (s36 rd.left.left.left (by assumption)) rfl (fun vx6 Ax6 hx6 => ?_)
        obtain ⟨rfl, rfl⟩ := hx6
        refine RunL.ok (OpOk.move rfl) rfl ?_
        refine RunL.ok (OpOk.ext20 rfl) rfl ?_
        refine RunL.ok (OpOk.ext21 rfl) rfl ?_
        refine RunL.ok (OpOk.assign rfl) rfl ?_
        refine RunL.ok (OpOk.assign rfl) rfl ?_
        refine RunL.nil ?_
        refine Run.seq ?_
        refine Run.region ?_
        refine RunL.ok (OpOk.move rfl) rfl ?_
        refine RunL.call cal37 rfl (s37 rd.left.left.left (by assumption)) rfl (fun vx7 Ax7 hx7 => ?_)
        obtain ⟨rfl, rfl⟩ := hx7
        refine RunL.ok (OpOk.move rfl) rfl ?_
        refine RunL.ok (OpOk.ext20 rfl) rfl ?_
        refine RunL.ok (OpOk.ext21 rfl) rfl ?_
        refine RunL.ok (OpOk.assign rfl) rfl ?_
        refine RunL.ok (OpOk.assign rfl) rfl ?_
        refine RunL.nil ?_
        refine Run.seq ?_
        refine Run.seq ?_
        refine Run.know (fun w s => (s.conv rfl).ownRd0) (fun rdx8 => ?_)
        (apply Run.drawD [] (by rfl) (sep_emp _).symm; case hchk => kernel_rfl)
        refine Sd.quiet 0 _ _ rfl rfl rfl rfl rfl (QOp.ok (fun X => OpOk.move rfl)) ?_
        refine Sd.quiet 1 _ _ rfl rfl rfl rfl rfl (QOp.ok (fun X => OpOk.strOf rfl rfl rfl rfl (Rd.right rdx8).left.left)) ?_
        refine Sd.quiet 2 _ _ rfl rfl rfl rfl rfl (QOp.ok (fun X => OpOk.move rfl)) ?_
        (refine Sd.exec 3 rfl rfl rfl rfl rfl ?hrest (by rfl) (fun Xx9 Kx9 hKx9 => ?_); case hrest => kernel_rfl)
        refine RunL.mem (fl2 (sep_emp _) (sep_emp _)) ?_
        refine RunL.call cal38 rfl (s38b (by omega)) rfl (fun vx11 Ax11 hx11 => ?_)
        obtain ⟨x12, rfl⟩ := hx11
        refine RunL.know (fun w s => (s.conv rfl).ownRd0) (fun rdx13 => ?_)
        refine Sd.ret hKx9 (Eq.trans rfl (gp2 (sep_emp _).symm (asg rfl))) ⟨_, (emp_sep _).symm⟩ ?_
        refine Sd.quiet 4 _ _ rfl rfl rfl rfl rfl (QOp.ok (fun X => OpOk.strOf rfl rfl rfl rfl (Rd.right (Rd.right rdx13)).left)) ?_
        refine Sd.quiet 5 _ _ rfl rfl rfl rfl rfl (QOp.ok (fun X => OpOk.neqSS rfl rfl)) ?_
        refine Sd.quiet 6 _ _ rfl rfl rfl rfl rfl (QOp.ok (fun X => OpOk.move rfl)) ?_
        refine Sd.splitBF (bnF (by first | omega | with_reducible rfl | assumption)) ?_
        refine Sd.quiet 7 _ _ rfl rfl rfl rfl rfl (QOp.ok (fun X => OpOk.move rfl)) ?_
        refine Sd.quiet 8 _ _ rfl rfl rfl rfl rfl (QOp.ok (fun X => OpOk.move rfl)) ?_
        refine Sd.quiet 9 _ _ rfl rfl rfl rfl rfl (QOp.ok (fun X => OpOk.as (c := false) (OpOk.neq rfl rfl) (by rw [decide_eq_true (by omega)]; rfl))) ?_
        refine Sd.quiet 10 _ _ rfl rfl rfl rfl rfl (QOp.ok (fun X => OpOk.pickF rfl rfl)) ?_
        refine Sd.quiet 11 _ _ rfl rfl rfl rfl rfl (QOp.ok (fun X => OpOk.move rfl)) ?_
        refine Sd.quiet 12 _ _ rfl rfl rfl rfl rfl (QOp.ok (fun X => OpOk.move rfl)) ?_
        refine Sd.quiet 13 _ _ rfl rfl rfl rfl rfl (QOp.ok (fun X => OpOk.move rfl)) ?_
        refine Sd.quiet 14 _ _ rfl rfl rfl rfl rfl (QOp.ok (fun X => OpOk.as (c := false) (OpOk.neq rfl rfl) (by rw [decide_eq_true (by omega)]; rfl))) ?_
        refine Sd.quiet 15 _ _ rfl rfl rfl rfl rfl (QOp.ok (fun X => OpOk.pickF rfl rfl)) ?_
        (apply Sd.tail; case hall => kernel_rfl)
        refine RunL.mem (fl2 (flS rfl) (sep_emp _)) ?_
        refine RunL.nil ?_
        refine Run.condF rfl ?_
        refine Run.skip ?_
        refine Run.seq ?_
        refine Run.seq ?_
        (apply Run.drawD [] (by rfl) (sep_emp _).symm; case hchk => kernel_rfl)
        refine Sd.quiet 0 _ _ rfl rfl rfl rfl rfl (QOp.ok (fun X => OpOk.move rfl)) ?_
        refine Sd.quiet 1 _ _ rfl rfl rfl rfl rfl (QOp.ok (fun X => OpOk.asT (OpOk.eql rfl rfl) (by omega))) ?_
        refine Sd.quiet 2 _ _ rfl rfl rfl rfl rfl (QOp.ok (fun X => OpOk.move rfl)) ?_
        refine Sd.quiet 3 _ _ rfl rfl rfl rfl rfl (QOp.ok (fun X => OpOk.move rfl)) ?_
        refine Sd.quiet 6 _ _ rfl rfl rfl rfl rfl (QOp.ok (fun X => OpOk.move rfl)) ?_
        refine Sd.quiet 7 _ _ rfl rfl rfl rfl rfl (QOp.ok (fun X => OpOk.strOf rfl rfl rfl rfl rd.left.left.left.left.left.left.left)) ?_
        (refine Sd.exec 4 rfl rfl rfl rfl rfl ?hrest (by rfl) (fun Xx14 Kx14 hKx14 => ?_); case hrest => kernel_rfl)
        refine RunL.mem (fl2 (sep_emp _) (sep_emp _)) ?_
        refine RunL.call cal35 rfl (s35b (by assumption)) rfl (fun vx16 Ax16 hx16 => ?_)
        obtain ⟨x17, rfl⟩ := hx16
        refine RunL.know (fun w s => (s.conv rfl).ownRd0) (fun rdx18 => ?_)
        refine Sd.ret hKx14 (Eq.trans rfl (gp2 (sep_emp _).symm (asg rfl))) ⟨_, (emp_sep _).symm⟩ ?_
        refine Sd.quiet 5 _ _ rfl rfl rfl rfl rfl (QOp.ok (fun X => OpOk.strOf rfl rfl rfl rfl (Rd.right (Rd.right rdx18)).left)) ?_
        refine Sd.quiet 8 _ _ rfl rfl rfl rfl rfl (QOp.ok (fun X => OpOk.as (c := false) (OpOk.neqSS rfl rfl) (by rw [decide_eq_true (by omega)]; rfl))) ?_
        refine Sd.quiet 9 _ _ rfl rfl rfl rfl rfl (QOp.ok (fun X => OpOk.pickT rfl rfl)) ?_
        (apply Sd.tail; case hall => kernel_rfl)
        refine RunL.mem (fl2 (flS rfl) (sep_emp _)) ?_
        refine RunL.nil ?_
        refine Run.condF rfl ?_
        refine Run.skip ?_
        refine Run.seq ?_
        refine Run.region ?_
        refine RunL.ok (OpOk.move rfl) rfl ?_
        refine RunL.call cal36 rfl (s36 (Rd.right rdx8).left.left.left.left (by assumption)) rfl (fun vx19 Ax19 hx19 => ?_)
        obtain ⟨rfl, rfl⟩ := hx19
        refine RunL.ok (OpOk.move rfl) rfl ?_
        refine RunL.ok (OpOk.ext20 rfl) rfl ?_
        refine RunL.ok (OpOk.ext21 rfl) rfl ?_
        refine RunL.ok (OpOk.assign rfl) rfl ?_
        refine RunL.ok (OpOk.assign rfl) rfl ?_
        refine RunL.nil ?_
        refine Run.seq ?_
        refine Run.region ?_
        refine RunL.ok (OpOk.move rfl) rfl ?_
        refine RunL.ok (OpOk.asF (OpOk.lss rfl rfl) (by omega)) rfl ?_
        refine RunL.ok (OpOk.move rfl) rfl ?_
        refine RunL.off rfl rfl rfl rfl ?_
        refine RunL.off rfl rfl rfl rfl ?_
        refine RunL.off rfl rfl rfl rfl ?_
        refine RunL.ok (OpOk.pickF rfl rfl) rfl ?_
        refine RunL.ok (OpOk.move rfl) rfl ?_
        refine RunL.on rfl rfl ?_
        refine RunL.ok (OpOk.move rfl) rfl ?_
        refine RunL.on rfl rfl ?_
        refine RunL.ok (OpOk.asT (OpOk.geq rfl rfl) (by omega)) rfl ?_
        refine RunL.on rfl rfl ?_
        refine RunL.ok (OpOk.move rfl) rfl ?_
        refine RunL.on rfl rfl ?_
        refine RunL.ok (OpOk.move rfl) rfl ?_
        refine RunL.on rfl rfl ?_
        refine RunL.ok (OpOk.asT (OpOk.eql rfl rfl) (by omega)) rfl ?_
        refine RunL.on rfl rfl ?_
        refine RunL.ok (OpOk.pickT rfl rfl) rfl ?_
        refine RunL.ok (OpOk.pickF rfl rfl) rfl ?_
        refine RunL.ok (OpOk.move rfl) rfl ?_
        refine RunL.off rfl rfl rfl rfl ?_
        refine RunL.off rfl rfl rfl rfl ?_
        refine RunL.off rfl rfl rfl rfl ?_
        refine RunL.off rfl rfl rfl rfl ?_
        refine RunL.off rfl rfl rfl rfl ?_
        refine RunL.off rfl rfl rfl rfl ?_
        refine RunL.off rfl rfl rfl rfl ?_
        refine RunL.off rfl rfl rfl rfl ?_
        refine RunL.off rfl rfl rfl rfl ?_
        refine RunL.off rfl rfl rfl rfl ?_
        refine RunL.off rfl rfl rfl rfl ?_
        refine RunL.off rfl rfl rfl rfl ?_
        refine RunL.off rfl rfl rfl rfl ?_
        refine RunL.off rfl rfl rfl rfl ?_
        refine RunL.off rfl rfl rfl rfl ?_
        refine RunL.ok (OpOk.pickT rfl rfl) rfl ?_
        refine RunL.ok (OpOk.assign rfl) rfl ?_
        refine RunL.nil ?_
        refine Run.ret1 Try.func12 rfl rfl ?_
        exact ⟨rfl, ⟨_, (asg (asg (asg (asg (asg (asg as1))))))⟩⟩
  · rcases Decidable.em (z < 0) with hn | hn
    · have hx : numT z.toNat = [] := by rw [show z.toNat = 0 by omega, numT_zero]
      have hxi : intT (numT z.toNat) = (0, 0) := by rw [hx]; rfl
      have hxl : (numT z.toNat).length = 0 := by rw [hx]; rfl
      refine Spec.of_run [(0, .int .i64 z), (1, u)] Try.func12 rfl (Nat.le_of_ble_eq_true rfl) (by repeat (first | exact trivial | refine ⟨rfl, ?_⟩)) ?_
      refine Run.seq ?_
      refine Run.region ?_
      refine RunL.ok (OpOk.assign rfl) rfl ?_
      refine RunL.nil ?_
      refine Run.seq ?_
      refine Run.seq ?_
      refine Run.region ?_
      refine RunL.call cal27 rfl (s27) rfl (fun vx1 Ax1 hx1 => ?_)
      obtain ⟨x2, ⟨rfl, rfl⟩⟩ := hx1
      refine RunL.ok (OpOk.not rfl) rfl ?_
      refine RunL.nil ?_
      refine Run.condF rfl ?_
      refine Run.skip ?_
      refine Run.seq ?_
      refine Run.region ?_
      refine RunL.ok (OpOk.move rfl) rfl ?_
      refine RunL.call cal35 rfl (s35a (by assumption)) rfl (fun vx3 Ax3 hx3 => ?_)
      obtain ⟨x4, rfl⟩ := hx3
      refine RunL.ok (OpOk.assign rfl) rfl ?_
      refine RunL.nil ?_
      refine Run.seq ?_
      refine Run.region ?_
      refine RunL.ok (OpOk.move rfl) rfl ?_
      refine RunL.call cal36 rfl (s36 rd.left.left.left (by assumption)) rfl (fun vx5 Ax5 hx5 => ?_)
      obtain ⟨rfl, rfl⟩ := hx5
      refine RunL.ok (OpOk.move rfl) rfl ?_
      refine RunL.ok (OpOk.ext20 rfl) rfl ?_
      refine RunL.ok (OpOk.ext21 rfl) rfl ?_
      refine RunL.ok (OpOk.assign rfl) rfl ?_
      refine RunL.ok (OpOk.assign rfl) rfl ?_
      refine RunL.nil ?_
      refine Run.seq ?_
      refine Run.region ?_
      refine RunL.ok (OpOk.move rfl) rfl ?_
      refine RunL.call cal37 rfl (s37 rd.left.left.left (by assumption)) rfl (fun vx6 Ax6 hx6 => ?_)
      obtain ⟨rfl, rfl⟩ := hx6
      refine RunL.ok (OpOk.move rfl) rfl ?_
      refine RunL.ok (OpOk.ext20 rfl) rfl ?_
      refine RunL.ok (OpOk.ext21 rfl) rfl ?_
      refine RunL.ok (OpOk.assign rfl) rfl ?_
      refine RunL.ok (OpOk.assign rfl) rfl ?_
      refine RunL.nil ?_
      refine Run.seq ?_
      refine Run.seq ?_
      refine Run.know (fun w s => (s.conv rfl).ownRd0) (fun rdx7 => ?_)
      (apply Run.drawD [] (by rfl) (sep_emp _).symm; case hchk => kernel_rfl)
      refine Sd.quiet 0 _ _ rfl rfl rfl rfl rfl (QOp.ok (fun X => OpOk.move rfl)) ?_
      refine Sd.quiet 1 _ _ rfl rfl rfl rfl rfl (QOp.ok (fun X => OpOk.strOf rfl rfl rfl rfl (Rd.right rdx7).left.left)) ?_
      refine Sd.quiet 2 _ _ rfl rfl rfl rfl rfl (QOp.ok (fun X => OpOk.move rfl)) ?_
      (refine Sd.exec 3 rfl rfl rfl rfl rfl ?hrest (by rfl) (fun Xx8 Kx8 hKx8 => ?_); case hrest => kernel_rfl)
      refine RunL.mem (fl2 (sep_emp _) (sep_emp _)) ?_
      refine RunL.call cal38 rfl (s38a (by omega)) rfl (fun vx9 Ax9 hx9 => ?_)
      obtain ⟨x10, rfl⟩ := hx9
      refine RunL.know (fun w s => (s.conv rfl).ownRd0) (fun rdx11 => ?_)
      refine Sd.ret hKx8 (Eq.trans rfl (gp2 (sep_emp _).symm (asg rfl))) ⟨_, (emp_sep _).symm⟩ ?_
      refine Sd.quiet 4 _ _ rfl rfl rfl rfl rfl (QOp.ok (fun X => OpOk.strOf rfl rfl rfl rfl (Rd.right (Rd.right rdx11)).left)) ?_
      refine Sd.quiet 5 _ _ rfl rfl rfl rfl rfl (QOp.ok (fun X => OpOk.neqSS rfl rfl)) ?_
      refine Sd.quiet 6 _ _ rfl rfl rfl rfl rfl (QOp.ok (fun X => OpOk.move rfl)) ?_
      refine Sd.splitBF (bnF (by first | omega | with_reducible rfl | assumption)) ?_
      refine Sd.quiet 7 _ _ rfl rfl rfl rfl rfl (QOp.ok (fun X => OpOk.move rfl)) ?_
      refine Sd.quiet 8 _ _ rfl rfl rfl rfl rfl (QOp.ok (fun X => OpOk.move rfl)) ?_
      refine Sd.quiet 9 _ _ rfl rfl rfl rfl rfl (QOp.ok (fun X => OpOk.as (c := false) (OpOk.neq rfl rfl) (by rw [decide_eq_true (by omega)]; rfl))) ?_
      refine Sd.quiet 10 _ _ rfl rfl rfl rfl rfl (QOp.ok (fun X => OpOk.pickF rfl rfl)) ?_
      refine Sd.quiet 11 _ _ rfl rfl rfl rfl rfl (QOp.ok (fun X => OpOk.move rfl)) ?_
      refine Sd.quiet 12 _ _ rfl rfl rfl rfl rfl (QOp.ok (fun X => OpOk.move rfl)) ?_
      refine Sd.quiet 13 _ _ rfl rfl rfl rfl rfl (QOp.ok (fun X => OpOk.move rfl)) ?_
      refine Sd.quiet 14 _ _ rfl rfl rfl rfl rfl (QOp.ok (fun X => OpOk.as (c := false) (OpOk.neq rfl rfl) (by rw [decide_eq_true (by omega)]; rfl))) ?_
      refine Sd.quiet 15 _ _ rfl rfl rfl rfl rfl (QOp.ok (fun X => OpOk.pickF rfl rfl)) ?_
      (apply Sd.tail; case hall => kernel_rfl)
      refine RunL.mem (fl2 (flS rfl) (sep_emp _)) ?_
      refine RunL.nil ?_
      refine Run.condF rfl ?_
      refine Run.skip ?_
      refine Run.seq ?_
      refine Run.seq ?_
      (apply Run.drawD [] (by rfl) (sep_emp _).symm; case hchk => kernel_rfl)
      refine Sd.quiet 0 _ _ rfl rfl rfl rfl rfl (QOp.ok (fun X => OpOk.move rfl)) ?_
      refine Sd.quiet 1 _ _ rfl rfl rfl rfl rfl (QOp.ok (fun X => OpOk.asF (OpOk.eql rfl rfl) (by omega))) ?_
      refine Sd.quiet 2 _ _ rfl rfl rfl rfl rfl (QOp.ok (fun X => OpOk.move rfl)) ?_
      refine Sd.skip 3 _ rfl rfl rfl rfl rfl ?_
      refine Sd.skip 4 _ rfl rfl rfl rfl rfl ?_
      refine Sd.skip 5 _ rfl rfl rfl rfl rfl ?_
      refine Sd.skip 6 _ rfl rfl rfl rfl rfl ?_
      refine Sd.skip 7 _ rfl rfl rfl rfl rfl ?_
      refine Sd.skip 8 _ rfl rfl rfl rfl rfl ?_
      refine Sd.quiet 9 _ _ rfl rfl rfl rfl rfl (QOp.ok (fun X => OpOk.pickF rfl rfl)) ?_
      (apply Sd.tail; case hall => kernel_rfl)
      refine RunL.mem (fl2 (sep_emp _) (sep_emp _)) ?_
      refine RunL.nil ?_
      refine Run.condF rfl ?_
      refine Run.skip ?_
      refine Run.seq ?_
      refine Run.region ?_
      refine RunL.ok (OpOk.move rfl) rfl ?_
      refine RunL.call cal36 rfl (s36 (Rd.right rdx7).left.left (by assumption)) rfl (fun vx12 Ax12 hx12 => ?_)
      obtain ⟨rfl, rfl⟩ := hx12
      refine RunL.ok (OpOk.move rfl) rfl ?_
      refine RunL.ok (OpOk.ext20 rfl) rfl ?_
      refine RunL.ok (OpOk.ext21 rfl) rfl ?_
      refine RunL.ok (OpOk.assign rfl) rfl ?_
      refine RunL.ok (OpOk.assign rfl) rfl ?_
      refine RunL.nil ?_
      refine Run.seq ?_
      refine Run.region ?_
      refine RunL.ok (OpOk.move rfl) rfl ?_
      refine RunL.ok (OpOk.asT (OpOk.lss rfl rfl) (by omega)) rfl ?_
      refine RunL.ok (OpOk.move rfl) rfl ?_
      refine RunL.on rfl rfl ?_
      refine RunL.ok (OpOk.move rfl) rfl ?_
      refine RunL.on rfl rfl ?_
      refine RunL.ok (OpOk.lenR rfl rfl (Rd.right rdx7).left.left rfl) rfl ?_
      refine RunL.on rfl rfl ?_
      refine RunL.ok (OpOk.asT (OpOk.eql rfl rfl) (by omega)) rfl ?_
      refine RunL.ok (OpOk.pickT rfl rfl) rfl ?_
      refine RunL.ok (OpOk.move rfl) rfl ?_
      refine RunL.off rfl rfl rfl rfl ?_
      refine RunL.off rfl rfl rfl rfl ?_
      refine RunL.off rfl rfl rfl rfl ?_
      refine RunL.off rfl rfl rfl rfl ?_
      refine RunL.off rfl rfl rfl rfl ?_
      refine RunL.off rfl rfl rfl rfl ?_
      refine RunL.ok (OpOk.pickT rfl rfl) rfl ?_
      refine RunL.ok (OpOk.move rfl) rfl ?_
      refine RunL.off rfl rfl rfl rfl ?_
      refine RunL.off rfl rfl rfl rfl ?_
      refine RunL.off rfl rfl rfl rfl ?_
      refine RunL.off rfl rfl rfl rfl ?_
      refine RunL.off rfl rfl rfl rfl ?_
      refine RunL.off rfl rfl rfl rfl ?_
      refine RunL.off rfl rfl rfl rfl ?_
      refine RunL.off rfl rfl rfl rfl ?_
      refine RunL.off rfl rfl rfl rfl ?_
      refine RunL.off rfl rfl rfl rfl ?_
      refine RunL.off rfl rfl rfl rfl ?_
      refine RunL.off rfl rfl rfl rfl ?_
      refine RunL.off rfl rfl rfl rfl ?_
      refine RunL.off rfl rfl rfl rfl ?_
      refine RunL.off rfl rfl rfl rfl ?_
      refine RunL.ok (OpOk.pickT rfl rfl) rfl ?_
      refine RunL.ok (OpOk.assign rfl) rfl ?_
      refine RunL.nil ?_
      refine Run.ret1 Try.func12 rfl rfl ?_
      exact ⟨rfl, ⟨_, (asg (asg (asg (asg as1))))⟩⟩
    · obtain ⟨k, rfl⟩ := Int.eq_ofNat_of_zero_le (show 0 ≤ z by omega)
      rcases Nat.lt_or_ge k 72057594037927936 with hk | hk
      · have hxi := int_num hk
        refine Spec.of_run [(0, .int .i64 (k : Int)), (1, u)] Try.func12 rfl (Nat.le_of_ble_eq_true rfl) (by repeat (first | exact trivial | refine ⟨rfl, ?_⟩)) ?_
        refine Run.seq ?_
        refine Run.region ?_
        refine RunL.ok (OpOk.assign rfl) rfl ?_
        refine RunL.nil ?_
        refine Run.seq ?_
        refine Run.seq ?_
        refine Run.region ?_
        refine RunL.call cal27 rfl (s27) rfl (fun vx1 Ax1 hx1 => ?_)
        obtain ⟨x2, ⟨rfl, rfl⟩⟩ := hx1
        refine RunL.ok (OpOk.not rfl) rfl ?_
        refine RunL.nil ?_
        refine Run.condF rfl ?_
        refine Run.skip ?_
        refine Run.seq ?_
        refine Run.region ?_
        refine RunL.ok (OpOk.move rfl) rfl ?_
        refine RunL.call cal35 rfl (s35b (by omega)) rfl (fun vx4 Ax4 hx4 => ?_)
        obtain ⟨x5, rfl⟩ := hx4
        refine RunL.ok (OpOk.assign rfl) rfl ?_
        refine RunL.nil ?_
        refine Run.seq ?_
        refine Run.region ?_
        refine RunL.ok (OpOk.move rfl) rfl ?_
        refine RunL.call cal36 rfl (s36 rd.left.left.left (by assumption)) rfl (fun vx6 Ax6 hx6 => ?_)
        obtain ⟨rfl, rfl⟩ := hx6
        refine RunL.ok (OpOk.move rfl) rfl ?_
        refine RunL.ok (OpOk.ext20 rfl) rfl ?_
        refine RunL.ok (OpOk.ext21 rfl) rfl ?_
        refine RunL.ok (OpOk.assign rfl) rfl ?_
        refine RunL.ok (OpOk.assign rfl) rfl ?_
        refine RunL.nil ?_
        refine Run.seq ?_
        refine Run.region ?_
        refine RunL.ok (OpOk.move rfl) rfl ?_
        refine RunL.call cal37 rfl (s37 rd.left.left.left (by assumption)) rfl (fun vx7 Ax7 hx7 => ?_)
        obtain ⟨rfl, rfl⟩ := hx7
        refine RunL.ok (OpOk.move rfl) rfl ?_
        refine RunL.ok (OpOk.ext20 rfl) rfl ?_
        refine RunL.ok (OpOk.ext21 rfl) rfl ?_
        refine RunL.ok (OpOk.assign rfl) rfl ?_
        refine RunL.ok (OpOk.assign rfl) rfl ?_
        refine RunL.nil ?_
        refine Run.seq ?_
        refine Run.seq ?_
        refine Run.know (fun w s => (s.conv rfl).ownRd0) (fun rdx8 => ?_)
        (apply Run.drawD [] (by rfl) (sep_emp _).symm; case hchk => kernel_rfl)
        refine Sd.quiet 0 _ _ rfl rfl rfl rfl rfl (QOp.ok (fun X => OpOk.move rfl)) ?_
        refine Sd.quiet 1 _ _ rfl rfl rfl rfl rfl (QOp.ok (fun X => OpOk.strOf rfl rfl rfl rfl (Rd.right rdx8).left.left)) ?_
        refine Sd.quiet 2 _ _ rfl rfl rfl rfl rfl (QOp.ok (fun X => OpOk.move rfl)) ?_
        (refine Sd.exec 3 rfl rfl rfl rfl rfl ?hrest (by rfl) (fun Xx9 Kx9 hKx9 => ?_); case hrest => kernel_rfl)
        refine RunL.mem (fl2 (sep_emp _) (sep_emp _)) ?_
        refine RunL.call cal38 rfl (s38b (by omega)) rfl (fun vx11 Ax11 hx11 => ?_)
        obtain ⟨x12, rfl⟩ := hx11
        refine RunL.know (fun w s => (s.conv rfl).ownRd0) (fun rdx13 => ?_)
        refine Sd.ret hKx9 (Eq.trans rfl (gp2 (sep_emp _).symm (asg rfl))) ⟨_, (emp_sep _).symm⟩ ?_
        refine Sd.quiet 4 _ _ rfl rfl rfl rfl rfl (QOp.ok (fun X => OpOk.strOf rfl rfl rfl rfl (Rd.right (Rd.right rdx13)).left)) ?_
        refine Sd.quiet 5 _ _ rfl rfl rfl rfl rfl (QOp.ok (fun X => OpOk.neqSS rfl rfl)) ?_
        refine Sd.quiet 6 _ _ rfl rfl rfl rfl rfl (QOp.ok (fun X => OpOk.move rfl)) ?_
        refine Sd.splitBF (bnF (by first | omega | with_reducible rfl | assumption)) ?_
        refine Sd.quiet 7 _ _ rfl rfl rfl rfl rfl (QOp.ok (fun X => OpOk.move rfl)) ?_
        refine Sd.quiet 8 _ _ rfl rfl rfl rfl rfl (QOp.ok (fun X => OpOk.move rfl)) ?_
        refine Sd.quiet 9 _ _ rfl rfl rfl rfl rfl (QOp.ok (fun X => OpOk.as (c := false) (OpOk.neq rfl rfl) (by rw [decide_eq_true (by omega)]; rfl))) ?_
        refine Sd.quiet 10 _ _ rfl rfl rfl rfl rfl (QOp.ok (fun X => OpOk.pickF rfl rfl)) ?_
        refine Sd.quiet 11 _ _ rfl rfl rfl rfl rfl (QOp.ok (fun X => OpOk.move rfl)) ?_
        refine Sd.quiet 12 _ _ rfl rfl rfl rfl rfl (QOp.ok (fun X => OpOk.move rfl)) ?_
        refine Sd.quiet 13 _ _ rfl rfl rfl rfl rfl (QOp.ok (fun X => OpOk.move rfl)) ?_
        refine Sd.quiet 14 _ _ rfl rfl rfl rfl rfl (QOp.ok (fun X => OpOk.as (c := false) (OpOk.neq rfl rfl) (by rw [decide_eq_true (by omega)]; rfl))) ?_
        refine Sd.quiet 15 _ _ rfl rfl rfl rfl rfl (QOp.ok (fun X => OpOk.pickF rfl rfl)) ?_
        (apply Sd.tail; case hall => kernel_rfl)
        refine RunL.mem (fl2 (flS rfl) (sep_emp _)) ?_
        refine RunL.nil ?_
        refine Run.condF rfl ?_
        refine Run.skip ?_
        refine Run.seq ?_
        refine Run.seq ?_
        (apply Run.drawD [] (by rfl) (sep_emp _).symm; case hchk => kernel_rfl)
        refine Sd.quiet 0 _ _ rfl rfl rfl rfl rfl (QOp.ok (fun X => OpOk.move rfl)) ?_
        refine Sd.quiet 1 _ _ rfl rfl rfl rfl rfl (QOp.ok (fun X => OpOk.asF (OpOk.eql rfl rfl) (by omega))) ?_
        refine Sd.quiet 2 _ _ rfl rfl rfl rfl rfl (QOp.ok (fun X => OpOk.move rfl)) ?_
        refine Sd.skip 3 _ rfl rfl rfl rfl rfl ?_
        refine Sd.skip 4 _ rfl rfl rfl rfl rfl ?_
        refine Sd.skip 5 _ rfl rfl rfl rfl rfl ?_
        refine Sd.skip 6 _ rfl rfl rfl rfl rfl ?_
        refine Sd.skip 7 _ rfl rfl rfl rfl rfl ?_
        refine Sd.skip 8 _ rfl rfl rfl rfl rfl ?_
        refine Sd.quiet 9 _ _ rfl rfl rfl rfl rfl (QOp.ok (fun X => OpOk.pickF rfl rfl)) ?_
        (apply Sd.tail; case hall => kernel_rfl)
        refine RunL.mem (fl2 (sep_emp _) (sep_emp _)) ?_
        refine RunL.nil ?_
        refine Run.condF rfl ?_
        refine Run.skip ?_
        refine Run.seq ?_
        refine Run.region ?_
        refine RunL.ok (OpOk.move rfl) rfl ?_
        refine RunL.call cal36 rfl (s36 (Rd.right rdx8).left.left (by assumption)) rfl (fun vx14 Ax14 hx14 => ?_)
        obtain ⟨rfl, rfl⟩ := hx14
        refine RunL.ok (OpOk.move rfl) rfl ?_
        refine RunL.ok (OpOk.ext20 rfl) rfl ?_
        refine RunL.ok (OpOk.ext21 rfl) rfl ?_
        refine RunL.ok (OpOk.assign rfl) rfl ?_
        refine RunL.ok (OpOk.assign rfl) rfl ?_
        refine RunL.nil ?_
        refine Run.seq ?_
        refine Run.region ?_
        refine RunL.ok (OpOk.move rfl) rfl ?_
        refine RunL.ok (OpOk.asF (OpOk.lss rfl rfl) (by omega)) rfl ?_
        refine RunL.ok (OpOk.move rfl) rfl ?_
        refine RunL.off rfl rfl rfl rfl ?_
        refine RunL.off rfl rfl rfl rfl ?_
        refine RunL.off rfl rfl rfl rfl ?_
        refine RunL.ok (OpOk.pickF rfl rfl) rfl ?_
        refine RunL.ok (OpOk.move rfl) rfl ?_
        refine RunL.on rfl rfl ?_
        refine RunL.ok (OpOk.move rfl) rfl ?_
        refine RunL.on rfl rfl ?_
        refine RunL.ok (OpOk.asF (OpOk.geq rfl rfl) (by omega)) rfl ?_
        refine RunL.on rfl rfl ?_
        refine RunL.ok (OpOk.move rfl) rfl ?_
        refine RunL.off rfl rfl rfl rfl ?_
        refine RunL.off rfl rfl rfl rfl ?_
        refine RunL.on rfl rfl ?_
        refine RunL.ok (OpOk.pickF rfl rfl) rfl ?_
        refine RunL.ok (OpOk.pickF rfl rfl) rfl ?_
        refine RunL.ok (OpOk.move rfl) rfl ?_
        refine RunL.on rfl rfl ?_
        refine RunL.ok (OpOk.move rfl) rfl ?_
        refine RunL.on rfl rfl ?_
        refine RunL.ok (OpOk.asT (OpOk.geq rfl rfl) (by omega)) rfl ?_
        refine RunL.on rfl rfl ?_
        refine RunL.ok (OpOk.move rfl) rfl ?_
        refine RunL.on rfl rfl ?_
        refine RunL.ok (OpOk.move rfl) rfl ?_
        refine RunL.on rfl rfl ?_
        refine RunL.ok (OpOk.asT (OpOk.lss rfl rfl) (by omega)) rfl ?_
        refine RunL.on rfl rfl ?_
        refine RunL.ok (OpOk.pickT rfl rfl) rfl ?_
        refine RunL.on rfl rfl ?_
        refine RunL.ok (OpOk.move rfl) rfl ?_
        refine RunL.on rfl rfl ?_
        refine RunL.ok (OpOk.move rfl) rfl ?_
        refine RunL.on rfl rfl ?_
        refine RunL.ok (OpOk.asT (OpOk.eql rfl rfl) (by omega)) rfl ?_
        refine RunL.on rfl rfl ?_
        refine RunL.ok (OpOk.pickT rfl rfl) rfl ?_
        refine RunL.on rfl rfl ?_
        refine RunL.ok (OpOk.move rfl) rfl ?_
        refine RunL.on rfl rfl ?_
        refine RunL.ok (OpOk.move rfl) rfl ?_
        refine RunL.on rfl rfl ?_
        refine RunL.ok (OpOk.move rfl) rfl ?_
        refine RunL.on rfl rfl ?_
        refine RunL.ok (OpOk.asT (OpOk.eql rfl rfl) (by omega)) rfl ?_
        refine RunL.on rfl rfl ?_
        refine RunL.ok (OpOk.pickT rfl rfl) rfl ?_
        refine RunL.ok (OpOk.pickF rfl rfl) rfl ?_
        refine RunL.ok (OpOk.assign rfl) rfl ?_
        refine RunL.nil ?_
        refine Run.ret1 Try.func12 rfl rfl ?_
        exact ⟨rfl, ⟨_, (asg (asg (asg (asg as1))))⟩⟩
      · have hxi := int_long hk
        refine Spec.of_run [(0, .int .i64 (k : Int)), (1, u)] Try.func12 rfl (Nat.le_of_ble_eq_true rfl) (by repeat (first | exact trivial | refine ⟨rfl, ?_⟩)) ?_
        refine Run.seq ?_
        refine Run.region ?_
        refine RunL.ok (OpOk.assign rfl) rfl ?_
        refine RunL.nil ?_
        refine Run.seq ?_
        refine Run.seq ?_
        refine Run.region ?_
        refine RunL.call cal27 rfl (s27) rfl (fun vx1 Ax1 hx1 => ?_)
        obtain ⟨x2, ⟨rfl, rfl⟩⟩ := hx1
        refine RunL.ok (OpOk.not rfl) rfl ?_
        refine RunL.nil ?_
        refine Run.condF rfl ?_
        refine Run.skip ?_
        refine Run.seq ?_
        refine Run.region ?_
        refine RunL.ok (OpOk.move rfl) rfl ?_
        refine RunL.call cal35 rfl (s35b (by omega)) rfl (fun vx4 Ax4 hx4 => ?_)
        obtain ⟨x5, rfl⟩ := hx4
        refine RunL.ok (OpOk.assign rfl) rfl ?_
        refine RunL.nil ?_
        refine Run.seq ?_
        refine Run.region ?_
        refine RunL.ok (OpOk.move rfl) rfl ?_
        refine RunL.call cal36 rfl (s36 rd.left.left.left (by assumption)) rfl (fun vx6 Ax6 hx6 => ?_)
        obtain ⟨rfl, rfl⟩ := hx6
        refine RunL.ok (OpOk.move rfl) rfl ?_
        refine RunL.ok (OpOk.ext20 rfl) rfl ?_
        refine RunL.ok (OpOk.ext21 rfl) rfl ?_
        refine RunL.ok (OpOk.assign rfl) rfl ?_
        refine RunL.ok (OpOk.assign rfl) rfl ?_
        refine RunL.nil ?_
        refine Run.seq ?_
        refine Run.region ?_
        refine RunL.ok (OpOk.move rfl) rfl ?_
        refine RunL.call cal37 rfl (s37 rd.left.left.left (by assumption)) rfl (fun vx7 Ax7 hx7 => ?_)
        obtain ⟨rfl, rfl⟩ := hx7
        refine RunL.ok (OpOk.move rfl) rfl ?_
        refine RunL.ok (OpOk.ext20 rfl) rfl ?_
        refine RunL.ok (OpOk.ext21 rfl) rfl ?_
        refine RunL.ok (OpOk.assign rfl) rfl ?_
        refine RunL.ok (OpOk.assign rfl) rfl ?_
        refine RunL.nil ?_
        refine Run.seq ?_
        refine Run.seq ?_
        refine Run.know (fun w s => (s.conv rfl).ownRd0) (fun rdx8 => ?_)
        (apply Run.drawD [] (by rfl) (sep_emp _).symm; case hchk => kernel_rfl)
        refine Sd.quiet 0 _ _ rfl rfl rfl rfl rfl (QOp.ok (fun X => OpOk.move rfl)) ?_
        refine Sd.quiet 1 _ _ rfl rfl rfl rfl rfl (QOp.ok (fun X => OpOk.strOf rfl rfl rfl rfl (Rd.right rdx8).left.left)) ?_
        refine Sd.quiet 2 _ _ rfl rfl rfl rfl rfl (QOp.ok (fun X => OpOk.move rfl)) ?_
        (refine Sd.exec 3 rfl rfl rfl rfl rfl ?hrest (by rfl) (fun Xx9 Kx9 hKx9 => ?_); case hrest => kernel_rfl)
        refine RunL.mem (fl2 (sep_emp _) (sep_emp _)) ?_
        refine RunL.call cal38 rfl (s38b (by omega)) rfl (fun vx11 Ax11 hx11 => ?_)
        obtain ⟨x12, rfl⟩ := hx11
        refine RunL.know (fun w s => (s.conv rfl).ownRd0) (fun rdx13 => ?_)
        refine Sd.ret hKx9 (Eq.trans rfl (gp2 (sep_emp _).symm (asg rfl))) ⟨_, (emp_sep _).symm⟩ ?_
        refine Sd.quiet 4 _ _ rfl rfl rfl rfl rfl (QOp.ok (fun X => OpOk.strOf rfl rfl rfl rfl (Rd.right (Rd.right rdx13)).left)) ?_
        refine Sd.quiet 5 _ _ rfl rfl rfl rfl rfl (QOp.ok (fun X => OpOk.neqSS rfl rfl)) ?_
        refine Sd.quiet 6 _ _ rfl rfl rfl rfl rfl (QOp.ok (fun X => OpOk.move rfl)) ?_
        refine Sd.splitBF (bnF (by first | omega | with_reducible rfl | assumption)) ?_
        refine Sd.quiet 7 _ _ rfl rfl rfl rfl rfl (QOp.ok (fun X => OpOk.move rfl)) ?_
        refine Sd.quiet 8 _ _ rfl rfl rfl rfl rfl (QOp.ok (fun X => OpOk.move rfl)) ?_
        refine Sd.quiet 9 _ _ rfl rfl rfl rfl rfl (QOp.ok (fun X => OpOk.as (c := false) (OpOk.neq rfl rfl) (by rw [decide_eq_true (by omega)]; rfl))) ?_
        refine Sd.quiet 10 _ _ rfl rfl rfl rfl rfl (QOp.ok (fun X => OpOk.pickF rfl rfl)) ?_
        refine Sd.quiet 11 _ _ rfl rfl rfl rfl rfl (QOp.ok (fun X => OpOk.move rfl)) ?_
        refine Sd.quiet 12 _ _ rfl rfl rfl rfl rfl (QOp.ok (fun X => OpOk.move rfl)) ?_
        refine Sd.quiet 13 _ _ rfl rfl rfl rfl rfl (QOp.ok (fun X => OpOk.move rfl)) ?_
        refine Sd.quiet 14 _ _ rfl rfl rfl rfl rfl (QOp.ok (fun X => OpOk.as (c := false) (OpOk.neq rfl rfl) (by rw [decide_eq_true (by omega)]; rfl))) ?_
        refine Sd.quiet 15 _ _ rfl rfl rfl rfl rfl (QOp.ok (fun X => OpOk.pickF rfl rfl)) ?_
        (apply Sd.tail; case hall => kernel_rfl)
        refine RunL.mem (fl2 (flS rfl) (sep_emp _)) ?_
        refine RunL.nil ?_
        refine Run.condF rfl ?_
        refine Run.skip ?_
        refine Run.seq ?_
        refine Run.seq ?_
        (apply Run.drawD [] (by rfl) (sep_emp _).symm; case hchk => kernel_rfl)
        refine Sd.quiet 0 _ _ rfl rfl rfl rfl rfl (QOp.ok (fun X => OpOk.move rfl)) ?_
        refine Sd.quiet 1 _ _ rfl rfl rfl rfl rfl (QOp.ok (fun X => OpOk.asF (OpOk.eql rfl rfl) (by omega))) ?_
        refine Sd.quiet 2 _ _ rfl rfl rfl rfl rfl (QOp.ok (fun X => OpOk.move rfl)) ?_
        refine Sd.skip 3 _ rfl rfl rfl rfl rfl ?_
        refine Sd.skip 4 _ rfl rfl rfl rfl rfl ?_
        refine Sd.skip 5 _ rfl rfl rfl rfl rfl ?_
        refine Sd.skip 6 _ rfl rfl rfl rfl rfl ?_
        refine Sd.skip 7 _ rfl rfl rfl rfl rfl ?_
        refine Sd.skip 8 _ rfl rfl rfl rfl rfl ?_
        refine Sd.quiet 9 _ _ rfl rfl rfl rfl rfl (QOp.ok (fun X => OpOk.pickF rfl rfl)) ?_
        (apply Sd.tail; case hall => kernel_rfl)
        refine RunL.mem (fl2 (sep_emp _) (sep_emp _)) ?_
        refine RunL.nil ?_
        refine Run.condF rfl ?_
        refine Run.skip ?_
        refine Run.seq ?_
        refine Run.region ?_
        refine RunL.ok (OpOk.move rfl) rfl ?_
        refine RunL.call cal36 rfl (s36 (Rd.right rdx8).left.left (by assumption)) rfl (fun vx14 Ax14 hx14 => ?_)
        obtain ⟨rfl, rfl⟩ := hx14
        refine RunL.ok (OpOk.move rfl) rfl ?_
        refine RunL.ok (OpOk.ext20 rfl) rfl ?_
        refine RunL.ok (OpOk.ext21 rfl) rfl ?_
        refine RunL.ok (OpOk.assign rfl) rfl ?_
        refine RunL.ok (OpOk.assign rfl) rfl ?_
        refine RunL.nil ?_
        refine Run.seq ?_
        refine Run.region ?_
        refine RunL.ok (OpOk.move rfl) rfl ?_
        refine RunL.ok (OpOk.asF (OpOk.lss rfl rfl) (by omega)) rfl ?_
        refine RunL.ok (OpOk.move rfl) rfl ?_
        refine RunL.off rfl rfl rfl rfl ?_
        refine RunL.off rfl rfl rfl rfl ?_
        refine RunL.off rfl rfl rfl rfl ?_
        refine RunL.ok (OpOk.pickF rfl rfl) rfl ?_
        refine RunL.ok (OpOk.move rfl) rfl ?_
        refine RunL.on rfl rfl ?_
        refine RunL.ok (OpOk.move rfl) rfl ?_
        refine RunL.on rfl rfl ?_
        refine RunL.ok (OpOk.asT (OpOk.geq rfl rfl) (by omega)) rfl ?_
        refine RunL.on rfl rfl ?_
        refine RunL.ok (OpOk.move rfl) rfl ?_
        refine RunL.on rfl rfl ?_
        refine RunL.ok (OpOk.move rfl) rfl ?_
        refine RunL.on rfl rfl ?_
        refine RunL.ok (OpOk.asT (OpOk.eql rfl rfl) (by omega)) rfl ?_
        refine RunL.on rfl rfl ?_
        refine RunL.ok (OpOk.pickT rfl rfl) rfl ?_
        refine RunL.ok (OpOk.pickF rfl rfl) rfl ?_
        refine RunL.ok (OpOk.move rfl) rfl ?_
        refine RunL.off rfl rfl rfl rfl ?_
        refine RunL.off rfl rfl rfl rfl ?_
        refine RunL.off rfl rfl rfl rfl ?_
        refine RunL.off rfl rfl rfl rfl ?_
        refine RunL.off rfl rfl rfl rfl ?_
        refine RunL.off rfl rfl rfl rfl ?_
        refine RunL.off rfl rfl rfl rfl ?_
        refine RunL.off rfl rfl rfl rfl ?_
        refine RunL.off rfl rfl rfl rfl ?_
        refine RunL.off rfl rfl rfl rfl ?_
        refine RunL.off rfl rfl rfl rfl ?_
        refine RunL.off rfl rfl rfl rfl ?_
        refine RunL.off rfl rfl rfl rfl ?_
        refine RunL.off rfl rfl rfl rfl ?_
        refine RunL.off rfl rfl rfl rfl ?_
        refine RunL.ok (OpOk.pickT rfl rfl) rfl ?_
        refine RunL.ok (OpOk.assign rfl) rfl ?_
        refine RunL.nil ?_
        refine Run.ret1 Try.func12 rfl rfl ?_
        exact ⟨rfl, ⟨_, (asg (asg (asg (asg as1))))⟩⟩
end
end Go.Proofs.Ytlheianbmpgefaa
