/- Digits as the document has them: a text first. -/
import Derived.Test.YtajjmephfoaiaaaSpB
namespace Go.Proofs.Ytajjmephfoaiaaa
open Go Go.Proofs
set_option maxRecDepth 100000
set_option maxHeartbeats 4000000
/-- The i lowest digits of n as a text. -/
def dt (n : Nat) : Nat → List UInt8
  | 0 => []
  | i + 1 => UInt8.ofNat (48 + n / 10 ^ i % 10) :: dt n i
theorem dt_length (n i : Nat) : (dt n i).length = i := by
  induction i with
  | zero => rfl
  | succ i ih => simp [dt, ih]
theorem dt_at {n : Nat} : ∀ {i j : Nat}, j < i → ((dt n i).getD j 0).toNat = 48 + n / 10 ^ (i - 1 - j) % 10
  | i + 1, 0, _ => by
    simp only [dt, List.getD_cons_zero, Nat.add_sub_cancel, Nat.sub_zero]
    rw [UInt8.toNat_ofNat']
    have := Nat.mod_lt (n / 10 ^ i) (show 0 < 10 by decide)
    omega
  | i + 1, j + 1, h => by
    simp only [dt, List.getD_cons_succ]
    rw [dt_at (by omega), show i + 1 - 1 - (j + 1) = i - 1 - j by omega]
theorem digit_cut {a : Nat} (h : a < 10) : ([48, 49, 50, 51, 52, 53, 54, 55, 56, 57].drop a).take (a + 1 - a) = [UInt8.ofNat (48 + a)] := by
  have key : ∀ a : Fin 10, ([48, 49, 50, 51, 52, 53, 54, 55, 56, 57].drop a.val).take (a.val + 1 - a.val) = [UInt8.ofNat (48 + a.val)] := by decide +kernel
  exact key ⟨a, h⟩
theorem digs_val {c n k j : Nat} (h : n < 10 ^ c) (hj : j < k) : ((digs c n k).getD j default).toNat = 16 * (n / 10 ^ (2 * k - 1 - 2 * j) % 10) + n / 10 ^ (2 * k - 1 - (2 * j + 1)) % 10 := by
  rw [List.getD_eq_getElem?_getD, digs_at hj, nib_all h, nib_all h, show 2 * (k - 1 - j) + 1 = 2 * k - 1 - 2 * j by omega, show 2 * (k - 1 - j) = 2 * k - 1 - (2 * j + 1) by omega]
  simp only [Option.getD_some]
  rw [UInt8.toNat_ofNat']
  have := Nat.mod_lt (n / 10 ^ (2 * k - 1 - 2 * j)) (show 0 < 10 by decide)
  have := Nat.mod_lt (n / 10 ^ (2 * k - 1 - (2 * j + 1))) (show 0 < 10 by decide)
  omega
theorem s25 {w0 : World} {A : Asn} {n c : Int} (hn : n ≤ 9223372036854775807) : Spec Try.prog w0 25 [.int .i64 n, .int .i64 c] A (fun v' A' => ∃ u b zs, v' = .tuple #[u, .bool b] ∧ A' = A * own 5 1 u zs.length (B zs) ∧ Digged n c (if b then 0 else 2) zs) := by
  refine Spec.of_run [(0, .int .i64 n), (1, .int .i64 c)] Try.func25 rfl (Nat.le_of_ble_eq_true rfl) (by repeat (first | exact trivial | refine ⟨rfl, ?_⟩)) ?_
  rcases Decidable.em (1 ≤ c ∧ c ≤ 18 ∧ 0 ≤ n) with hg | hg
  · obtain ⟨h1, h2, h3⟩ := hg
    obtain ⟨c, rfl⟩ := Int.eq_ofNat_of_zero_le (show 0 ≤ c by omega)
    obtain ⟨n, rfl⟩ := Int.eq_ofNat_of_zero_le h3
    refine Run.seq ?_
    refine Run.region ?_
    refine RunL.ok (OpOk.assign rfl) rfl ?_
    refine RunL.ok (OpOk.assign rfl) rfl ?_
    refine RunL.nil ?_
    refine Run.seq ?_
    refine Run.seq ?_
    refine Run.region ?_
    refine RunL.ok (OpOk.move rfl) rfl ?_
    refine RunL.ok (OpOk.asF (OpOk.lss rfl rfl) (by omega)) rfl ?_
    refine RunL.ok (OpOk.move rfl) rfl ?_
    refine RunL.on rfl rfl ?_
    refine RunL.ok (OpOk.move rfl) rfl ?_
    refine RunL.on rfl rfl ?_
    refine RunL.ok (OpOk.asF (OpOk.gtr rfl rfl) (by omega)) rfl ?_
    refine RunL.ok (OpOk.pickF rfl rfl) rfl ?_
    refine RunL.ok (OpOk.move rfl) rfl ?_
    refine RunL.on rfl rfl ?_
    refine RunL.ok (OpOk.move rfl) rfl ?_
    refine RunL.on rfl rfl ?_
    refine RunL.ok (OpOk.asF (OpOk.lss rfl rfl) (by omega)) rfl ?_
    refine RunL.ok (OpOk.pickF rfl rfl) rfl ?_
    refine RunL.nil ?_
    refine Run.condF rfl ?_
    refine Run.skip ?_
    refine Run.seq ?_
    refine Run.region ?_
    refine RunL.ok (OpOk.assign rfl) rfl ?_
    refine RunL.nil ?_
    refine Run.seq ?_
    refine Run.seq ?_
    refine Run.region ?_
    refine RunL.ok (OpOk.assign rfl) rfl ?_
    refine RunL.nil ?_
    refine Run.block ?_
    refine Run.jump ((Run.loopJ (X := Nat) (fun i => [(0, .int .i64 ((n / 10 ^ i : Nat) : Int)), (1, .int .i64 (c : Int)), (6, S (dt n i)), (7, .int .i64 (i : Int))]) (fun _ => A) (fun i => i ≤ c) (fun i => c - i) 0 (Nat.zero_le _) (fun i hi ih => ?_))) ⟨lkI rfl (by omega), rfl, rfl, rfl, trivial⟩ ((Grew.refl _))
    have hle : n / 10 ^ i ≤ n := Nat.div_le_self _ _
    have hl := dt_length n i
    rcases Nat.lt_or_ge i c with hlt | hge
    · have hnx : n / 10 ^ (i + 1) = n / 10 ^ i / 10 := by rw [Nat.pow_succ, Nat.div_div_eq_div_mul]
      have hd : [UInt8.ofNat (48 + n / 10 ^ i % 10)] ++ dt n i = dt n (i + 1) := rfl
      have hlt := Nat.mod_lt (n / 10 ^ i) (show 0 < 10 by decide)
      have hcut := digit_cut hlt
      have hcl : ((([48, 49, 50, 51, 52, 53, 54, 55, 56, 57] : List UInt8).drop (n / 10 ^ i % 10)).take (n / 10 ^ i % 10 + 1 - n / 10 ^ i % 10)).length = 1 := by rw [hcut]; rfl
      refine Run.seq ?_
      refine Run.seq ?_
      refine Run.region ?_
      refine RunL.ok (OpOk.move rfl) rfl ?_
      refine RunL.ok (OpOk.move rfl) rfl ?_
      refine RunL.ok (OpOk.asT (OpOk.lss rfl rfl) (by omega)) rfl ?_
      refine RunL.nil ?_
      refine Run.condT rfl ?_
      refine Run.skip ?_
      refine Run.seq ?_
      refine Run.block ?_
      refine Run.seq ?_
      refine Run.region ?_
      refine RunL.ok (OpOk.move rfl) rfl ?_
      refine RunL.ok (OpOk.remN _ 10 rfl rfl rfl rfl (by omega)) rfl ?_
      refine RunL.ok (OpOk.move rfl) rfl ?_
      refine RunL.ok (OpOk.remN _ 10 rfl rfl rfl rfl (by omega)) rfl ?_
      refine RunL.ok (OpOk.addN _ 1 rfl rfl rfl rfl (by omega)) rfl ?_
      refine RunL.ok (OpOk.cutSS rfl rfl ⟨_, rfl⟩ ⟨_, rfl⟩ (by omega) (by simp; omega)) rfl ?_
      refine RunL.ok (OpOk.move rfl) rfl ?_
      refine RunL.ok (OpOk.addSS rfl rfl (by omega)) rfl ?_
      refine RunL.ok (OpOk.assign rfl) rfl ?_
      refine RunL.nil ?_
      refine Run.region ?_
      refine RunL.ok (OpOk.move rfl) rfl ?_
      refine RunL.ok (OpOk.quoN _ 10 rfl rfl rfl rfl (by omega) (by omega)) rfl ?_
      refine RunL.ok (OpOk.assign rfl) rfl ?_
      refine RunL.nil ?_
      refine Run.inBlock ?_
      refine Run.region ?_
      refine RunL.ok (OpOk.move rfl) rfl ?_
      refine RunL.ok (OpOk.addN _ 1 rfl rfl rfl rfl (by omega)) rfl ?_
      refine RunL.ok (OpOk.assign rfl) rfl ?_
      refine RunL.nil ?_
      rw [hcut, hd, ← hnx]
      refine Run.jump ((ih (i + 1) (by omega) (by omega))) ⟨rfl, rfl, rfl, rfl, trivial⟩ ((Grew.refl _))
    · obtain rfl : i = c := by omega
      clear ih
      rcases Nat.eq_zero_or_pos (n / 10 ^ i) with hz | hz
      · have hp : n < 10 ^ i := by
          have := Nat.div_eq_zero_iff.1 hz
          rcases this with h | h
          · have := Nat.pow_pos (n := i) (show 0 < 10 by decide); omega
          · exact h
        rw [hz]
        obtain ⟨k, hk⟩ : ∃ k, (i + 1) / 2 = k := ⟨_, rfl⟩
        have hx : [48] ++ dt n i = dt n (i + 1) := by simp [dt, hz]
        rcases Decidable.em (i % 2 = 1) with ho | ho
        · refine Run.seq ?_
          refine Run.seq ?_
          refine Run.region ?_
          refine RunL.ok (OpOk.move rfl) rfl ?_
          refine RunL.ok (OpOk.move rfl) rfl ?_
          refine RunL.ok (OpOk.asF (OpOk.lss rfl rfl) (by omega)) rfl ?_
          refine RunL.nil ?_
          refine Run.condF rfl ?_
          refine Run.exit rfl ?_
          refine Run.seq ?_
          refine Run.seq ?_
          refine Run.region ?_
          refine RunL.ok (OpOk.move rfl) rfl ?_
          refine RunL.ok (OpOk.asF (OpOk.gtr rfl rfl) (by omega)) rfl ?_
          refine RunL.nil ?_
          refine Run.condF rfl ?_
          refine Run.skip ?_
          refine Run.seq ?_
          refine Run.seq ?_
          refine Run.region ?_
          refine RunL.ok (OpOk.move rfl) rfl ?_
          refine RunL.ok (OpOk.remN _ 2 rfl rfl rfl rfl (by omega)) rfl ?_
          refine RunL.ok (OpOk.asT (OpOk.eql rfl rfl) (by omega)) rfl ?_
          refine RunL.nil ?_
          refine Run.condT rfl ?_
          refine Run.region ?_
          refine RunL.ok (OpOk.move rfl) rfl ?_
          refine RunL.ok (OpOk.addSS rfl rfl (by simp; omega)) rfl ?_
          refine RunL.ok (OpOk.assign rfl) rfl ?_
          refine RunL.nil ?_
          refine Run.seq ?_
          refine Run.region ?_
          refine RunL.ok (OpOk.assign rfl) rfl ?_
          refine RunL.nil ?_
          refine Run.seq ?_
          refine Run.seq ?_
          refine Run.region ?_
          refine RunL.ok (OpOk.assign rfl) rfl ?_
          refine RunL.nil ?_
          refine Run.block ?_
          rw [hx, show i + 1 = 2 * k by omega]
          have hl2 := dt_length n (2 * k)
          have hdl : ∀ j, j ≤ k → ((digs i n k).take j).length = j := fun j h => by rw [List.length_take, digs_length]; omega
          refine Run.ent (Ent.ownNil' _ 5 1 (B []) rfl) ?_
          refine Run.jump ((Run.loopJ (X := Nat × Value) (fun x => [(6, S (dt n (2 * k))), (8, x.2), (9, .int .i64 ((2 * x.1 : Nat) : Int))]) (fun x => A * own 5 1 x.2 x.1 (B ((digs i n k).take x.1))) (fun x => x.1 ≤ k) (fun x => k - x.1) (0, .slice none 0 0) (Nat.zero_le _) (fun x hx ih => ?_))) ⟨rfl, rfl, rfl, trivial⟩ (Grew.of (frc rfl rfl) (Grew.refl _))
          obtain ⟨j, v1⟩ := x
          simp only at hx ih ⊢
          rcases Nat.lt_or_ge j k with hlt | hge
          · have g1 := dt_at (n := n) (i := 2 * k) (j := 2 * j) (by omega)
            have g2 := dt_at (n := n) (i := 2 * k) (j := 2 * j + 1) (by omega)
            have g3 := digs_val (k := k) hp hlt
            have m1 := Nat.mod_lt (n / 10 ^ (2 * k - 1 - 2 * j)) (show 0 < 10 by decide)
            have m2 := Nat.mod_lt (n / 10 ^ (2 * k - 1 - (2 * j + 1))) (show 0 < 10 by decide)
            have hnx : (digs i n k).take j ++ [(digs i n k).getD j default] = (digs i n k).take (j + 1) := (take_next (by rw [digs_length]; exact hlt)).symm
            have hval : ((((dt n (2 * k)).getD (2 * j) 0).toNat : Int) - 48) * 16 + (((dt n (2 * k)).getD (2 * j + 1) 0).toNat : Int) - 48 = (((digs i n k).getD j default).toNat : Int) := by omega
            have hbv : B ((digs i n k).take j) ++ [.int .u8 (((((dt n (2 * k)).getD (2 * j) 0).toNat : Int) - 48) * 16 + (((dt n (2 * k)).getD (2 * j + 1) 0).toNat : Int) - 48)] = B ((digs i n k).take (j + 1)) := by
              rw [hval, ← hnx, B_append]
              rfl
            refine Run.seq ?_
            refine Run.seq ?_
            refine Run.region ?_
            refine RunL.ok (OpOk.move rfl) rfl ?_
            refine RunL.ok (OpOk.move rfl) rfl ?_
            refine RunL.ok (OpOk.lenSS rfl rfl rfl) rfl ?_
            refine RunL.ok (OpOk.asT (OpOk.lss rfl rfl) (by omega)) rfl ?_
            refine RunL.nil ?_
            refine Run.condT rfl ?_
            refine Run.skip ?_
            refine Run.seq ?_
            refine Run.block ?_
            refine Run.know (fun w s => (s.conv rfl).ownRd0) (fun rdz1 => ?_)
            (apply Run.drawD [14] (by rfl) (Eq.trans rfl rfl); case hchk => kernel_rfl)
            refine Sd.quiet 0 _ _ rfl rfl rfl rfl rfl (QOp.ok (fun X => OpOk.move rfl)) ?_
            refine Sd.quiet 1 _ _ rfl rfl rfl rfl rfl (QOp.ok (fun X => OpOk.move rfl)) ?_
            refine Sd.quiet 2 _ _ rfl rfl rfl rfl rfl (QOp.ok (fun X => OpOk.move rfl)) ?_
            refine Sd.quiet 3 _ _ rfl rfl rfl rfl rfl (QOp.ok (fun X => OpOk.idxSS rfl rfl rfl (by omega))) ?_
            refine Sd.quiet 4 _ _ rfl rfl rfl rfl rfl (QOp.ok (fun X => OpOk.sub rfl rfl (wrapU8 (by omega) (by omega)))) ?_
            refine Sd.quiet 5 _ _ rfl rfl rfl rfl rfl (QOp.ok (fun X => OpOk.mul rfl rfl (wrapU8 (by omega) (by omega)))) ?_
            refine Sd.quiet 6 _ _ rfl rfl rfl rfl rfl (QOp.ok (fun X => OpOk.move rfl)) ?_
            refine Sd.quiet 7 _ _ rfl rfl rfl rfl rfl (QOp.ok (fun X => OpOk.move rfl)) ?_
            refine Sd.quiet 8 _ _ rfl rfl rfl rfl rfl (QOp.ok (fun X => OpOk.addN _ 1 rfl rfl rfl rfl (by omega))) ?_
            refine Sd.quiet 9 _ _ rfl rfl rfl rfl rfl (QOp.ok (fun X => OpOk.idxSS rfl rfl rfl (by omega))) ?_
            refine Sd.quiet 10 _ _ rfl rfl rfl rfl rfl (QOp.ok (fun X => OpOk.add rfl rfl (wrapU8 (by omega) (by omega)))) ?_
            refine Sd.quiet 11 _ _ rfl rfl rfl rfl rfl (QOp.ok (fun X => OpOk.sub rfl rfl (wrapU8 (by omega) (by omega)))) ?_
            (refine Sd.exec 12 rfl rfl rfl rfl rfl ?hrest (by rfl) (fun Xz2 Kz2 hKz2 => ?_); case hrest => kernel_rfl)
            refine RunL.mem (fl2 (sep_emp _) rfl) ?_
            refine RunL.lits rfl ti5 rfl rfl rfl (by simp [Value.cells]) (by decide) rfl (fun vz3 rdz3 => ?_)
            refine RunL.know (fun w s => (s.conv rfl).ownRd0) (fun rdz4 => ?_)
            refine Sd.ret hKz2 (Eq.trans (frc (frl rfl) rfl) (gp2 rfl rfl)) ⟨_, (emp_sep _).symm⟩ ?_
            (refine Sd.exec 13 rfl rfl rfl rfl rfl ?hrest (by rfl) (fun Xz5 Kz5 hKz5 => ?_); case hrest => kernel_rfl)
            refine RunL.mem (fl2 rfl rfl) ?_
            refine RunL.append rfl ti5 rfl rfl rfl rfl (Rd.right rdz4).left (by first | assumption | simp [Value.oneCell']) rfl (by decide) (by omega) (by simp only [maxLen]; omega) rfl (fun vz6 rdz6 => ?_)
            refine RunL.know (fun w s => (s.conv rfl).ownRd0) (fun rdz7 => ?_)
            refine Sd.ret hKz5 (Eq.trans rfl (gp2 (sep_emp _).symm (asg rfl))) ⟨_, rfl⟩ ?_
            (apply Sd.tail; case hall => kernel_rfl)
            refine RunL.mem (fl2 (flS rfl) (sep_emp _)) ?_
            refine RunL.ok (OpOk.assign rfl) rfl ?_
            refine RunL.nil ?_
            refine Run.inBlock ?_
            refine Run.region ?_
            refine RunL.ok (OpOk.move rfl) rfl ?_
            refine RunL.ok (OpOk.addN _ 2 rfl rfl rfl rfl (by omega)) rfl ?_
            refine RunL.ok (OpOk.assign rfl) rfl ?_
            refine RunL.nil ?_
            rw [hbv]
            refine Run.jump ((ih (j + 1, _) (by simp; omega) (by simp; omega))) ⟨rfl, rfl, rfl, trivial⟩ (Grew.of (frc (frl rfl) rfl) (Grew.mul (Grew.refl _) _))
          · obtain rfl : j = k := by omega
            clear ih
            refine Run.seq ?_
            refine Run.seq ?_
            refine Run.region ?_
            refine RunL.ok (OpOk.move rfl) rfl ?_
            refine RunL.ok (OpOk.move rfl) rfl ?_
            refine RunL.ok (OpOk.lenSS rfl rfl rfl) rfl ?_
            refine RunL.ok (OpOk.asF (OpOk.lss rfl rfl) (by omega)) rfl ?_
            refine RunL.nil ?_
            refine Run.condF rfl ?_
            refine Run.exit rfl ?_
            refine Run.seq ?_
            refine Run.region ?_
            refine RunL.ok (OpOk.move rfl) rfl ?_
            refine RunL.ok (OpOk.assign rfl) rfl ?_
            refine RunL.ok (OpOk.assign rfl) rfl ?_
            refine RunL.nil ?_
            refine Run.ret2 Try.func25 rfl rfl rfl ?_
            exact ⟨v1, true, digs i n j, rfl, by rw [List.take_of_length_le (by rw [digs_length]; exact Nat.le_refl _), digs_length], ⟨.inr ⟨rfl, h1, h2, by omega, by simp only [Int.toNat_natCast]; exact_mod_cast hp, by simp only [Int.toNat_natCast]; rw [hk]⟩⟩⟩
        · refine Run.seq ?_
          refine Run.seq ?_
          refine Run.region ?_
          refine RunL.ok (OpOk.move rfl) rfl ?_
          refine RunL.ok (OpOk.move rfl) rfl ?_
          refine RunL.ok (OpOk.asF (OpOk.lss rfl rfl) (by omega)) rfl ?_
          refine RunL.nil ?_
          refine Run.condF rfl ?_
          refine Run.exit rfl ?_
          refine Run.seq ?_
          refine Run.seq ?_
          refine Run.region ?_
          refine RunL.ok (OpOk.move rfl) rfl ?_
          refine RunL.ok (OpOk.asF (OpOk.gtr rfl rfl) (by omega)) rfl ?_
          refine RunL.nil ?_
          refine Run.condF rfl ?_
          refine Run.skip ?_
          refine Run.seq ?_
          refine Run.seq ?_
          refine Run.region ?_
          refine RunL.ok (OpOk.move rfl) rfl ?_
          refine RunL.ok (OpOk.remN _ 2 rfl rfl rfl rfl (by omega)) rfl ?_
          refine RunL.ok (OpOk.asF (OpOk.eql rfl rfl) (by omega)) rfl ?_
          refine RunL.nil ?_
          refine Run.condF rfl ?_
          refine Run.skip ?_
          refine Run.seq ?_
          refine Run.region ?_
          refine RunL.ok (OpOk.assign rfl) rfl ?_
          refine RunL.nil ?_
          refine Run.seq ?_
          refine Run.seq ?_
          refine Run.region ?_
          refine RunL.ok (OpOk.assign rfl) rfl ?_
          refine RunL.nil ?_
          refine Run.block ?_
          rw [show dt n i = dt n (2 * k) by rw [show i = 2 * k by omega]]
          have hl2 := dt_length n (2 * k)
          have hdl : ∀ j, j ≤ k → ((digs i n k).take j).length = j := fun j h => by rw [List.length_take, digs_length]; omega
          refine Run.ent (Ent.ownNil' _ 5 1 (B []) rfl) ?_
          refine Run.jump ((Run.loopJ (X := Nat × Value) (fun x => [(6, S (dt n (2 * k))), (8, x.2), (9, .int .i64 ((2 * x.1 : Nat) : Int))]) (fun x => A * own 5 1 x.2 x.1 (B ((digs i n k).take x.1))) (fun x => x.1 ≤ k) (fun x => k - x.1) (0, .slice none 0 0) (Nat.zero_le _) (fun x hx ih => ?_))) ⟨rfl, rfl, rfl, trivial⟩ (Grew.of (frc rfl rfl) (Grew.refl _))
          obtain ⟨j, v1⟩ := x
          simp only at hx ih ⊢
          rcases Nat.lt_or_ge j k with hlt | hge
          · have g1 := dt_at (n := n) (i := 2 * k) (j := 2 * j) (by omega)
            have g2 := dt_at (n := n) (i := 2 * k) (j := 2 * j + 1) (by omega)
            have g3 := digs_val (k := k) hp hlt
            have m1 := Nat.mod_lt (n / 10 ^ (2 * k - 1 - 2 * j)) (show 0 < 10 by decide)
            have m2 := Nat.mod_lt (n / 10 ^ (2 * k - 1 - (2 * j + 1))) (show 0 < 10 by decide)
            have hnx : (digs i n k).take j ++ [(digs i n k).getD j default] = (digs i n k).take (j + 1) := (take_next (by rw [digs_length]; exact hlt)).symm
            have hval : ((((dt n (2 * k)).getD (2 * j) 0).toNat : Int) - 48) * 16 + (((dt n (2 * k)).getD (2 * j + 1) 0).toNat : Int) - 48 = (((digs i n k).getD j default).toNat : Int) := by omega
            have hbv : B ((digs i n k).take j) ++ [.int .u8 (((((dt n (2 * k)).getD (2 * j) 0).toNat : Int) - 48) * 16 + (((dt n (2 * k)).getD (2 * j + 1) 0).toNat : Int) - 48)] = B ((digs i n k).take (j + 1)) := by
              rw [hval, ← hnx, B_append]
              rfl
            refine Run.seq ?_
            refine Run.seq ?_
            refine Run.region ?_
            refine RunL.ok (OpOk.move rfl) rfl ?_
            refine RunL.ok (OpOk.move rfl) rfl ?_
            refine RunL.ok (OpOk.lenSS rfl rfl rfl) rfl ?_
            refine RunL.ok (OpOk.asT (OpOk.lss rfl rfl) (by omega)) rfl ?_
            refine RunL.nil ?_
            refine Run.condT rfl ?_
            refine Run.skip ?_
            refine Run.seq ?_
            refine Run.block ?_
            refine Run.know (fun w s => (s.conv rfl).ownRd0) (fun rdz1 => ?_)
            (apply Run.drawD [14] (by rfl) (Eq.trans rfl rfl); case hchk => kernel_rfl)
            refine Sd.quiet 0 _ _ rfl rfl rfl rfl rfl (QOp.ok (fun X => OpOk.move rfl)) ?_
            refine Sd.quiet 1 _ _ rfl rfl rfl rfl rfl (QOp.ok (fun X => OpOk.move rfl)) ?_
            refine Sd.quiet 2 _ _ rfl rfl rfl rfl rfl (QOp.ok (fun X => OpOk.move rfl)) ?_
            refine Sd.quiet 3 _ _ rfl rfl rfl rfl rfl (QOp.ok (fun X => OpOk.idxSS rfl rfl rfl (by omega))) ?_
            refine Sd.quiet 4 _ _ rfl rfl rfl rfl rfl (QOp.ok (fun X => OpOk.sub rfl rfl (wrapU8 (by omega) (by omega)))) ?_
            refine Sd.quiet 5 _ _ rfl rfl rfl rfl rfl (QOp.ok (fun X => OpOk.mul rfl rfl (wrapU8 (by omega) (by omega)))) ?_
            refine Sd.quiet 6 _ _ rfl rfl rfl rfl rfl (QOp.ok (fun X => OpOk.move rfl)) ?_
            refine Sd.quiet 7 _ _ rfl rfl rfl rfl rfl (QOp.ok (fun X => OpOk.move rfl)) ?_
            refine Sd.quiet 8 _ _ rfl rfl rfl rfl rfl (QOp.ok (fun X => OpOk.addN _ 1 rfl rfl rfl rfl (by omega))) ?_
            refine Sd.quiet 9 _ _ rfl rfl rfl rfl rfl (QOp.ok (fun X => OpOk.idxSS rfl rfl rfl (by omega))) ?_
            refine Sd.quiet 10 _ _ rfl rfl rfl rfl rfl (QOp.ok (fun X => OpOk.add rfl rfl (wrapU8 (by omega) (by omega)))) ?_
            refine Sd.quiet 11 _ _ rfl rfl rfl rfl rfl (QOp.ok (fun X => OpOk.sub rfl rfl (wrapU8 (by omega) (by omega)))) ?_
            (refine Sd.exec 12 rfl rfl rfl rfl rfl ?hrest (by rfl) (fun Xz2 Kz2 hKz2 => ?_); case hrest => kernel_rfl)
            refine RunL.mem (fl2 (sep_emp _) rfl) ?_
            refine RunL.lits rfl ti5 rfl rfl rfl (by simp [Value.cells]) (by decide) rfl (fun vz3 rdz3 => ?_)
            refine RunL.know (fun w s => (s.conv rfl).ownRd0) (fun rdz4 => ?_)
            refine Sd.ret hKz2 (Eq.trans (frc (frl rfl) rfl) (gp2 rfl rfl)) ⟨_, (emp_sep _).symm⟩ ?_
            (refine Sd.exec 13 rfl rfl rfl rfl rfl ?hrest (by rfl) (fun Xz5 Kz5 hKz5 => ?_); case hrest => kernel_rfl)
            refine RunL.mem (fl2 rfl rfl) ?_
            refine RunL.append rfl ti5 rfl rfl rfl rfl (Rd.right rdz4).left (by first | assumption | simp [Value.oneCell']) rfl (by decide) (by omega) (by simp only [maxLen]; omega) rfl (fun vz6 rdz6 => ?_)
            refine RunL.know (fun w s => (s.conv rfl).ownRd0) (fun rdz7 => ?_)
            refine Sd.ret hKz5 (Eq.trans rfl (gp2 (sep_emp _).symm (asg rfl))) ⟨_, rfl⟩ ?_
            (apply Sd.tail; case hall => kernel_rfl)
            refine RunL.mem (fl2 (flS rfl) (sep_emp _)) ?_
            refine RunL.ok (OpOk.assign rfl) rfl ?_
            refine RunL.nil ?_
            refine Run.inBlock ?_
            refine Run.region ?_
            refine RunL.ok (OpOk.move rfl) rfl ?_
            refine RunL.ok (OpOk.addN _ 2 rfl rfl rfl rfl (by omega)) rfl ?_
            refine RunL.ok (OpOk.assign rfl) rfl ?_
            refine RunL.nil ?_
            rw [hbv]
            refine Run.jump ((ih (j + 1, _) (by simp; omega) (by simp; omega))) ⟨rfl, rfl, rfl, trivial⟩ (Grew.of (frc (frl rfl) rfl) (Grew.mul (Grew.refl _) _))
          · obtain rfl : j = k := by omega
            clear ih
            refine Run.seq ?_
            refine Run.seq ?_
            refine Run.region ?_
            refine RunL.ok (OpOk.move rfl) rfl ?_
            refine RunL.ok (OpOk.move rfl) rfl ?_
            refine RunL.ok (OpOk.lenSS rfl rfl rfl) rfl ?_
            refine RunL.ok (OpOk.asF (OpOk.lss rfl rfl) (by omega)) rfl ?_
            refine RunL.nil ?_
            refine Run.condF rfl ?_
            refine Run.exit rfl ?_
            refine Run.seq ?_
            refine Run.region ?_
            refine RunL.ok (OpOk.move rfl) rfl ?_
            refine RunL.ok (OpOk.assign rfl) rfl ?_
            refine RunL.ok (OpOk.assign rfl) rfl ?_
            refine RunL.nil ?_
            refine Run.ret2 Try.func25 rfl rfl rfl ?_
            exact ⟨v1, true, digs i n j, rfl, by rw [List.take_of_length_le (by rw [digs_length]; exact Nat.le_refl _), digs_length], ⟨.inr ⟨rfl, h1, h2, by omega, by simp only [Int.toNat_natCast]; exact_mod_cast hp, by simp only [Int.toNat_natCast]; rw [hk]⟩⟩⟩
      · have hge2 : 10 ^ i ≤ n := by
          have := (Nat.div_pos_iff.1 hz).2
          exact this
        refine Run.seq ?_
        refine Run.seq ?_
        refine Run.region ?_
        refine RunL.ok (OpOk.move rfl) rfl ?_
        refine RunL.ok (OpOk.move rfl) rfl ?_
        refine RunL.ok (OpOk.asF (OpOk.lss rfl rfl) (by omega)) rfl ?_
        refine RunL.nil ?_
        refine Run.condF rfl ?_
        refine Run.exit rfl ?_
        refine Run.seq ?_
        refine Run.seq ?_
        refine Run.region ?_
        refine RunL.ok (OpOk.move rfl) rfl ?_
        refine RunL.ok (OpOk.asT (OpOk.gtr rfl rfl) (by omega)) rfl ?_
        refine RunL.nil ?_
        refine Run.condT rfl ?_
        refine Run.seq ?_
        refine Run.region ?_
        refine RunL.ok (OpOk.assign rfl) rfl ?_
        refine RunL.ok (OpOk.assign rfl) rfl ?_
        refine RunL.nil ?_
        refine Run.ent (Ent.ownNil' _ 5 1 (B []) rfl) ?_
        refine Run.ret2 Try.func25 rfl rfl rfl ?_
        exact ⟨_, _, [], rfl, rfl, ⟨.inl ⟨rfl, rfl, by simp only [Int.toNat_natCast]; right; right; right; exact_mod_cast hge2⟩⟩⟩
  · refine Run.seq ?_
    refine Run.region ?_
    refine RunL.ok (OpOk.assign rfl) rfl ?_
    refine RunL.ok (OpOk.assign rfl) rfl ?_
    refine RunL.nil ?_
    refine Run.seq ?_
    refine Run.seq ?_
    refine Run.region ?_
    refine RunL.ok (OpOk.move rfl) rfl ?_
    refine RunL.ok (OpOk.lss rfl rfl) rfl ?_
    refine RunL.ok (OpOk.move rfl) rfl ?_
    refine RunL.splitD (t := 12) rfl (fun x1 => ?_) (fun x1 => ?_)
    · refine RunL.off rfl rfl rfl rfl ?_
      refine RunL.off rfl rfl rfl rfl ?_
      refine RunL.ok (OpOk.pickT rfl rfl) rfl ?_
      refine RunL.ok (OpOk.move rfl) rfl ?_
      refine RunL.off rfl rfl rfl rfl ?_
      refine RunL.off rfl rfl rfl rfl ?_
      refine RunL.ok (OpOk.pickT rfl rfl) rfl ?_
      refine RunL.nil ?_
      refine Run.condT rfl ?_
      refine Run.seq ?_
      refine Run.region ?_
      refine RunL.ok (OpOk.assign rfl) rfl ?_
      refine RunL.ok (OpOk.assign rfl) rfl ?_
      refine RunL.nil ?_
      refine Run.ent (Ent.ownNil' _ 5 1 (B []) rfl) ?_
      refine Run.ret2 Try.func25 rfl rfl rfl ?_
      exact ⟨_, _, [], rfl, rfl, ⟨.inl ⟨rfl, rfl, by omega⟩⟩⟩
    refine RunL.on rfl rfl ?_
    refine RunL.ok (OpOk.move rfl) rfl ?_
    refine RunL.on rfl rfl ?_
    refine RunL.ok (OpOk.gtr rfl rfl) rfl ?_
    refine RunL.ok (OpOk.pickF rfl rfl) rfl ?_
    refine RunL.ok (OpOk.move rfl) rfl ?_
    refine RunL.splitD (t := 16) rfl (fun x2 => ?_) (fun x2 => ?_)
    · refine RunL.off rfl rfl rfl rfl ?_
      refine RunL.off rfl rfl rfl rfl ?_
      refine RunL.ok (OpOk.pickT rfl rfl) rfl ?_
      refine RunL.nil ?_
      refine Run.condT rfl ?_
      refine Run.seq ?_
      refine Run.region ?_
      refine RunL.ok (OpOk.assign rfl) rfl ?_
      refine RunL.ok (OpOk.assign rfl) rfl ?_
      refine RunL.nil ?_
      refine Run.ent (Ent.ownNil' _ 5 1 (B []) rfl) ?_
      refine Run.ret2 Try.func25 rfl rfl rfl ?_
      exact ⟨_, _, [], rfl, rfl, ⟨.inl ⟨rfl, rfl, by omega⟩⟩⟩
    refine RunL.on rfl rfl ?_
    refine RunL.ok (OpOk.move rfl) rfl ?_
    refine RunL.on rfl rfl ?_
    refine RunL.ok (OpOk.asT (OpOk.lss rfl rfl) (by omega)) rfl ?_
    refine RunL.ok (OpOk.pickF rfl rfl) rfl ?_
    refine RunL.nil ?_
    refine Run.condT rfl ?_
    refine Run.seq ?_
    refine Run.region ?_
    refine RunL.ok (OpOk.assign rfl) rfl ?_
    refine RunL.ok (OpOk.assign rfl) rfl ?_
    refine RunL.nil ?_
    refine Run.ent (Ent.ownNil' _ 5 1 (B []) rfl) ?_
    refine Run.ret2 Try.func25 rfl rfl rfl ?_
    exact ⟨_, _, [], rfl, rfl, ⟨.inl ⟨rfl, rfl, by omega⟩⟩⟩
end Go.Proofs.Ytajjmephfoaiaaa
