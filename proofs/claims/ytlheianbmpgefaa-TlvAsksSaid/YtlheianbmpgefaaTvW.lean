/- The law TlvAsks, walked. -/
import Derived.Test.YtlheianbmpgefaaTvV
import Derived.Test.YtlheianbmpgefaaTvQ
namespace Go.Proofs.Ytlheianbmpgefaa
open Go Go.Proofs
set_option maxRecDepth 100000
set_option maxHeartbeats 4000000
set_option linter.unusedSimpArgs false
theorem strL_at : ∀ {ys xs : List Ee}, strL ys = strL xs → ∀ k, (ys.getD k default).1 = (xs.getD k default).1 ∧ (ys.getD k default).2.2.1 = (xs.getD k default).2.2.1 ∧ strip (ys.getD k default).2.2.2.2 = strip (xs.getD k default).2.2.2.2
  | [], [], _, k => ⟨rfl, rfl, rfl⟩
  | [], (_, _, _, _, _) :: _, h, _ => by simp [strL] at h
  | (_, _, _, _, _) :: _, [], h, _ => by simp [strL] at h
  | (t, bv, bs, ev, f) :: r, (t2, bv2, bs2, ev2, f2) :: r2, h, 0 => by
    rw [strL, strL, Te.cons.injEq] at h
    exact ⟨h.1, h.2.1, h.2.2.1⟩
  | (t, bv, bs, ev, f) :: r, (t2, bv2, bs2, ev2, f2) :: r2, h, k + 1 => by
    rw [strL, strL, Te.cons.injEq] at h
    exact strL_at (ys := r) (xs := r2) h.2.2.2 k
theorem strL_len {ys xs : List Ee} (h : strL ys = strL xs) : ys.length = xs.length := by
  rw [← lenT_strL, h, lenT_strL]
/-- The first of the tag. -/
structure FYes (xs : List Ee) (q : Int) (bs : List UInt8) (g : Te) : Prop where
  at_ : ∃ i, i < xs.length ∧ (xs.getD i default).1 = q ∧ (xs.getD i default).2.2.1 = bs ∧ strip (xs.getD i default).2.2.2.2 = g ∧ ∀ k, k < i → (xs.getD k default).1 ≠ q
  sz : szT (.cons q bs g .nil)
structure FNo (xs : List Ee) (q : Int) : Prop where
  no : ∀ k, k < xs.length → (xs.getD k default).1 ≠ q
/-- What the search from the end has found. -/
def AtF (xs : List Ee) (q : Int) (j : Nat) (a : Int) : Prop := (a = -1 ∧ ∀ k, j ≤ k → k < xs.length → (xs.getD k default).1 ≠ q) ∨ ∃ m : Nat, a = m ∧ j ≤ m ∧ m < xs.length ∧ (xs.getD m default).1 = q ∧ ∀ k, j ≤ k → k < m → (xs.getD k default).1 ≠ q
theorem AtF.new (xs : List Ee) (q : Int) : AtF xs q xs.length (-1) := .inl ⟨rfl, fun k h1 h2 => by omega⟩
theorem AtF.hit {xs : List Ee} {q : Int} {j : Nat} (h : j < xs.length) (e : (xs.getD j default).1 = q) : AtF xs q j (j : Int) := .inr ⟨j, rfl, Nat.le_refl _, h, e, fun k h1 h2 => by omega⟩
theorem AtF.miss {xs : List Ee} {q a : Int} {j : Nat} (h : AtF xs q (j + 1) a) (e : (xs.getD j default).1 ≠ q) : AtF xs q j a := by
  rcases h with ⟨h1, h2⟩ | ⟨m, h1, h2, h3, h4, h5⟩
  · refine .inl ⟨h1, fun k k1 k2 => ?_⟩
    rcases Nat.eq_or_lt_of_le k1 with e1 | e1
    · exact e1 ▸ e
    · exact h2 k (by omega) k2
  · refine .inr ⟨m, h1, by omega, h3, h4, fun k k1 k2 => ?_⟩
    rcases Nat.eq_or_lt_of_le k1 with e1 | e1
    · exact e1 ▸ e
    · exact h5 k (by omega) k2
theorem szT_at : ∀ {xs : List Ee}, szT (strL xs) → ∀ i, i < xs.length → szT (.cons (xs.getD i default).1 (xs.getD i default).2.2.1 (strip (xs.getD i default).2.2.2.2) .nil)
  | [], _, i, h => by simp at h
  | (t, bv, bs, ev, f) :: r, hs, 0, h => ⟨hs.1, hs.2.1, hs.2.2.1, trivial⟩
  | (t, bv, bs, ev, f) :: r, hs, i + 1, h => szT_at (xs := r) hs.2.2.2 i (by simpa using h)
section
variable {w0 : World} {A : Asn}
theorem s40a {q : Int} {u : Value} {m : Nat} {xs ys : List Ee} {bs : List UInt8} {g : Te} (rd : Rd w0 A u 3 m (Fl encT66 ys)) (al : Alls (GE w0) A ys) (hst : strL ys = strL xs) (hy : FYes xs q bs g) :
    Spec Try.prog w0 40 [.int .i64 q, u] A (fun v' A' => ∃ (bv2 ev2 : SV) (f2 : Fo) (J : Asn), v' = .tuple #[.agg (encT66 (q, bv2, bs, ev2, f2)).toArray, .bool true] ∧ strip f2 = g ∧ A' = A * J * own 5 1 bv2.1 bs.length (B bs) * own 66 3 ev2.1 (top f2).length (Fl encT66 (top f2)) * ownsE (top f2)) := by
  obtain ⟨⟨i, h1, h2, h3, h4, h5⟩, hsz⟩ := hy
  obtain ⟨e1, e2, e3⟩ := strL_at hst i
  obtain ⟨o, hoe⟩ : ∃ o, ys.getD i default = o := ⟨_, rfl⟩
  rw [hoe] at e1 e2 e3
  obtain ⟨t, bv, bs2, ev, f⟩ := o
  dsimp only at e1 e2 e3
  rw [h2] at e1
  rw [h3] at e2
  rw [h4] at e3
  subst e1 e2 e3
  exact findYes rd al (by rw [strL_len hst]; exact h1) hoe (fun k hk => by rw [(strL_at hst k).1]; exact h5 k hk) hsz
theorem s40b {q : Int} {u : Value} {m : Nat} {xs ys : List Ee} (rd : Rd w0 A u 3 m (Fl encT66 ys)) (hst : strL ys = strL xs) (hn : FNo xs q) :
    Spec Try.prog w0 40 [.int .i64 q, u] A (fun v' A' => ∃ J, v' = .tuple #[.agg #[.int .i64 0, .slice none 0 0, .slice none 0 0], .bool false] ∧ A' = A * J) :=
  findNo rd (fun k hk => by rw [(strL_at hst k).1]; exact hn.no k (by rw [← strL_len hst]; exact hk))
theorem tlvAsks_spec {u u2 : Value} {q : Int} {xs ys : List Ee} (rd : Rd w0 (old w0) u 3 xs.length (Fl encT66 xs)) (al : Alls (GE w0) (old w0) xs) (rd2 : Rd w0 (old w0) u2 3 ys.length (Fl encT66 ys)) (al2 : Alls (GE w0) (old w0) ys) (hk : szT (strL xs)) (hm : xs.length ≤ 2513169434843) :
    Spec Try.prog w0 14 [u, u2, .int .i64 q] (old w0) (fun v' A' => v' = .bool true ∧ Grew (old w0) A') := by
  refine Spec.of_run [(0, u), (1, u2), (2, .int .i64 q)] Try.func14 rfl (Nat.le_of_ble_eq_true rfl) (by repeat (first | exact trivial | refine ⟨rfl, ?_⟩)) ?_
  refine Run.seq ?_
  refine Run.region ?_
  refine RunL.ok (OpOk.assign rfl) rfl ?_
  refine RunL.nil ?_
  refine Run.seq ?_
  refine Run.seq ?_
  refine Run.region ?_
  refine RunL.call cal27 rfl (s27) rfl (fun vx1 Ax1 hx1 => ?_)
  obtain ⟨x2, ⟨rfl, rfl⟩⟩ := hx1
  refine RunL.ok (OpOk.not rfl) rfl ?_
  refine RunL.nil ?_
  refine Run.condF rfl ?_
  refine Run.skip ?_
  refine Run.seq ?_
  refine Run.seq ?_
  refine Run.region ?_
  refine RunL.ok (OpOk.move rfl) rfl ?_
  refine RunL.ok (OpOk.move rfl) rfl ?_
  refine RunL.call cal39 rfl (s39a rd.left al.left rd2.left al2.left) rfl (fun vx3 Ax3 hx3 => ?_)
  obtain ⟨x4, ⟨rfl, rfl⟩⟩ := hx3
  refine RunL.ok (OpOk.move rfl) rfl ?_
  refine RunL.ok (OpOk.move rfl) rfl ?_
  refine RunL.call cal31 rfl (s31a rd.left.left al.left.left rd2.left.left al2.left.left) rfl (fun vx5 Ax5 hx5 => ?_)
  obtain ⟨x6, ⟨rfl, rfl⟩⟩ := hx5
  refine RunL.splitD (t := 17) rfl (fun x7 => ?_) (fun x7 => ?_)
  · refine RunL.splitDT (t := 20) rfl (by first | omega | with_reducible rfl | assumption) ?_
    refine RunL.ok (OpOk.neqB rfl rfl rfl) rfl ?_
    refine RunL.ok (OpOk.move rfl) rfl ?_
    refine RunL.on rfl rfl ?_
    refine RunL.ok (OpOk.move rfl) rfl ?_
    refine RunL.on rfl rfl ?_
    refine RunL.ok (OpOk.move rfl) rfl ?_
    refine RunL.on rfl rfl ?_
    refine RunL.call cal28 rfl (s28a rd.left.left.left al.left.left.left (by assumption) (by assumption)) rfl (fun vx12 Ax12 hx12 => ?_)
    obtain ⟨x13, ⟨x14, ⟨x15, rfl⟩⟩⟩ := hx12
    refine RunL.on rfl rfl ?_
    refine RunL.know (fun w s => (s.conv rfl).ownsE0) (fun alx16 => ?_)
    refine RunL.know (fun w s => (s.conv (frl rfl)).ownRd0) (fun rdx17 => ?_)
    refine RunL.call cal39 rfl (s39a rd.left.left.left.left.left.left al.left.left.left.left.left.left (Rd.right rdx17).left (Alls.right alx16)) rfl (fun vx18 Ax18 hx18 => ?_)
    obtain ⟨x19, ⟨rfl, rfl⟩⟩ := hx18
    refine RunL.on rfl rfl ?_
    refine RunL.ok (OpOk.not rfl) rfl ?_
    refine RunL.ok (OpOk.pickF rfl rfl) rfl ?_
    refine RunL.nil ?_
    refine Run.condN rfl (fun x20 => ?_) (fun x20 => ?_)
    · refine Run.seq ?_
      refine Run.region ?_
      refine RunL.ok (OpOk.assign rfl) rfl ?_
      refine RunL.nil ?_
      refine Run.ret1 Try.func14 rfl rfl ?_
      exact absurd x15.symm x20
    refine Run.skip ?_
    refine Run.seq ?_
    refine Run.region ?_
    refine RunL.ok (OpOk.assign rfl) rfl ?_
    refine RunL.nil ?_
    refine Run.seq ?_
    refine Run.seq ?_
    refine Run.region ?_
    refine RunL.ok (OpOk.move rfl) rfl ?_
    refine RunL.ok (OpOk.lenR rfl rfl rd.left.left.left.left.left.left.left rfl) rfl ?_
    refine RunL.ok (OpOk.sub rfl rfl (wrapI (by omega) (by omega))) rfl ?_
    refine RunL.ok (OpOk.assign rfl) rfl ?_
    refine RunL.nil ?_
    refine Run.block ?_
    refine Run.jump ((Run.loopJ (X := Nat × Int × Int × Asn) (fun x => [(8, .int .i64 x.2.1), (7, .int .i64 x.2.2.1), (0, u), (2, .int .i64 q)]) (fun x => old w0 * x.2.2.2) (fun x => x.2.1 = (x.1 : Int) - 1 ∧ x.1 ≤ xs.length ∧ AtF xs q x.1 x.2.2.1) (fun x => x.1) (xs.length, (xs.length : Int) - 1, -1, _) ⟨rfl, Nat.le_refl _, AtF.new xs q⟩ (fun x hx ih => ?_))) ⟨rfl, rfl, rfl, rfl, trivial⟩ (Grew.of (asg (asg (asg (asg (asg (asg as1)))))) (Grew.refl _))
    obtain ⟨j, i8, a, J⟩ := x
    simp only at hx ih ⊢
    obtain ⟨hi8, hj, hat⟩ := hx
    rcases Decidable.em (0 ≤ i8) with h0 | h0
    · obtain ⟨i, rfl⟩ := Int.eq_ofNat_of_zero_le h0
      obtain rfl : j = i + 1 := by omega
      have hlt : i < xs.length := by omega
      obtain ⟨o, hoe⟩ : ∃ o, xs.getD i default = o := ⟨_, rfl⟩
      obtain ⟨t1, bv1, bs1, ev1, f1⟩ := o
      rcases Decidable.em (t1 = q) with ht | ht
      · have hnx := AtF.hit (xs := xs) (q := q) hlt (by rw [hoe]; exact ht)
        refine Run.seq ?_
        refine Run.seq ?_
        refine Run.region ?_
        refine RunL.ok (OpOk.move rfl) rfl ?_
        refine RunL.ok (OpOk.asT (OpOk.geq rfl rfl) (by omega)) rfl ?_
        refine RunL.nil ?_
        refine Run.condT rfl ?_
        refine Run.skip ?_
        refine Run.seq ?_
        refine Run.block ?_
        refine Run.seq ?_
        refine Run.region ?_
        refine RunL.ok (OpOk.move rfl) rfl ?_
        refine RunL.ok (OpOk.move rfl) rfl ?_
        refine RunL.ok (OpOk.idxN rfl ti66 rfl rd.left rfl (by omega)) rfl ?_
        refine RunL.ok (OpOk.fieldAddrA fld66_0 rfl) rfl ?_
        refine RunL.ok (OpOk.loadFl1E hoe rfl rfl rfl rd.left (fun _ => rfl) rfl (by omega) rfl) rfl ?_
        refine RunL.ok (OpOk.move rfl) rfl ?_
        refine RunL.ok (OpOk.asT (OpOk.eql rfl rfl) (by omega)) rfl ?_
        refine RunL.nil ?_
        refine Run.condT rfl ?_
        refine Run.region ?_
        refine RunL.ok (OpOk.move rfl) rfl ?_
        refine RunL.ok (OpOk.assign rfl) rfl ?_
        refine RunL.nil ?_
        refine Run.inBlock ?_
        refine Run.region ?_
        refine RunL.ok (OpOk.move rfl) rfl ?_
        refine RunL.ok (OpOk.sub rfl rfl (wrapI (by omega) (by omega))) rfl ?_
        refine RunL.ok (OpOk.assign rfl) rfl ?_
        refine RunL.nil ?_
        refine Run.jump ((ih (i, (i : Int) - 1, (i : Int), _) ⟨rfl, by dsimp only; omega, hnx⟩ (by dsimp only; omega))) ⟨rfl, rfl, rfl, rfl, trivial⟩ (Grew.of as1 (Grew.refl _))
      · have hnx := AtF.miss hat (by rw [hoe]; exact ht)
        refine Run.seq ?_
        refine Run.seq ?_
        refine Run.region ?_
        refine RunL.ok (OpOk.move rfl) rfl ?_
        refine RunL.ok (OpOk.asT (OpOk.geq rfl rfl) (by omega)) rfl ?_
        refine RunL.nil ?_
        refine Run.condT rfl ?_
        refine Run.skip ?_
        refine Run.seq ?_
        refine Run.block ?_
        refine Run.seq ?_
        refine Run.region ?_
        refine RunL.ok (OpOk.move rfl) rfl ?_
        refine RunL.ok (OpOk.move rfl) rfl ?_
        refine RunL.ok (OpOk.idxN rfl ti66 rfl rd.left rfl (by omega)) rfl ?_
        refine RunL.ok (OpOk.fieldAddrA fld66_0 rfl) rfl ?_
        refine RunL.ok (OpOk.loadFl1E hoe rfl rfl rfl rd.left (fun _ => rfl) rfl (by omega) rfl) rfl ?_
        refine RunL.ok (OpOk.move rfl) rfl ?_
        refine RunL.ok (OpOk.asF (OpOk.eql rfl rfl) (by omega)) rfl ?_
        refine RunL.nil ?_
        refine Run.condF rfl ?_
        refine Run.skip ?_
        refine Run.inBlock ?_
        refine Run.region ?_
        refine RunL.ok (OpOk.move rfl) rfl ?_
        refine RunL.ok (OpOk.sub rfl rfl (wrapI (by omega) (by omega))) rfl ?_
        refine RunL.ok (OpOk.assign rfl) rfl ?_
        refine RunL.nil ?_
        refine Run.jump ((ih (i, (i : Int) - 1, a, _) ⟨rfl, by dsimp only; omega, hnx⟩ (by dsimp only; omega))) ⟨rfl, rfl, rfl, rfl, trivial⟩ (Grew.of as1 (Grew.refl _))
    · obtain rfl : j = 0 := by omega
      clear ih
      rcases hat with ⟨rfl, hno⟩ | ⟨m, rfl, _, hm3, hm4, hm5⟩
      · have hfn : FNo xs q := ⟨fun k h => hno k (Nat.zero_le _) h⟩
        refine Run.seq ?_
        refine Run.seq ?_
        refine Run.region ?_
        refine RunL.ok (OpOk.move rfl) rfl ?_
        refine RunL.ok (OpOk.asF (OpOk.geq rfl rfl) (by omega)) rfl ?_
        refine RunL.nil ?_
        refine Run.condF rfl ?_
        refine Run.exit rfl ?_
        refine Run.seq ?_
        refine Run.region ?_
        refine RunL.ok (OpOk.move rfl) rfl ?_
        refine RunL.call cal28 rfl (s28a rd.left al.left (by assumption) (by assumption)) rfl (fun vy1 Ay1 hy1 => ?_)
        obtain ⟨y2, ⟨y3, ⟨y4, rfl⟩⟩⟩ := hy1
        refine RunL.ok (OpOk.assign rfl) rfl ?_
        refine RunL.nil ?_
        refine Run.seq ?_
        refine Run.region ?_
        refine RunL.ok (OpOk.move rfl) rfl ?_
        refine RunL.ok (OpOk.move rfl) rfl ?_
        refine RunL.know (fun w s => (s.conv rfl).ownsE0) (fun aly5 => ?_)
        refine RunL.know (fun w s => (s.conv (frl rfl)).ownRd0) (fun rdy6 => ?_)
        refine RunL.call cal40 rfl (s40b (Rd.right rdy6).left (by assumption) (by assumption)) rfl (fun vy8 Ay8 hy8 => ?_)
        obtain ⟨y9, ⟨rfl, rfl⟩⟩ := hy8
        refine RunL.ok (OpOk.move rfl) rfl ?_
        refine RunL.ok (OpOk.ext20 rfl) rfl ?_
        refine RunL.ok (OpOk.ext21 rfl) rfl ?_
        refine RunL.alloc ti66 rfl (fun by10 => ?_)
        refine RunL.storeAll ti66 rfl rfl rfl (ones rfl) rfl rfl ?_
        refine RunL.ok (OpOk.assign rfl) rfl ?_
        refine RunL.nil ?_
        refine Run.seq ?_
        refine Run.seq ?_
        refine Run.region ?_
        refine RunL.ok (OpOk.move rfl) rfl ?_
        refine RunL.ok (OpOk.move rfl) rfl ?_
        refine RunL.ok (OpOk.asF (OpOk.geq rfl rfl) (by omega)) rfl ?_
        refine RunL.ok (OpOk.neqB rfl rfl rfl) rfl ?_
        refine RunL.nil ?_
        refine Run.condF rfl ?_
        refine Run.skip ?_
        refine Run.seq ?_
        refine Run.seq ?_
        refine Run.region ?_
        refine RunL.ok (OpOk.move rfl) rfl ?_
        refine RunL.ok (OpOk.not rfl) rfl ?_
        refine RunL.nil ?_
        refine Run.condT rfl ?_
        refine Run.seq ?_
        refine Run.region ?_
        refine RunL.ok (OpOk.fieldAddr fld66_0 rfl) rfl ?_
        refine RunL.ok (OpOk.load rfl rfl rfl (Blk.out Blk.pts _ _ (by first | rfl | assumption))) rfl ?_
        refine RunL.ok (OpOk.asT (OpOk.eql rfl rfl) (by omega)) rfl ?_
        refine RunL.ok (OpOk.move rfl) rfl ?_
        refine RunL.on rfl rfl ?_
        refine RunL.ok (OpOk.fieldAddr fld66_1 rfl) rfl ?_
        refine RunL.on rfl rfl ?_
        refine RunL.ok (OpOk.load rfl rfl rfl (Blk.out Blk.pts _ _ (by first | rfl | assumption))) rfl ?_
        refine RunL.on rfl rfl ?_
        refine RunL.ok (OpOk.lenV rfl rfl rfl) rfl ?_
        refine RunL.on rfl rfl ?_
        refine RunL.ok (OpOk.asT (OpOk.eql rfl rfl) (by omega)) rfl ?_
        refine RunL.ok (OpOk.pickT rfl rfl) rfl ?_
        refine RunL.ok (OpOk.move rfl) rfl ?_
        refine RunL.on rfl rfl ?_
        refine RunL.ok (OpOk.fieldAddr fld66_2 rfl) rfl ?_
        refine RunL.on rfl rfl ?_
        refine RunL.ok (OpOk.load rfl rfl rfl (Blk.out Blk.pts _ _ (by first | rfl | assumption))) rfl ?_
        refine RunL.on rfl rfl ?_
        refine RunL.ok (OpOk.lenV rfl rfl rfl) rfl ?_
        refine RunL.on rfl rfl ?_
        refine RunL.ok (OpOk.asT (OpOk.eql rfl rfl) (by omega)) rfl ?_
        refine RunL.ok (OpOk.pickT rfl rfl) rfl ?_
        refine RunL.ok (OpOk.assign rfl) rfl ?_
        refine RunL.nil ?_
        refine Run.ret1 Try.func14 rfl rfl ?_
        exact ⟨rfl, ⟨_, (asg (asg (asg (asg (asg as1)))))⟩⟩
      · have hzz := szT_at hk m hm3
        obtain ⟨o, hoe⟩ : ∃ o, xs.getD m default = o := ⟨_, rfl⟩
        obtain ⟨t1, bv1, bs1, ev1, f1⟩ := o
        rw [hoe] at hm4 hzz
        dsimp only at hm4 hzz
        subst hm4
        have hfy : FYes xs t1 bs1 (strip f1) := ⟨⟨m, hm3, by rw [hoe], by rw [hoe], by rw [hoe], fun k h => hm5 k (Nat.zero_le _) h⟩, hzz⟩
        have hgx := al.get hm3
        rw [hoe] at hgx
        have alc : Alls (GE w0) (old w0) [(t1, bv1, bs1, ev1, f1)] := Alls.cons hgx Alls.nil
        have rdc : Rd w0 (old w0) (cutV u m (m + 1) 3) 3 1 (Fl encT66 [(t1, bv1, bs1, ev1, f1)]) := by
          have h := Rd.cutV rd (i := m) (j := m + 1) (by omega) (by omega)
          rw [show m + 1 - m = 1 by omega, FlDrop (enc := encT66) (s := 3) (fun _ => rfl), FlTake (enc := encT66) (s := 3) (fun _ => rfl), drop_next hm3, hoe] at h
          exact h
        refine Run.seq ?_
        refine Run.seq ?_
        refine Run.region ?_
        refine RunL.ok (OpOk.move rfl) rfl ?_
        refine RunL.ok (OpOk.asF (OpOk.geq rfl rfl) (by omega)) rfl ?_
        refine RunL.nil ?_
        refine Run.condF rfl ?_
        refine Run.exit rfl ?_
        refine Run.seq ?_
        refine Run.region ?_
        refine RunL.ok (OpOk.move rfl) rfl ?_
        refine RunL.call cal28 rfl (s28a rd.left al.left (by assumption) (by assumption)) rfl (fun vy1 Ay1 hy1 => ?_)
        obtain ⟨y2, ⟨y3, ⟨y4, rfl⟩⟩⟩ := hy1
        refine RunL.ok (OpOk.assign rfl) rfl ?_
        refine RunL.nil ?_
        refine Run.seq ?_
        refine Run.region ?_
        refine RunL.ok (OpOk.move rfl) rfl ?_
        refine RunL.ok (OpOk.move rfl) rfl ?_
        refine RunL.know (fun w s => (s.conv rfl).ownsE0) (fun aly5 => ?_)
        refine RunL.know (fun w s => (s.conv (frl rfl)).ownRd0) (fun rdy6 => ?_)
        refine RunL.call cal40 rfl (s40a (Rd.right rdy6).left (Alls.right aly5) (by assumption) (by assumption)) rfl (fun vy7 Ay7 hy7 => ?_)
        obtain ⟨y8, ⟨y9, ⟨y10, ⟨y11, ⟨rfl, ⟨y12, rfl⟩⟩⟩⟩⟩⟩ := hy7
        refine RunL.ok (OpOk.move rfl) rfl ?_
        refine RunL.ok (OpOk.ext20 rfl) rfl ?_
        refine RunL.ok (OpOk.ext21 rfl) rfl ?_
        refine RunL.alloc ti66 rfl (fun by13 => ?_)
        refine RunL.storeAll ti66 rfl rfl rfl (fun w hw => OneC.one (enc := encT66) ((t1, y8, bs1, y9, y10)) w hw) rfl rfl ?_
        refine RunL.ok (OpOk.assign rfl) rfl ?_
        refine RunL.nil ?_
        refine Run.seq ?_
        refine Run.seq ?_
        refine Run.region ?_
        refine RunL.ok (OpOk.move rfl) rfl ?_
        refine RunL.ok (OpOk.move rfl) rfl ?_
        refine RunL.ok (OpOk.asT (OpOk.geq rfl rfl) (by omega)) rfl ?_
        refine RunL.ok (OpOk.neqB rfl rfl rfl) rfl ?_
        refine RunL.nil ?_
        refine Run.condF rfl ?_
        refine Run.skip ?_
        refine Run.seq ?_
        refine Run.seq ?_
        refine Run.region ?_
        refine RunL.ok (OpOk.move rfl) rfl ?_
        refine RunL.ok (OpOk.not rfl) rfl ?_
        refine RunL.nil ?_
        refine Run.condF rfl ?_
        refine Run.skip ?_
        refine Run.seq ?_
        refine Run.region ?_
        refine RunL.ok (OpOk.loadS rfl rfl ti66 rfl Blk.pts rfl) rfl ?_
        refine RunL.litFl (enc := encT66) [(t1, y8, bs1, y9, y10)] rfl ti66 rfl (fun _ => rfl) rfl rfl (by decide) (by decide) rfl (fun vy16 rdy16 => ?_)
        refine RunL.ok (OpOk.assign rfl) rfl ?_
        refine RunL.nil ?_
        refine Run.seq ?_
        refine Run.seq ?_
        refine Run.region ?_
        refine RunL.ok (OpOk.move rfl) rfl ?_
        refine RunL.ok (OpOk.move rfl) rfl ?_
        refine RunL.ok (OpOk.move rfl) rfl ?_
        refine RunL.ok (OpOk.move rfl) rfl ?_
        refine RunL.ok (OpOk.addN _ 1 rfl rfl rfl rfl (by omega)) rfl ?_
        refine RunL.ok (OpOk.cut rfl ti66 rfl rd.left.left.left.left.left.left.left.left.left.left ⟨_, rfl⟩ ⟨_, rfl⟩ (by omega) (by omega)) rfl ?_
        refine RunL.know (fun w s => (s.conv (frl (frl rfl))).ownsE0) (fun aly17 => ?_)
        refine RunL.know (fun w s => (s.conv rfl).ownRd0) (fun rdy18 => ?_)
        have hs : ownsE [((t1, y8, bs1, y9, y10) : Ee)] = own 5 1 y8.1 bs1.length (B bs1) * own 66 3 y9.1 (top y10).length (Fl encT66 (top y10)) * ownsE (top y10) := by
          rw [show ([((t1, y8, bs1, y9, y10) : Ee)]) = [] ++ [((t1, y8, bs1, y9, y10) : Ee)] from rfl, ownsE_snoc, ownsE_nil, emp_sep]
        refine RunL.mem (A' := old w0 * J * y3 * own 66 3 vy1 y2.length (Fl encT66 y2) * ownsE y2 * y11 * pts by13 (.cells (Value.agg (encT66 (t1, y8, bs1, y9, y10)).toArray).cells 66) * own 66 3 vy16 1 (Fl encT66 [((t1, y8, bs1, y9, y10) : Ee)]) * ownsE [((t1, y8, bs1, y9, y10) : Ee)]) ?_ ?_
        · rw [hs, ← sep_assoc, ← sep_assoc]
          exact (frc (frl (frl rfl)) (frc (frl (frl rfl)) (frc (frl (frl rfl)) rfl)))
        clear hs aly17
        have hst : strL [((t1, y8, bs1, y9, y10) : Ee)] = strL [((t1, bv1, bs1, ev1, f1) : Ee)] := by rw [strL, strL, strL, strL, y12]
        refine RunL.know (fun w s => s.ownsE0) (fun alz => ?_)
        refine RunL.call cal31 rfl (s31a (Rd.right rdy18).left (Alls.right alz) rdc.left.left.left.left.left.left.left.left alc.left.left.left.left.left.left.left.left) rfl (fun vz1 Az1 hz1 => ?_)
        obtain ⟨z2, ⟨rfl, rfl⟩⟩ := hz1
        refine RunL.ok (OpOk.not rfl) rfl ?_
        refine RunL.nil ?_
        refine Run.condNF rfl (by first | omega | with_reducible rfl | assumption) ?_
        refine Run.skip ?_
        refine Run.seq ?_
        refine Run.region ?_
        refine RunL.ok (OpOk.move rfl) rfl ?_
        refine RunL.mem (frc (frl rfl) (frc (frl rfl) rfl)) ?_
        refine RunL.call cal34 rfl (s34a) rfl (fun vz3 Az3 hz3 => ?_)
        obtain ⟨z4, rfl⟩ := hz3
        refine RunL.nil ?_
        refine Run.seq ?_
        refine Run.region ?_
        refine RunL.ok (OpOk.move rfl) rfl ?_
        refine RunL.ok (OpOk.move rfl) rfl ?_
        refine RunL.call cal31 rfl (s31a (Rd.right rdy6).left.left.left.left.left (Alls.right aly5).left.left.left.left rd.left.left.left.left.left.left.left.left al.left.left.left.left.left.left.left.left) rfl (fun vz5 Az5 hz5 => ?_)
        obtain ⟨z6, ⟨rfl, rfl⟩⟩ := hz5
        refine RunL.ok (OpOk.assign rfl) rfl ?_
        refine RunL.nil ?_
        refine Run.ret1 Try.func14 rfl rfl ?_
        rw [decide_eq_true (by first | omega | with_reducible rfl | assumption)]
        exact ⟨rfl, ⟨_, (asg (asg (asg (asg (asg (asg (asg (asg as1))))))))⟩⟩
  refine RunL.splitDF (t := 20) rfl (by first | omega | with_reducible rfl | assumption) ?_
  refine RunL.ok (OpOk.neqB rfl rfl rfl) rfl ?_
  refine RunL.ok (OpOk.move rfl) rfl ?_
  refine RunL.on rfl rfl ?_
  refine RunL.ok (OpOk.move rfl) rfl ?_
  refine RunL.on rfl rfl ?_
  refine RunL.ok (OpOk.move rfl) rfl ?_
  refine RunL.on rfl rfl ?_
  refine RunL.call cal28 rfl (s28a rd.left.left.left al.left.left.left (by assumption) (by assumption)) rfl (fun vx25 Ax25 hx25 => ?_)
  obtain ⟨x26, ⟨x27, ⟨x28, rfl⟩⟩⟩ := hx25
  refine RunL.on rfl rfl ?_
  refine RunL.know (fun w s => (s.conv rfl).ownsE0) (fun alx29 => ?_)
  refine RunL.know (fun w s => (s.conv (frl rfl)).ownRd0) (fun rdx30 => ?_)
  refine RunL.call cal39 rfl (s39a rd.left.left.left.left.left.left al.left.left.left.left.left.left (Rd.right rdx30).left (Alls.right alx29)) rfl (fun vx31 Ax31 hx31 => ?_)
  obtain ⟨x32, ⟨rfl, rfl⟩⟩ := hx31
  refine RunL.on rfl rfl ?_
  refine RunL.ok (OpOk.not rfl) rfl ?_
  refine RunL.ok (OpOk.pickF rfl rfl) rfl ?_
  refine RunL.nil ?_
  refine Run.condN rfl (fun x33 => ?_) (fun x33 => ?_)
  · refine Run.seq ?_
    refine Run.region ?_
    refine RunL.ok (OpOk.assign rfl) rfl ?_
    refine RunL.nil ?_
    refine Run.ret1 Try.func14 rfl rfl ?_
    exact absurd x28.symm x33
  refine Run.skip ?_
  refine Run.seq ?_
  refine Run.region ?_
  refine RunL.ok (OpOk.assign rfl) rfl ?_
  refine RunL.nil ?_
  refine Run.seq ?_
  refine Run.seq ?_
  refine Run.region ?_
  refine RunL.ok (OpOk.move rfl) rfl ?_
  refine RunL.ok (OpOk.lenR rfl rfl rd.left.left.left.left.left.left.left rfl) rfl ?_
  refine RunL.ok (OpOk.sub rfl rfl (wrapI (by omega) (by omega))) rfl ?_
  refine RunL.ok (OpOk.assign rfl) rfl ?_
  refine RunL.nil ?_
  refine Run.block ?_
  refine Run.jump ((Run.loopJ (X := Nat × Int × Int × Asn) (fun x => [(8, .int .i64 x.2.1), (7, .int .i64 x.2.2.1), (0, u), (2, .int .i64 q)]) (fun x => old w0 * x.2.2.2) (fun x => x.2.1 = (x.1 : Int) - 1 ∧ x.1 ≤ xs.length ∧ AtF xs q x.1 x.2.2.1) (fun x => x.1) (xs.length, (xs.length : Int) - 1, -1, _) ⟨rfl, Nat.le_refl _, AtF.new xs q⟩ (fun x hx ih => ?_))) ⟨rfl, rfl, rfl, rfl, trivial⟩ (Grew.of (asg (asg (asg (asg (asg (asg as1)))))) (Grew.refl _))
  obtain ⟨j, i8, a, J⟩ := x
  simp only at hx ih ⊢
  obtain ⟨hi8, hj, hat⟩ := hx
  rcases Decidable.em (0 ≤ i8) with h0 | h0
  · obtain ⟨i, rfl⟩ := Int.eq_ofNat_of_zero_le h0
    obtain rfl : j = i + 1 := by omega
    have hlt : i < xs.length := by omega
    obtain ⟨o, hoe⟩ : ∃ o, xs.getD i default = o := ⟨_, rfl⟩
    obtain ⟨t1, bv1, bs1, ev1, f1⟩ := o
    rcases Decidable.em (t1 = q) with ht | ht
    · have hnx := AtF.hit (xs := xs) (q := q) hlt (by rw [hoe]; exact ht)
      refine Run.seq ?_
      refine Run.seq ?_
      refine Run.region ?_
      refine RunL.ok (OpOk.move rfl) rfl ?_
      refine RunL.ok (OpOk.asT (OpOk.geq rfl rfl) (by omega)) rfl ?_
      refine RunL.nil ?_
      refine Run.condT rfl ?_
      refine Run.skip ?_
      refine Run.seq ?_
      refine Run.block ?_
      refine Run.seq ?_
      refine Run.region ?_
      refine RunL.ok (OpOk.move rfl) rfl ?_
      refine RunL.ok (OpOk.move rfl) rfl ?_
      refine RunL.ok (OpOk.idxN rfl ti66 rfl rd.left rfl (by omega)) rfl ?_
      refine RunL.ok (OpOk.fieldAddrA fld66_0 rfl) rfl ?_
      refine RunL.ok (OpOk.loadFl1E hoe rfl rfl rfl rd.left (fun _ => rfl) rfl (by omega) rfl) rfl ?_
      refine RunL.ok (OpOk.move rfl) rfl ?_
      refine RunL.ok (OpOk.asT (OpOk.eql rfl rfl) (by omega)) rfl ?_
      refine RunL.nil ?_
      refine Run.condT rfl ?_
      refine Run.region ?_
      refine RunL.ok (OpOk.move rfl) rfl ?_
      refine RunL.ok (OpOk.assign rfl) rfl ?_
      refine RunL.nil ?_
      refine Run.inBlock ?_
      refine Run.region ?_
      refine RunL.ok (OpOk.move rfl) rfl ?_
      refine RunL.ok (OpOk.sub rfl rfl (wrapI (by omega) (by omega))) rfl ?_
      refine RunL.ok (OpOk.assign rfl) rfl ?_
      refine RunL.nil ?_
      refine Run.jump ((ih (i, (i : Int) - 1, (i : Int), _) ⟨rfl, by dsimp only; omega, hnx⟩ (by dsimp only; omega))) ⟨rfl, rfl, rfl, rfl, trivial⟩ (Grew.of as1 (Grew.refl _))
    · have hnx := AtF.miss hat (by rw [hoe]; exact ht)
      refine Run.seq ?_
      refine Run.seq ?_
      refine Run.region ?_
      refine RunL.ok (OpOk.move rfl) rfl ?_
      refine RunL.ok (OpOk.asT (OpOk.geq rfl rfl) (by omega)) rfl ?_
      refine RunL.nil ?_
      refine Run.condT rfl ?_
      refine Run.skip ?_
      refine Run.seq ?_
      refine Run.block ?_
      refine Run.seq ?_
      refine Run.region ?_
      refine RunL.ok (OpOk.move rfl) rfl ?_
      refine RunL.ok (OpOk.move rfl) rfl ?_
      refine RunL.ok (OpOk.idxN rfl ti66 rfl rd.left rfl (by omega)) rfl ?_
      refine RunL.ok (OpOk.fieldAddrA fld66_0 rfl) rfl ?_
      refine RunL.ok (OpOk.loadFl1E hoe rfl rfl rfl rd.left (fun _ => rfl) rfl (by omega) rfl) rfl ?_
      refine RunL.ok (OpOk.move rfl) rfl ?_
      refine RunL.ok (OpOk.asF (OpOk.eql rfl rfl) (by omega)) rfl ?_
      refine RunL.nil ?_
      refine Run.condF rfl ?_
      refine Run.skip ?_
      refine Run.inBlock ?_
      refine Run.region ?_
      refine RunL.ok (OpOk.move rfl) rfl ?_
      refine RunL.ok (OpOk.sub rfl rfl (wrapI (by omega) (by omega))) rfl ?_
      refine RunL.ok (OpOk.assign rfl) rfl ?_
      refine RunL.nil ?_
      refine Run.jump ((ih (i, (i : Int) - 1, a, _) ⟨rfl, by dsimp only; omega, hnx⟩ (by dsimp only; omega))) ⟨rfl, rfl, rfl, rfl, trivial⟩ (Grew.of as1 (Grew.refl _))
  · obtain rfl : j = 0 := by omega
    clear ih
    rcases hat with ⟨rfl, hno⟩ | ⟨m, rfl, _, hm3, hm4, hm5⟩
    · have hfn : FNo xs q := ⟨fun k h => hno k (Nat.zero_le _) h⟩
      refine Run.seq ?_
      refine Run.seq ?_
      refine Run.region ?_
      refine RunL.ok (OpOk.move rfl) rfl ?_
      refine RunL.ok (OpOk.asF (OpOk.geq rfl rfl) (by omega)) rfl ?_
      refine RunL.nil ?_
      refine Run.condF rfl ?_
      refine Run.exit rfl ?_
      refine Run.seq ?_
      refine Run.region ?_
      refine RunL.ok (OpOk.move rfl) rfl ?_
      refine RunL.call cal28 rfl (s28a rd.left al.left (by assumption) (by assumption)) rfl (fun vy1 Ay1 hy1 => ?_)
      obtain ⟨y2, ⟨y3, ⟨y4, rfl⟩⟩⟩ := hy1
      refine RunL.ok (OpOk.assign rfl) rfl ?_
      refine RunL.nil ?_
      refine Run.seq ?_
      refine Run.region ?_
      refine RunL.ok (OpOk.move rfl) rfl ?_
      refine RunL.ok (OpOk.move rfl) rfl ?_
      refine RunL.know (fun w s => (s.conv rfl).ownsE0) (fun aly5 => ?_)
      refine RunL.know (fun w s => (s.conv (frl rfl)).ownRd0) (fun rdy6 => ?_)
      refine RunL.call cal40 rfl (s40b (Rd.right rdy6).left (by assumption) (by assumption)) rfl (fun vy8 Ay8 hy8 => ?_)
      obtain ⟨y9, ⟨rfl, rfl⟩⟩ := hy8
      refine RunL.ok (OpOk.move rfl) rfl ?_
      refine RunL.ok (OpOk.ext20 rfl) rfl ?_
      refine RunL.ok (OpOk.ext21 rfl) rfl ?_
      refine RunL.alloc ti66 rfl (fun by10 => ?_)
      refine RunL.storeAll ti66 rfl rfl rfl (ones rfl) rfl rfl ?_
      refine RunL.ok (OpOk.assign rfl) rfl ?_
      refine RunL.nil ?_
      refine Run.seq ?_
      refine Run.seq ?_
      refine Run.region ?_
      refine RunL.ok (OpOk.move rfl) rfl ?_
      refine RunL.ok (OpOk.move rfl) rfl ?_
      refine RunL.ok (OpOk.asF (OpOk.geq rfl rfl) (by omega)) rfl ?_
      refine RunL.ok (OpOk.neqB rfl rfl rfl) rfl ?_
      refine RunL.nil ?_
      refine Run.condF rfl ?_
      refine Run.skip ?_
      refine Run.seq ?_
      refine Run.seq ?_
      refine Run.region ?_
      refine RunL.ok (OpOk.move rfl) rfl ?_
      refine RunL.ok (OpOk.not rfl) rfl ?_
      refine RunL.nil ?_
      refine Run.condT rfl ?_
      refine Run.seq ?_
      refine Run.region ?_
      refine RunL.ok (OpOk.fieldAddr fld66_0 rfl) rfl ?_
      refine RunL.ok (OpOk.load rfl rfl rfl (Blk.out Blk.pts _ _ (by first | rfl | assumption))) rfl ?_
      refine RunL.ok (OpOk.asT (OpOk.eql rfl rfl) (by omega)) rfl ?_
      refine RunL.ok (OpOk.move rfl) rfl ?_
      refine RunL.on rfl rfl ?_
      refine RunL.ok (OpOk.fieldAddr fld66_1 rfl) rfl ?_
      refine RunL.on rfl rfl ?_
      refine RunL.ok (OpOk.load rfl rfl rfl (Blk.out Blk.pts _ _ (by first | rfl | assumption))) rfl ?_
      refine RunL.on rfl rfl ?_
      refine RunL.ok (OpOk.lenV rfl rfl rfl) rfl ?_
      refine RunL.on rfl rfl ?_
      refine RunL.ok (OpOk.asT (OpOk.eql rfl rfl) (by omega)) rfl ?_
      refine RunL.ok (OpOk.pickT rfl rfl) rfl ?_
      refine RunL.ok (OpOk.move rfl) rfl ?_
      refine RunL.on rfl rfl ?_
      refine RunL.ok (OpOk.fieldAddr fld66_2 rfl) rfl ?_
      refine RunL.on rfl rfl ?_
      refine RunL.ok (OpOk.load rfl rfl rfl (Blk.out Blk.pts _ _ (by first | rfl | assumption))) rfl ?_
      refine RunL.on rfl rfl ?_
      refine RunL.ok (OpOk.lenV rfl rfl rfl) rfl ?_
      refine RunL.on rfl rfl ?_
      refine RunL.ok (OpOk.asT (OpOk.eql rfl rfl) (by omega)) rfl ?_
      refine RunL.ok (OpOk.pickT rfl rfl) rfl ?_
      refine RunL.ok (OpOk.assign rfl) rfl ?_
      refine RunL.nil ?_
      refine Run.ret1 Try.func14 rfl rfl ?_
      exact ⟨rfl, ⟨_, (asg (asg (asg (asg (asg as1)))))⟩⟩
    · have hzz := szT_at hk m hm3
      obtain ⟨o, hoe⟩ : ∃ o, xs.getD m default = o := ⟨_, rfl⟩
      obtain ⟨t1, bv1, bs1, ev1, f1⟩ := o
      rw [hoe] at hm4 hzz
      dsimp only at hm4 hzz
      subst hm4
      have hfy : FYes xs t1 bs1 (strip f1) := ⟨⟨m, hm3, by rw [hoe], by rw [hoe], by rw [hoe], fun k h => hm5 k (Nat.zero_le _) h⟩, hzz⟩
      have hgx := al.get hm3
      rw [hoe] at hgx
      have alc : Alls (GE w0) (old w0) [(t1, bv1, bs1, ev1, f1)] := Alls.cons hgx Alls.nil
      have rdc : Rd w0 (old w0) (cutV u m (m + 1) 3) 3 1 (Fl encT66 [(t1, bv1, bs1, ev1, f1)]) := by
        have h := Rd.cutV rd (i := m) (j := m + 1) (by omega) (by omega)
        rw [show m + 1 - m = 1 by omega, FlDrop (enc := encT66) (s := 3) (fun _ => rfl), FlTake (enc := encT66) (s := 3) (fun _ => rfl), drop_next hm3, hoe] at h
        exact h
      refine Run.seq ?_
      refine Run.seq ?_
      refine Run.region ?_
      refine RunL.ok (OpOk.move rfl) rfl ?_
      refine RunL.ok (OpOk.asF (OpOk.geq rfl rfl) (by omega)) rfl ?_
      refine RunL.nil ?_
      refine Run.condF rfl ?_
      refine Run.exit rfl ?_
      refine Run.seq ?_
      refine Run.region ?_
      refine RunL.ok (OpOk.move rfl) rfl ?_
      refine RunL.call cal28 rfl (s28a rd.left al.left (by assumption) (by assumption)) rfl (fun vy1 Ay1 hy1 => ?_)
      obtain ⟨y2, ⟨y3, ⟨y4, rfl⟩⟩⟩ := hy1
      refine RunL.ok (OpOk.assign rfl) rfl ?_
      refine RunL.nil ?_
      refine Run.seq ?_
      refine Run.region ?_
      refine RunL.ok (OpOk.move rfl) rfl ?_
      refine RunL.ok (OpOk.move rfl) rfl ?_
      refine RunL.know (fun w s => (s.conv rfl).ownsE0) (fun aly5 => ?_)
      refine RunL.know (fun w s => (s.conv (frl rfl)).ownRd0) (fun rdy6 => ?_)
      refine RunL.call cal40 rfl (s40a (Rd.right rdy6).left (Alls.right aly5) (by assumption) (by assumption)) rfl (fun vy7 Ay7 hy7 => ?_)
      obtain ⟨y8, ⟨y9, ⟨y10, ⟨y11, ⟨rfl, ⟨y12, rfl⟩⟩⟩⟩⟩⟩ := hy7
      refine RunL.ok (OpOk.move rfl) rfl ?_
      refine RunL.ok (OpOk.ext20 rfl) rfl ?_
      refine RunL.ok (OpOk.ext21 rfl) rfl ?_
      refine RunL.alloc ti66 rfl (fun by13 => ?_)
      refine RunL.storeAll ti66 rfl rfl rfl (fun w hw => OneC.one (enc := encT66) ((t1, y8, bs1, y9, y10)) w hw) rfl rfl ?_
      refine RunL.ok (OpOk.assign rfl) rfl ?_
      refine RunL.nil ?_
      refine Run.seq ?_
      refine Run.seq ?_
      refine Run.region ?_
      refine RunL.ok (OpOk.move rfl) rfl ?_
      refine RunL.ok (OpOk.move rfl) rfl ?_
      refine RunL.ok (OpOk.asT (OpOk.geq rfl rfl) (by omega)) rfl ?_
      refine RunL.ok (OpOk.neqB rfl rfl rfl) rfl ?_
      refine RunL.nil ?_
      refine Run.condF rfl ?_
      refine Run.skip ?_
      refine Run.seq ?_
      refine Run.seq ?_
      refine Run.region ?_
      refine RunL.ok (OpOk.move rfl) rfl ?_
      refine RunL.ok (OpOk.not rfl) rfl ?_
      refine RunL.nil ?_
      refine Run.condF rfl ?_
      refine Run.skip ?_
      refine Run.seq ?_
      refine Run.region ?_
      refine RunL.ok (OpOk.loadS rfl rfl ti66 rfl Blk.pts rfl) rfl ?_
      refine RunL.litFl (enc := encT66) [(t1, y8, bs1, y9, y10)] rfl ti66 rfl (fun _ => rfl) rfl rfl (by decide) (by decide) rfl (fun vy16 rdy16 => ?_)
      refine RunL.ok (OpOk.assign rfl) rfl ?_
      refine RunL.nil ?_
      refine Run.seq ?_
      refine Run.seq ?_
      refine Run.region ?_
      refine RunL.ok (OpOk.move rfl) rfl ?_
      refine RunL.ok (OpOk.move rfl) rfl ?_
      refine RunL.ok (OpOk.move rfl) rfl ?_
      refine RunL.ok (OpOk.move rfl) rfl ?_
      refine RunL.ok (OpOk.addN _ 1 rfl rfl rfl rfl (by omega)) rfl ?_
      refine RunL.ok (OpOk.cut rfl ti66 rfl rd.left.left.left.left.left.left.left.left.left.left ⟨_, rfl⟩ ⟨_, rfl⟩ (by omega) (by omega)) rfl ?_
      refine RunL.know (fun w s => (s.conv (frl (frl rfl))).ownsE0) (fun aly17 => ?_)
      refine RunL.know (fun w s => (s.conv rfl).ownRd0) (fun rdy18 => ?_)
      have hs : ownsE [((t1, y8, bs1, y9, y10) : Ee)] = own 5 1 y8.1 bs1.length (B bs1) * own 66 3 y9.1 (top y10).length (Fl encT66 (top y10)) * ownsE (top y10) := by
        rw [show ([((t1, y8, bs1, y9, y10) : Ee)]) = [] ++ [((t1, y8, bs1, y9, y10) : Ee)] from rfl, ownsE_snoc, ownsE_nil, emp_sep]
      refine RunL.mem (A' := old w0 * J * y3 * own 66 3 vy1 y2.length (Fl encT66 y2) * ownsE y2 * y11 * pts by13 (.cells (Value.agg (encT66 (t1, y8, bs1, y9, y10)).toArray).cells 66) * own 66 3 vy16 1 (Fl encT66 [((t1, y8, bs1, y9, y10) : Ee)]) * ownsE [((t1, y8, bs1, y9, y10) : Ee)]) ?_ ?_
      · rw [hs, ← sep_assoc, ← sep_assoc]
        exact (frc (frl (frl rfl)) (frc (frl (frl rfl)) (frc (frl (frl rfl)) rfl)))
      clear hs aly17
      have hst : strL [((t1, y8, bs1, y9, y10) : Ee)] = strL [((t1, bv1, bs1, ev1, f1) : Ee)] := by rw [strL, strL, strL, strL, y12]
      refine RunL.know (fun w s => s.ownsE0) (fun alz => ?_)
      refine RunL.call cal31 rfl (s31a (Rd.right rdy18).left (Alls.right alz) rdc.left.left.left.left.left.left.left.left alc.left.left.left.left.left.left.left.left) rfl (fun vz1 Az1 hz1 => ?_)
      obtain ⟨z2, ⟨rfl, rfl⟩⟩ := hz1
      refine RunL.ok (OpOk.not rfl) rfl ?_
      refine RunL.nil ?_
      refine Run.condNF rfl (by first | omega | with_reducible rfl | assumption) ?_
      refine Run.skip ?_
      refine Run.seq ?_
      refine Run.region ?_
      refine RunL.ok (OpOk.move rfl) rfl ?_
      refine RunL.mem (frc (frl rfl) (frc (frl rfl) rfl)) ?_
      refine RunL.call cal34 rfl (s34a) rfl (fun vz3 Az3 hz3 => ?_)
      obtain ⟨z4, rfl⟩ := hz3
      refine RunL.nil ?_
      refine Run.seq ?_
      refine Run.region ?_
      refine RunL.ok (OpOk.move rfl) rfl ?_
      refine RunL.ok (OpOk.move rfl) rfl ?_
      refine RunL.call cal31 rfl (s31a (Rd.right rdy6).left.left.left.left.left (Alls.right aly5).left.left.left.left rd.left.left.left.left.left.left.left.left al.left.left.left.left.left.left.left.left) rfl (fun vz5 Az5 hz5 => ?_)
      obtain ⟨z6, ⟨rfl, rfl⟩⟩ := hz5
      refine RunL.ok (OpOk.assign rfl) rfl ?_
      refine RunL.nil ?_
      refine Run.ret1 Try.func14 rfl rfl ?_
      rw [decide_eq_true (by first | omega | with_reducible rfl | assumption)]
      exact ⟨rfl, ⟨_, (asg (asg (asg (asg (asg (asg (asg (asg as1))))))))⟩⟩
end
end Go.Proofs.Ytlheianbmpgefaa
