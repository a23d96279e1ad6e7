/- get, walked. -/
import Derived.Test.YtlheianbmpgefaaTvE
namespace Go.Proofs.Ytlheianbmpgefaa
open Go Go.Proofs
set_option maxRecDepth 100000
set_option maxHeartbeats 4000000
set_option linter.unusedSimpArgs false
abbrev nilV : SV := ⟨.slice none 0 0, rfl⟩
def Cget (w0 : World) (n : Nat) : Prop := ∀ (A : Asn) (u : Value) (b : List UInt8) (d : Nat) (f : Te) (e : Int), b.length ≤ n → d ≤ 4 → Rd w0 A u 1 b.length (B b) → b.length ≤ 140737488351232 → get b d 0 = (f, e) →
  Spec Try.prog w0 49 [u, .int .i64 (d : Int)] A (fun v' A' => ∃ v ys J, v' = .tuple #[v, .int .i64 e] ∧ strL ys = f ∧ A' = A * J * own 66 3 v ys.length (Fl encT66 ys) * ownsE ys)
theorem own_E0 : own 66 3 (Value.slice none 0 0) 0 (Fl encT66 ([] : List Ee)) = emp := own_nil_eq _ _
section
variable {w0 : World} {A : Asn} {n : Nat}
theorem s49 {u : Value} {m d : Nat} {b : List UInt8} {f : Te} {e : Int} (rd : Rd w0 A u 1 m (B b)) (hg : get b d 0 = (f, e)) (hrec : Cget w0 n) (hn : b.length ≤ n) (hd : d ≤ 4) (hb : b.length ≤ 140737488351232) :
    Spec Try.prog w0 49 [u, .int .i64 (d : Int)] A (fun v' A' => ∃ v ys J, v' = .tuple #[v, .int .i64 e] ∧ strL ys = f ∧ A' = A * J * own 66 3 v ys.length (Fl encT66 ys) * ownsE ys) := by
  have hl : b.length = m := by simpa [B] using rd.len
  subst hl
  exact hrec A u b d f e hn hd rd hb hg
theorem getAll : ∀ n, Cget w0 n := fun n => by
  induction n using Nat.strongRecOn with
  | ind n hall =>
  intro A u b0 d f e hsz hd rd hb0 hg0
  refine Spec.of_run [(0, u), (1, .int .i64 (d : Int))] Try.func49 rfl (Nat.le_of_ble_eq_true rfl) (by repeat (first | exact trivial | refine ⟨rfl, ?_⟩)) ?_
  refine Run.seq ?_
  refine Run.region ?_
  refine RunL.ok (OpOk.assign rfl) rfl ?_
  refine RunL.ok (OpOk.assign rfl) rfl ?_
  refine RunL.nil ?_
  refine Run.seq ?_
  refine Run.region ?_
  refine RunL.ok (OpOk.assign rfl) rfl ?_
  refine RunL.nil ?_
  refine Run.seq ?_
  refine Run.region ?_
  refine RunL.ok (OpOk.assign rfl) rfl ?_
  refine RunL.nil ?_
  refine Run.seq ?_
  refine Run.block ?_
  refine Run.ent (Ent.ownNil' _ 66 3 (Fl encT66 ([] : List Ee)) rfl) ?_
  refine Run.mem (sep_emp _).symm ?_
  rw [show emp = ownsE [] from rfl]
  refine Run.jump ((Run.loopJ (X := List UInt8 × Value × Asn × Value × List Ee × Int) (fun x => [(0, x.2.1), (1, .int .i64 (d : Int)), (6, x.2.2.2.1), (7, .int .i64 x.2.2.2.2.2)]) (fun x => A * x.2.2.1 * own 66 3 x.2.2.2.1 x.2.2.2.2.1.length (Fl encT66 x.2.2.2.2.1) * ownsE x.2.2.2.2.1) (fun x => x.1.length ≤ b0.length ∧ Rd w0 A x.2.1 1 x.1.length (B x.1) ∧ get b0 d 0 = appR (strL x.2.2.2.2.1) (get x.1 d x.2.2.2.2.2) ∧ (x.2.2.2.2.1.length : Int) ≤ x.2.2.2.2.2 ∧ 0 ≤ x.2.2.2.2.2 ∧ x.2.2.2.2.2 ≤ 255) (fun x => x.1.length) (b0, u, _, .slice none 0 0, [], 0) ⟨Nat.le_refl _, rd, (appR_nil _ (get_fst _ _ _ _)).symm, Int.le_refl _, Int.le_refl _, by dsimp only; omega⟩ (fun x hx ih => ?_))) ⟨rfl, rfl, rfl, rfl, trivial⟩ (Grew.of (Eq.trans (frc rfl (frc rfl rfl)) (congrArg (· * _) (congrArg (· * _) as0))) (Grew.refl _))
  obtain ⟨b, v0, J, v6, ys, last⟩ := x
  simp only at hx ih ⊢
  obtain ⟨hbl, hrd, hdr, hyl, hl0, hl1⟩ := hx
  rw [hg0] at hdr
  cases hb : b with
  | nil =>
    rw [hb, get_nil, appR, if_pos rfl, appT_nil] at hdr
    have hbz : b.length = 0 := by rw [hb]; rfl
    clear ih
    obtain ⟨rfl, rfl⟩ := Prod.mk.inj hdr
    refine Run.seq ?_
    refine Run.seq ?_
    refine Run.region ?_
    refine RunL.ok (OpOk.move rfl) rfl ?_
    refine RunL.ok (OpOk.lenR rfl rfl hrd.left.left.left rfl) rfl ?_
    refine RunL.ok (OpOk.asF (OpOk.gtr rfl rfl) (by omega)) rfl ?_
    refine RunL.nil ?_
    refine Run.condF rfl ?_
    refine Run.exit rfl ?_
    refine Run.seq ?_
    refine Run.region ?_
    refine RunL.ok (OpOk.move rfl) rfl ?_
    refine RunL.ok (OpOk.assign rfl) rfl ?_
    refine RunL.ok (OpOk.assign rfl) rfl ?_
    refine RunL.nil ?_
    refine Run.ret2 Try.func49 rfl rfl rfl ?_
    exact ⟨_, _, _, rfl, rfl, (congrArg (· * _) (congrArg (· * _) as1))⟩
  | cons t b1 =>
    have hb1 : b.length = b1.length + 1 := by rw [hb]; rfl
    have rw_t : b.getD 0 0 = t := by rw [hb]; rfl
    have ht := t.toNat_lt
    rw [hb] at hdr
    rcases Decidable.em (d = 4) with h4 | h4
    · subst h4
      rw [get_deep (Nat.le_refl _), appR_err _ _ (by decide)] at hdr
      refine Run.seq ?_
      refine Run.seq ?_
      refine Run.region ?_
      refine RunL.ok (OpOk.move rfl) rfl ?_
      refine RunL.ok (OpOk.lenR rfl rfl hrd.left.left.left rfl) rfl ?_
      refine RunL.ok (OpOk.asT (OpOk.gtr rfl rfl) (by omega)) rfl ?_
      refine RunL.nil ?_
      refine Run.condT rfl ?_
      refine Run.skip ?_
      refine Run.block ?_
      refine Run.seq ?_
      refine Run.region ?_
      refine RunL.ok (OpOk.move rfl) rfl ?_
      refine RunL.ok (OpOk.idx1 rfl ti5 rfl hrd.left.left.left rfl (by omega) (by omega)) rfl ?_
      refine RunL.ok (OpOk.load rfl rfl rfl (Rd.getBE (by assumption) hrd.left.left.left (by omega))) rfl ?_
      refine RunL.ok (OpOk.convInt rfl rfl rfl (wrapI (by omega) (by omega))) rfl ?_
      refine RunL.ok (OpOk.assign rfl) rfl ?_
      refine RunL.nil ?_
      refine Run.seq ?_
      refine Run.block ?_
      refine Run.seq ?_
      refine Run.region ?_
      refine RunL.ok (OpOk.move rfl) rfl ?_
      refine RunL.ok (OpOk.asT (OpOk.geq rfl rfl) (by omega)) rfl ?_
      refine RunL.ok (OpOk.assign rfl) rfl ?_
      refine RunL.nil ?_
      refine Run.condT rfl ?_
      refine Run.seq ?_
      refine Run.region ?_
      refine RunL.ok (OpOk.assign rfl) rfl ?_
      refine RunL.ok (OpOk.assign rfl) rfl ?_
      refine RunL.nil ?_
      refine Run.ent (Ent.ownNil' _ 66 3 (Fl encT66 []) rfl) ?_
      refine Run.ret2 Try.func49 rfl rfl rfl ?_
      obtain ⟨rfl, rfl⟩ := Prod.mk.inj hdr
      refine ⟨.slice none 0 0, [], J * own 66 3 v6 ys.length (Fl encT66 ys) * ownsE ys, rfl, rfl, ?_⟩
      rw [ownsE_nil, sep_emp]
      simp only [← sep_assoc]
      rfl
    · rcases Decidable.em ((t.toNat : Int) ≤ last) with h5 | h5
      · rw [get_form (by omega) h5, appR_err _ _ (by decide)] at hdr
        refine Run.seq ?_
        refine Run.seq ?_
        refine Run.region ?_
        refine RunL.ok (OpOk.move rfl) rfl ?_
        refine RunL.ok (OpOk.lenR rfl rfl hrd.left.left.left rfl) rfl ?_
        refine RunL.ok (OpOk.asT (OpOk.gtr rfl rfl) (by omega)) rfl ?_
        refine RunL.nil ?_
        refine Run.condT rfl ?_
        refine Run.skip ?_
        refine Run.block ?_
        refine Run.seq ?_
        refine Run.region ?_
        refine RunL.ok (OpOk.move rfl) rfl ?_
        refine RunL.ok (OpOk.idx1 rfl ti5 rfl hrd.left.left.left rfl (by omega) (by omega)) rfl ?_
        refine RunL.ok (OpOk.load rfl rfl rfl (Rd.getBE (by assumption) hrd.left.left.left (by omega))) rfl ?_
        refine RunL.ok (OpOk.convInt rfl rfl rfl (wrapI (by omega) (by omega))) rfl ?_
        refine RunL.ok (OpOk.assign rfl) rfl ?_
        refine RunL.nil ?_
        refine Run.seq ?_
        refine Run.block ?_
        refine Run.seq ?_
        refine Run.region ?_
        refine RunL.ok (OpOk.move rfl) rfl ?_
        refine RunL.ok (OpOk.asF (OpOk.geq rfl rfl) (by omega)) rfl ?_
        refine RunL.ok (OpOk.assign rfl) rfl ?_
        refine RunL.nil ?_
        refine Run.condF rfl ?_
        refine Run.seq ?_
        refine Run.region ?_
        refine RunL.ok (OpOk.move rfl) rfl ?_
        refine RunL.ok (OpOk.move rfl) rfl ?_
        refine RunL.ok (OpOk.asT (OpOk.leq rfl rfl) (by omega)) rfl ?_
        refine RunL.ok (OpOk.assign rfl) rfl ?_
        refine RunL.nil ?_
        refine Run.condT rfl ?_
        refine Run.seq ?_
        refine Run.region ?_
        refine RunL.ok (OpOk.assign rfl) rfl ?_
        refine RunL.ok (OpOk.assign rfl) rfl ?_
        refine RunL.nil ?_
        refine Run.ent (Ent.ownNil' _ 66 3 (Fl encT66 []) rfl) ?_
        refine Run.ret2 Try.func49 rfl rfl rfl ?_
        obtain ⟨rfl, rfl⟩ := Prod.mk.inj hdr
        refine ⟨.slice none 0 0, [], J * own 66 3 v6 ys.length (Fl encT66 ys) * ownsE ys, rfl, rfl, ?_⟩
        rw [ownsE_nil, sep_emp]
        simp only [← sep_assoc]
        rfl
      · cases hbb : b1 with
        | nil =>
          rw [hbb, get_short1 (by omega) (by omega), appR_err _ _ (by decide)] at hdr
          have hbz : b.length = 1 := by rw [hb1, hbb]; rfl
          refine Run.seq ?_
          refine Run.seq ?_
          refine Run.region ?_
          refine RunL.ok (OpOk.move rfl) rfl ?_
          refine RunL.ok (OpOk.lenR rfl rfl hrd.left.left.left rfl) rfl ?_
          refine RunL.ok (OpOk.asT (OpOk.gtr rfl rfl) (by omega)) rfl ?_
          refine RunL.nil ?_
          refine Run.condT rfl ?_
          refine Run.skip ?_
          refine Run.block ?_
          refine Run.seq ?_
          refine Run.region ?_
          refine RunL.ok (OpOk.move rfl) rfl ?_
          refine RunL.ok (OpOk.idx1 rfl ti5 rfl hrd.left.left.left rfl (by omega) (by omega)) rfl ?_
          refine RunL.ok (OpOk.load rfl rfl rfl (Rd.getBE (by assumption) hrd.left.left.left (by omega))) rfl ?_
          refine RunL.ok (OpOk.convInt rfl rfl rfl (wrapI (by omega) (by omega))) rfl ?_
          refine RunL.ok (OpOk.assign rfl) rfl ?_
          refine RunL.nil ?_
          refine Run.seq ?_
          refine Run.block ?_
          refine Run.seq ?_
          refine Run.region ?_
          refine RunL.ok (OpOk.move rfl) rfl ?_
          refine RunL.ok (OpOk.asF (OpOk.geq rfl rfl) (by omega)) rfl ?_
          refine RunL.ok (OpOk.assign rfl) rfl ?_
          refine RunL.nil ?_
          refine Run.condF rfl ?_
          refine Run.seq ?_
          refine Run.region ?_
          refine RunL.ok (OpOk.move rfl) rfl ?_
          refine RunL.ok (OpOk.move rfl) rfl ?_
          refine RunL.ok (OpOk.asF (OpOk.leq rfl rfl) (by omega)) rfl ?_
          refine RunL.ok (OpOk.assign rfl) rfl ?_
          refine RunL.nil ?_
          refine Run.condF rfl ?_
          refine Run.seq ?_
          refine Run.region ?_
          refine RunL.ok (OpOk.move rfl) rfl ?_
          refine RunL.ok (OpOk.lenR rfl rfl hrd.left.left.left rfl) rfl ?_
          refine RunL.ok (OpOk.asT (OpOk.lss rfl rfl) (by omega)) rfl ?_
          refine RunL.ok (OpOk.move rfl) rfl ?_
          refine RunL.off rfl rfl rfl rfl ?_
          refine RunL.off rfl rfl rfl rfl ?_
          refine RunL.off rfl rfl rfl rfl ?_
          refine RunL.off rfl rfl rfl rfl ?_
          refine RunL.off rfl rfl rfl rfl ?_
          refine RunL.off rfl rfl rfl rfl ?_
          refine RunL.off rfl rfl rfl rfl ?_
          refine RunL.off rfl rfl rfl rfl ?_
          refine RunL.ok (OpOk.pickT rfl rfl) rfl ?_
          refine RunL.ok (OpOk.assign rfl) rfl ?_
          refine RunL.nil ?_
          refine Run.condT rfl ?_
          refine Run.seq ?_
          refine Run.region ?_
          refine RunL.ok (OpOk.assign rfl) rfl ?_
          refine RunL.ok (OpOk.assign rfl) rfl ?_
          refine RunL.nil ?_
          refine Run.ent (Ent.ownNil' _ 66 3 (Fl encT66 []) rfl) ?_
          refine Run.ret2 Try.func49 rfl rfl rfl ?_
          obtain ⟨rfl, rfl⟩ := Prod.mk.inj hdr
          refine ⟨.slice none 0 0, [], J * own 66 3 v6 ys.length (Fl encT66 ys) * ownsE ys, rfl, rfl, ?_⟩
          rw [ownsE_nil, sep_emp]
          simp only [← sep_assoc]
          rfl
        | cons l b2 =>
          have hb2 : b.length = b2.length + 2 := by rw [hb1, hbb]; rfl
          have rw_l : b.getD 1 0 = l := by rw [hb, hbb]; rfl
          have hlt := l.toNat_lt
          rw [hbb] at hdr
          rcases Nat.lt_or_ge b2.length l.toNat with h6 | h6
          · rw [get_short (by omega) (by omega) h6, appR_err _ _ (by decide)] at hdr
            refine Run.seq ?_
            refine Run.seq ?_
            refine Run.region ?_
            refine RunL.ok (OpOk.move rfl) rfl ?_
            refine RunL.ok (OpOk.lenR rfl rfl hrd.left.left.left rfl) rfl ?_
            refine RunL.ok (OpOk.asT (OpOk.gtr rfl rfl) (by omega)) rfl ?_
            refine RunL.nil ?_
            refine Run.condT rfl ?_
            refine Run.skip ?_
            refine Run.block ?_
            refine Run.seq ?_
            refine Run.region ?_
            refine RunL.ok (OpOk.move rfl) rfl ?_
            refine RunL.ok (OpOk.idx1 rfl ti5 rfl hrd.left.left.left rfl (by omega) (by omega)) rfl ?_
            refine RunL.ok (OpOk.load rfl rfl rfl (Rd.getBE (by assumption) hrd.left.left.left (by omega))) rfl ?_
            refine RunL.ok (OpOk.convInt rfl rfl rfl (wrapI (by omega) (by omega))) rfl ?_
            refine RunL.ok (OpOk.assign rfl) rfl ?_
            refine RunL.nil ?_
            refine Run.seq ?_
            refine Run.block ?_
            refine Run.seq ?_
            refine Run.region ?_
            refine RunL.ok (OpOk.move rfl) rfl ?_
            refine RunL.ok (OpOk.asF (OpOk.geq rfl rfl) (by omega)) rfl ?_
            refine RunL.ok (OpOk.assign rfl) rfl ?_
            refine RunL.nil ?_
            refine Run.condF rfl ?_
            refine Run.seq ?_
            refine Run.region ?_
            refine RunL.ok (OpOk.move rfl) rfl ?_
            refine RunL.ok (OpOk.move rfl) rfl ?_
            refine RunL.ok (OpOk.asF (OpOk.leq rfl rfl) (by omega)) rfl ?_
            refine RunL.ok (OpOk.assign rfl) rfl ?_
            refine RunL.nil ?_
            refine Run.condF rfl ?_
            refine Run.seq ?_
            refine Run.region ?_
            refine RunL.ok (OpOk.move rfl) rfl ?_
            refine RunL.ok (OpOk.lenR rfl rfl hrd.left.left.left rfl) rfl ?_
            refine RunL.ok (OpOk.asF (OpOk.lss rfl rfl) (by omega)) rfl ?_
            refine RunL.ok (OpOk.move rfl) rfl ?_
            refine RunL.on rfl rfl ?_
            refine RunL.ok (OpOk.move rfl) rfl ?_
            refine RunL.on rfl rfl ?_
            refine RunL.ok (OpOk.lenR rfl rfl hrd.left.left.left rfl) rfl ?_
            refine RunL.on rfl rfl ?_
            refine RunL.ok (OpOk.subN _ 2 rfl rfl rfl rfl (by omega) (by omega)) rfl ?_
            refine RunL.on rfl rfl ?_
            refine RunL.ok (OpOk.move rfl) rfl ?_
            refine RunL.on rfl rfl ?_
            refine RunL.ok (OpOk.idx1 rfl ti5 rfl hrd.left.left.left rfl (by omega) (by omega)) rfl ?_
            refine RunL.on rfl rfl ?_
            refine RunL.ok (OpOk.load rfl rfl rfl (Rd.getBE (by assumption) hrd.left.left.left (by omega))) rfl ?_
            refine RunL.on rfl rfl ?_
            refine RunL.ok (OpOk.convInt rfl rfl rfl (wrapI (by omega) (by omega))) rfl ?_
            refine RunL.on rfl rfl ?_
            refine RunL.ok (OpOk.asT (OpOk.lss rfl rfl) (by omega)) rfl ?_
            refine RunL.ok (OpOk.pickF rfl rfl) rfl ?_
            refine RunL.ok (OpOk.assign rfl) rfl ?_
            refine RunL.nil ?_
            refine Run.condT rfl ?_
            refine Run.seq ?_
            refine Run.region ?_
            refine RunL.ok (OpOk.assign rfl) rfl ?_
            refine RunL.ok (OpOk.assign rfl) rfl ?_
            refine RunL.nil ?_
            refine Run.ent (Ent.ownNil' _ 66 3 (Fl encT66 []) rfl) ?_
            refine Run.ret2 Try.func49 rfl rfl rfl ?_
            obtain ⟨rfl, rfl⟩ := Prod.mk.inj hdr
            refine ⟨.slice none 0 0, [], J * own 66 3 v6 ys.length (Fl encT66 ys) * ownsE ys, rfl, rfl, ?_⟩
            rw [ownsE_nil, sep_emp]
            simp only [← sep_assoc]
            rfl
          · have hdrop : b.drop 2 = b2 := by rw [hb, hbb]; rfl
            have htl : (b2.take l.toNat).length = l.toNat := by rw [List.length_take]; omega
            have rdB : Rd w0 A (cutV v0 2 (2 + l.toNat) 1) 1 (b2.take l.toNat).length (B (b2.take l.toNat)) := by
              have h := Rd.cutB hrd (i := 2) (j := 2 + l.toNat) (by omega) (by omega)
              rw [hdrop, show 2 + l.toNat - 2 = l.toNat by omega] at h
              rw [htl]
              exact h
            have rdR : Rd w0 A (cutV v0 (2 + (b2.take l.toNat).length) b.length 1) 1 (b2.drop l.toNat).length (B (b2.drop l.toNat)) := by
              have h := Rd.cutB hrd (i := 2 + l.toNat) (j := b.length) (by omega) (Nat.le_refl _)
              rw [← List.drop_drop, hdrop, List.take_of_length_le (by rw [List.length_drop]; omega), show b.length - (2 + l.toNat) = (b2.drop l.toNat).length by rw [List.length_drop]; omega] at h
              rw [htl]
              exact h
            have hdl : (b2.drop l.toNat).length = b2.length - l.toNat := List.length_drop
            rcases Decidable.em ((t.toNat : Int) < 128) with h7 | h7
            · rw [get_flat (by omega) (by omega) h6 h7, appR_cons] at hdr
              refine Run.seq ?_
              refine Run.seq ?_
              refine Run.region ?_
              refine RunL.ok (OpOk.move rfl) rfl ?_
              refine RunL.ok (OpOk.lenR rfl rfl hrd.left.left.left rfl) rfl ?_
              refine RunL.ok (OpOk.asT (OpOk.gtr rfl rfl) (by omega)) rfl ?_
              refine RunL.nil ?_
              refine Run.condT rfl ?_
              refine Run.skip ?_
              refine Run.block ?_
              refine Run.seq ?_
              refine Run.region ?_
              refine RunL.ok (OpOk.move rfl) rfl ?_
              refine RunL.ok (OpOk.idx1 rfl ti5 rfl hrd.left.left.left rfl (by omega) (by omega)) rfl ?_
              refine RunL.ok (OpOk.load rfl rfl rfl (Rd.getBE (by assumption) hrd.left.left.left (by omega))) rfl ?_
              refine RunL.ok (OpOk.convInt rfl rfl rfl (wrapI (by omega) (by omega))) rfl ?_
              refine RunL.ok (OpOk.assign rfl) rfl ?_
              refine RunL.nil ?_
              refine Run.seq ?_
              refine Run.block ?_
              refine Run.seq ?_
              refine Run.region ?_
              refine RunL.ok (OpOk.move rfl) rfl ?_
              refine RunL.ok (OpOk.asF (OpOk.geq rfl rfl) (by omega)) rfl ?_
              refine RunL.ok (OpOk.assign rfl) rfl ?_
              refine RunL.nil ?_
              refine Run.condF rfl ?_
              refine Run.seq ?_
              refine Run.region ?_
              refine RunL.ok (OpOk.move rfl) rfl ?_
              refine RunL.ok (OpOk.move rfl) rfl ?_
              refine RunL.ok (OpOk.asF (OpOk.leq rfl rfl) (by omega)) rfl ?_
              refine RunL.ok (OpOk.assign rfl) rfl ?_
              refine RunL.nil ?_
              refine Run.condF rfl ?_
              refine Run.seq ?_
              refine Run.region ?_
              refine RunL.ok (OpOk.move rfl) rfl ?_
              refine RunL.ok (OpOk.lenR rfl rfl hrd.left.left.left rfl) rfl ?_
              refine RunL.ok (OpOk.asF (OpOk.lss rfl rfl) (by omega)) rfl ?_
              refine RunL.ok (OpOk.move rfl) rfl ?_
              refine RunL.on rfl rfl ?_
              refine RunL.ok (OpOk.move rfl) rfl ?_
              refine RunL.on rfl rfl ?_
              refine RunL.ok (OpOk.lenR rfl rfl hrd.left.left.left rfl) rfl ?_
              refine RunL.on rfl rfl ?_
              refine RunL.ok (OpOk.subN _ 2 rfl rfl rfl rfl (by omega) (by omega)) rfl ?_
              refine RunL.on rfl rfl ?_
              refine RunL.ok (OpOk.move rfl) rfl ?_
              refine RunL.on rfl rfl ?_
              refine RunL.ok (OpOk.idx1 rfl ti5 rfl hrd.left.left.left rfl (by omega) (by omega)) rfl ?_
              refine RunL.on rfl rfl ?_
              refine RunL.ok (OpOk.load rfl rfl rfl (Rd.getBE (by assumption) hrd.left.left.left (by omega))) rfl ?_
              refine RunL.on rfl rfl ?_
              refine RunL.ok (OpOk.convInt rfl rfl rfl (wrapI (by omega) (by omega))) rfl ?_
              refine RunL.on rfl rfl ?_
              refine RunL.ok (OpOk.asF (OpOk.lss rfl rfl) (by omega)) rfl ?_
              refine RunL.ok (OpOk.pickF rfl rfl) rfl ?_
              refine RunL.ok (OpOk.assign rfl) rfl ?_
              refine RunL.nil ?_
              refine Run.condF rfl ?_
              refine Run.skip ?_
              refine Run.inBlock ?_
              refine Run.seq ?_
              refine Run.region ?_
              refine RunL.ok (OpOk.move rfl) rfl ?_
              refine RunL.ok (OpOk.build (cells := #[.int (IntKind.i64) (↑t.toNat), .slice (none) (0) (0), .slice (none) (0) (0)]) rfl (fun w => run_build w 66 _ _ (by rfl))) rfl ?_
              refine RunL.alloc ti66 rfl (fun by1 => ?_)
              refine RunL.storeAll ti66 rfl rfl rfl (ones rfl) rfl rfl ?_
              refine RunL.nil ?_
              refine Run.seq ?_
              refine Run.region ?_
              refine RunL.ok (OpOk.move rfl) rfl ?_
              refine RunL.ok (OpOk.move rfl) rfl ?_
              refine RunL.ok (OpOk.idx1 rfl ti5 rfl hrd.left.left.left.left rfl (by omega) (by omega)) rfl ?_
              refine RunL.ok (OpOk.load rfl rfl rfl (Rd.getBE (by assumption) hrd.left.left.left.left (by omega))) rfl ?_
              refine RunL.ok (OpOk.convInt rfl rfl rfl (wrapI (by omega) (by omega))) rfl ?_
              refine RunL.ok (OpOk.addN 2 _ rfl rfl rfl rfl (by omega)) rfl ?_
              refine RunL.ok (OpOk.cut (i := 2) rfl ti5 rfl hrd.left.left.left.left ⟨_, rfl⟩ ⟨_, rfl⟩ (by omega) (by omega)) rfl ?_
              refine RunL.ok (OpOk.assign rfl) rfl ?_
              refine RunL.nil ?_
              refine Run.seq ?_
              refine Run.seq ?_
              refine Run.region ?_
              refine RunL.ok (OpOk.move rfl) rfl ?_
              refine RunL.ok (OpOk.asT (OpOk.lss rfl rfl) (by omega)) rfl ?_
              refine RunL.nil ?_
              refine Run.condT rfl ?_
              refine Run.region ?_
              refine RunL.ok (OpOk.move rfl) rfl ?_
              refine RunL.know (fun w s => (s.conv (frl rfl)).ownsE0) (fun aly2 => ?_)
              refine RunL.call cal42 rfl (s42 rdB.left.left.left.left (by omega)) rfl (fun vy3 Ay3 hy3 => ?_)
              obtain rfl := hy3
              refine RunL.ok (OpOk.fieldAddr fld66_1 rfl) rfl ?_
              refine RunL.know (fun w s => (s.conv rfl).ownRd0) (fun rdy4 => ?_)
              refine RunL.store ti24 rfl rfl (Rd.one rdy4) (frl rfl) (by exact Nat.le_of_ble_eq_true rfl) (.inl rfl) ?_
              refine RunL.nil ?_
              refine Run.seq ?_
              refine Run.region ?_
              refine RunL.ok (OpOk.move rfl) rfl ?_
              refine RunL.ok (OpOk.loadS rfl rfl ti66 rfl Blk.pts rfl) rfl ?_
              have h9 : vy3.oneCell' = true := Rd.one rdy4
              rw [show Value.agg ((Value.agg #[.int .i64 (t.toNat : Int), .slice none 0 0, .slice none 0 0]).cells.toList.set (0 + 1) vy3).toArray = .agg (encT66 ((t.toNat : Int), ⟨vy3, h9⟩, b2.take l.toNat, nilV, Fo.nil)).toArray from rfl]
              refine RunL.litFl (enc := encT66) [(↑t.toNat, ⟨vy3, h9⟩, List.take l.toNat b2, nilV, Fo.nil)] rfl ti66 rfl (fun _ => rfl) rfl rfl (by decide) (by decide) rfl (fun vz1 rdz1 => ?_)
              refine RunL.know (fun w s => (s.conv rfl).ownRd0) (fun rdz3 => ?_)
              refine RunL.appendF rfl ti66 rfl rfl rfl (frl (frl (frl (frl rfl)))) (Rd.right rdz3) rfl (by decide) (by omega) (by simp only [maxLen]; omega) rfl (fun vz2 rdz2 => ?_)
              refine RunL.ok (OpOk.assign rfl) rfl ?_
              refine RunL.nil ?_
              refine Run.know (fun w s => (s.conv rfl).ownRd0) (fun rdz4 => ?_)
              refine Run.drop [7] ?_
              (apply Run.drawD [7] (by rfl) (sep_emp _).symm; case hchk => kernel_rfl)
              refine Sd.quiet 0 _ _ rfl rfl rfl rfl rfl (QOp.ok (fun X => OpOk.move rfl)) ?_
              refine Sd.quiet 1 _ _ rfl rfl rfl rfl rfl (QOp.ok (fun X => OpOk.move rfl)) ?_
              refine Sd.quiet 2 _ _ rfl rfl rfl rfl rfl (QOp.ok (fun X => OpOk.move rfl)) ?_
              refine Sd.quiet 6 _ _ rfl rfl rfl rfl rfl (QOp.ok (fun X => OpOk.assign rfl)) ?_
              (refine Sd.exec 3 rfl rfl rfl rfl rfl ?hrest (by rfl) (fun Xz5 Kz5 hKz5 => ?_); case hrest => kernel_rfl)
              refine RunL.mem (fl2 (sep_emp _) (sep_emp _)) ?_
              refine RunL.ok (OpOk.lenR rfl rfl rdB.left.left.left.left.left.left.left rfl) rfl ?_
              refine Sd.ret hKz5 (Eq.trans rfl (gp2 (sep_emp _).symm (sep_emp _).symm)) ⟨emp, (sep_emp _).symm⟩ ?_
              refine Sd.quiet 4 _ _ rfl rfl rfl rfl rfl (QOp.ok (fun X => OpOk.addN 2 _ rfl rfl rfl rfl (by omega))) ?_
              refine Sd.quiet 5 _ _ rfl rfl rfl rfl rfl (QOp.ok (fun X => OpOk.cut rfl ti5 rfl hrd.left.left.left.left.left.left.left.left ⟨_, rfl⟩ rfl (by omega) (by omega))) ?_
              (apply Sd.tail; case hall => kernel_rfl)
              refine RunL.mem (fl2 (sep_emp _) (sep_emp _)) ?_
              refine RunL.ok (OpOk.assign rfl) rfl ?_
              refine RunL.nil ?_
              refine Run.inBlock ?_
              rw [show ys.length + 1 = (ys ++ [(((t.toNat : Int), ⟨vy3, h9⟩, b2.take l.toNat, nilV, Fo.nil) : Ee)]).length by simp]
              refine Run.ent (Ent.ownNil' _ 66 3 (Fl encT66 ([] : List Ee)) rfl) ?_
              refine Run.mem (sep_emp _).symm ?_
              rw [show emp = ownsE (top .nil) from rfl]
              refine Run.jump ((ih (b2.drop l.toNat, cutV v0 (2 + (b2.take l.toNat).length) b.length 1, _, _, ys ++ [(((t.toNat : Int), ⟨vy3, h9⟩, b2.take l.toNat, nilV, Fo.nil) : Ee)], (t.toNat : Int)) ⟨by dsimp only; omega, rdR, by dsimp only; rw [strL_append, hg0]; exact hdr, by simp; omega, by dsimp only; omega, by dsimp only; omega⟩ (by dsimp only; omega))) ⟨rfl, rfl, rfl, rfl, trivial⟩ (by simp only [ownsE_snoc, ← sep_assoc]; exact (Grew.of (Eq.trans (frc rfl (frc rfl (frc (frl (frl (frl rfl))) (frc (frl (frl (frl rfl))) rfl)))) (congrArg (· * _) (congrArg (· * _) (congrArg (· * _) (congrArg (· * _) (congrArg (· * _) (asg (asg as1)))))))) (Grew.refl _)))
            · rw [get_built (by omega) (by omega) h6 h7] at hdr
              have hrec : Cget w0 (n - 1) := hall (n - 1) (by omega)
              rcases hs : get (b2.take l.toNat) (d + 1) 0 with ⟨f2, e2⟩
              rw [hs] at hdr
              dsimp only at hdr
              rcases Decidable.em (e2 = 0) with he2 | he2
              · subst he2
                rw [if_pos rfl, appR_cons] at hdr
                refine Run.seq ?_
                refine Run.seq ?_
                refine Run.region ?_
                refine RunL.ok (OpOk.move rfl) rfl ?_
                refine RunL.ok (OpOk.lenR rfl rfl hrd.left.left.left rfl) rfl ?_
                refine RunL.ok (OpOk.asT (OpOk.gtr rfl rfl) (by omega)) rfl ?_
                refine RunL.nil ?_
                refine Run.condT rfl ?_
                refine Run.skip ?_
                refine Run.block ?_
                refine Run.seq ?_
                refine Run.region ?_
                refine RunL.ok (OpOk.move rfl) rfl ?_
                refine RunL.ok (OpOk.idx1 rfl ti5 rfl hrd.left.left.left rfl (by omega) (by omega)) rfl ?_
                refine RunL.ok (OpOk.load rfl rfl rfl (Rd.getBE (by assumption) hrd.left.left.left (by omega))) rfl ?_
                refine RunL.ok (OpOk.convInt rfl rfl rfl (wrapI (by omega) (by omega))) rfl ?_
                refine RunL.ok (OpOk.assign rfl) rfl ?_
                refine RunL.nil ?_
                refine Run.seq ?_
                refine Run.block ?_
                refine Run.seq ?_
                refine Run.region ?_
                refine RunL.ok (OpOk.move rfl) rfl ?_
                refine RunL.ok (OpOk.asF (OpOk.geq rfl rfl) (by omega)) rfl ?_
                refine RunL.ok (OpOk.assign rfl) rfl ?_
                refine RunL.nil ?_
                refine Run.condF rfl ?_
                refine Run.seq ?_
                refine Run.region ?_
                refine RunL.ok (OpOk.move rfl) rfl ?_
                refine RunL.ok (OpOk.move rfl) rfl ?_
                refine RunL.ok (OpOk.asF (OpOk.leq rfl rfl) (by omega)) rfl ?_
                refine RunL.ok (OpOk.assign rfl) rfl ?_
                refine RunL.nil ?_
                refine Run.condF rfl ?_
                refine Run.seq ?_
                refine Run.region ?_
                refine RunL.ok (OpOk.move rfl) rfl ?_
                refine RunL.ok (OpOk.lenR rfl rfl hrd.left.left.left rfl) rfl ?_
                refine RunL.ok (OpOk.asF (OpOk.lss rfl rfl) (by omega)) rfl ?_
                refine RunL.ok (OpOk.move rfl) rfl ?_
                refine RunL.on rfl rfl ?_
                refine RunL.ok (OpOk.move rfl) rfl ?_
                refine RunL.on rfl rfl ?_
                refine RunL.ok (OpOk.lenR rfl rfl hrd.left.left.left rfl) rfl ?_
                refine RunL.on rfl rfl ?_
                refine RunL.ok (OpOk.subN _ 2 rfl rfl rfl rfl (by omega) (by omega)) rfl ?_
                refine RunL.on rfl rfl ?_
                refine RunL.ok (OpOk.move rfl) rfl ?_
                refine RunL.on rfl rfl ?_
                refine RunL.ok (OpOk.idx1 rfl ti5 rfl hrd.left.left.left rfl (by omega) (by omega)) rfl ?_
                refine RunL.on rfl rfl ?_
                refine RunL.ok (OpOk.load rfl rfl rfl (Rd.getBE (by assumption) hrd.left.left.left (by omega))) rfl ?_
                refine RunL.on rfl rfl ?_
                refine RunL.ok (OpOk.convInt rfl rfl rfl (wrapI (by omega) (by omega))) rfl ?_
                refine RunL.on rfl rfl ?_
                refine RunL.ok (OpOk.asF (OpOk.lss rfl rfl) (by omega)) rfl ?_
                refine RunL.ok (OpOk.pickF rfl rfl) rfl ?_
                refine RunL.ok (OpOk.assign rfl) rfl ?_
                refine RunL.nil ?_
                refine Run.condF rfl ?_
                refine Run.skip ?_
                refine Run.inBlock ?_
                refine Run.seq ?_
                refine Run.region ?_
                refine RunL.ok (OpOk.move rfl) rfl ?_
                refine RunL.ok (OpOk.build (cells := #[.int (IntKind.i64) (↑t.toNat), .slice (none) (0) (0), .slice (none) (0) (0)]) rfl (fun w => run_build w 66 _ _ (by rfl))) rfl ?_
                refine RunL.alloc ti66 rfl (fun by1 => ?_)
                refine RunL.storeAll ti66 rfl rfl rfl (ones rfl) rfl rfl ?_
                refine RunL.nil ?_
                refine Run.seq ?_
                refine Run.region ?_
                refine RunL.ok (OpOk.move rfl) rfl ?_
                refine RunL.ok (OpOk.move rfl) rfl ?_
                refine RunL.ok (OpOk.idx1 rfl ti5 rfl hrd.left.left.left.left rfl (by omega) (by omega)) rfl ?_
                refine RunL.ok (OpOk.load rfl rfl rfl (Rd.getBE (by assumption) hrd.left.left.left.left (by omega))) rfl ?_
                refine RunL.ok (OpOk.convInt rfl rfl rfl (wrapI (by omega) (by omega))) rfl ?_
                refine RunL.ok (OpOk.addN 2 _ rfl rfl rfl rfl (by omega)) rfl ?_
                refine RunL.ok (OpOk.cut (i := 2) rfl ti5 rfl hrd.left.left.left.left ⟨_, rfl⟩ ⟨_, rfl⟩ (by omega) (by omega)) rfl ?_
                refine RunL.ok (OpOk.assign rfl) rfl ?_
                refine RunL.nil ?_
                refine Run.seq ?_
                refine Run.seq ?_
                refine Run.region ?_
                refine RunL.ok (OpOk.move rfl) rfl ?_
                refine RunL.ok (OpOk.asF (OpOk.lss rfl rfl) (by omega)) rfl ?_
                refine RunL.nil ?_
                refine Run.condF rfl ?_
                refine Run.seq ?_
                refine Run.region ?_
                refine RunL.ok (OpOk.move rfl) rfl ?_
                refine RunL.ok (OpOk.move rfl) rfl ?_
                refine RunL.ok (OpOk.addN _ 1 rfl rfl rfl rfl (by omega)) rfl ?_
                refine RunL.know (fun w s => (s.conv (frl rfl)).ownsE0) (fun aly2 => ?_)
                refine RunL.call cal49 rfl (s49 rdB.left.left.left.left (by assumption) (by assumption) (by omega) (by omega) (by omega)) rfl (fun vy3 Ay3 hy3 => ?_)
                obtain ⟨y4, ⟨y5, ⟨y6, ⟨rfl, ⟨y7, rfl⟩⟩⟩⟩⟩ := hy3
                refine RunL.ok (OpOk.move rfl) rfl ?_
                refine RunL.ok (OpOk.ext20 rfl) rfl ?_
                refine RunL.ok (OpOk.ext21 rfl) rfl ?_
                refine RunL.ok (OpOk.assign rfl) rfl ?_
                refine RunL.ok (OpOk.assign rfl) rfl ?_
                refine RunL.nil ?_
                refine Run.seq ?_
                refine Run.seq ?_
                refine Run.region ?_
                refine RunL.ok (OpOk.move rfl) rfl ?_
                refine RunL.ok (OpOk.as (c := false) (OpOk.neq rfl rfl) (by rw [decide_eq_true (by omega)]; rfl)) rfl ?_
                refine RunL.nil ?_
                refine Run.condF rfl ?_
                refine Run.skip ?_
                refine Run.region ?_
                refine RunL.ok (OpOk.move rfl) rfl ?_
                refine RunL.ok (OpOk.fieldAddr fld66_2 rfl) rfl ?_
                refine RunL.know (fun w s => (s.conv (frl rfl)).ownRd0) (fun rdy8 => ?_)
                refine RunL.store ti50 rfl rfl (Rd.one rdy8) (frl (frl (frl rfl))) (by exact Nat.le_of_ble_eq_true rfl) (.inl rfl) ?_
                refine RunL.nil ?_
                refine Run.seq ?_
                refine Run.region ?_
                refine RunL.ok (OpOk.move rfl) rfl ?_
                refine RunL.ok (OpOk.loadS rfl rfl ti66 rfl Blk.pts rfl) rfl ?_
                obtain ⟨fo, rfl⟩ : ∃ fo, y5 = top fo := ⟨untop y5, (top_untop _).symm⟩
                have h9 : y4.oneCell' = true := Rd.one rdy8
                rw [strL_top] at y7
                rw [show Value.agg ((Value.agg #[.int .i64 (t.toNat : Int), .slice none 0 0, .slice none 0 0]).cells.toList.set (0 + 2) y4).toArray = .agg (encT66 ((t.toNat : Int), nilV, [], ⟨y4, h9⟩, fo)).toArray from rfl]
                refine RunL.litFl (enc := encT66) [(↑t.toNat, nilV, [], ⟨y4, h9⟩, fo)] rfl ti66 rfl (fun _ => rfl) rfl rfl (by decide) (by decide) rfl (fun vz1 rdz1 => ?_)
                refine RunL.know (fun w s => (s.conv rfl).ownRd0) (fun rdz3 => ?_)
                refine RunL.appendF rfl ti66 rfl rfl rfl (frl (frl (frl (frl (frl (frl rfl)))))) (Rd.right rdz3) rfl (by decide) (by omega) (by simp only [maxLen]; omega) rfl (fun vz2 rdz2 => ?_)
                refine RunL.ok (OpOk.assign rfl) rfl ?_
                refine RunL.nil ?_
                refine Run.know (fun w s => (s.conv rfl).ownRd0) (fun rdz4 => ?_)
                refine Run.drop [7] ?_
                (apply Run.drawD [7] (by rfl) (sep_emp _).symm; case hchk => kernel_rfl)
                refine Sd.quiet 0 _ _ rfl rfl rfl rfl rfl (QOp.ok (fun X => OpOk.move rfl)) ?_
                refine Sd.quiet 1 _ _ rfl rfl rfl rfl rfl (QOp.ok (fun X => OpOk.move rfl)) ?_
                refine Sd.quiet 2 _ _ rfl rfl rfl rfl rfl (QOp.ok (fun X => OpOk.move rfl)) ?_
                refine Sd.quiet 6 _ _ rfl rfl rfl rfl rfl (QOp.ok (fun X => OpOk.assign rfl)) ?_
                (refine Sd.exec 3 rfl rfl rfl rfl rfl ?hrest (by rfl) (fun Xz5 Kz5 hKz5 => ?_); case hrest => kernel_rfl)
                refine RunL.mem (fl2 (sep_emp _) (sep_emp _)) ?_
                refine RunL.ok (OpOk.lenR rfl rfl rdB.left.left.left.left.left.left.left.left.left rfl) rfl ?_
                refine Sd.ret hKz5 (Eq.trans rfl (gp2 (sep_emp _).symm (sep_emp _).symm)) ⟨emp, (sep_emp _).symm⟩ ?_
                refine Sd.quiet 4 _ _ rfl rfl rfl rfl rfl (QOp.ok (fun X => OpOk.addN 2 _ rfl rfl rfl rfl (by omega))) ?_
                refine Sd.quiet 5 _ _ rfl rfl rfl rfl rfl (QOp.ok (fun X => OpOk.cut rfl ti5 rfl hrd.left.left.left.left.left.left.left.left.left.left ⟨_, rfl⟩ rfl (by omega) (by omega))) ?_
                (apply Sd.tail; case hall => kernel_rfl)
                refine RunL.mem (fl2 (sep_emp _) (sep_emp _)) ?_
                refine RunL.ok (OpOk.assign rfl) rfl ?_
                refine RunL.nil ?_
                refine Run.inBlock ?_
                rw [show ys.length + 1 = (ys ++ [(((t.toNat : Int), nilV, [], ⟨y4, h9⟩, fo) : Ee)]).length by simp]
                refine Run.ent (Ent.ownNil' _ 5 1 (B []) rfl) ?_
                refine Run.jump ((ih (b2.drop l.toNat, cutV v0 (2 + (b2.take l.toNat).length) b.length 1, _, _, ys ++ [(((t.toNat : Int), nilV, [], ⟨y4, h9⟩, fo) : Ee)], (t.toNat : Int)) ⟨by dsimp only; omega, rdR, by dsimp only; rw [strL_append, hg0, strL, y7]; exact hdr, by simp; omega, by dsimp only; omega, by dsimp only; omega⟩ (by dsimp only; omega))) ⟨rfl, rfl, rfl, rfl, trivial⟩ (by simp only [ownsE_snoc, ← sep_assoc]; exact (Grew.of (Eq.trans (frc (frl (frl (frl (frl rfl)))) (frc (frl (frl (frl (frl rfl)))) (frc rfl (frc (frl (frl (frl (frl rfl)))) rfl)))) (congrArg (· * _) (congrArg (· * _) (congrArg (· * _) (congrArg (· * _) (congrArg (· * _) (asg (asg (asg as1))))))))) (Grew.refl _)))
              · rw [if_neg he2, appR_err _ _ he2] at hdr
                refine Run.seq ?_
                refine Run.seq ?_
                refine Run.region ?_
                refine RunL.ok (OpOk.move rfl) rfl ?_
                refine RunL.ok (OpOk.lenR rfl rfl hrd.left.left.left rfl) rfl ?_
                refine RunL.ok (OpOk.asT (OpOk.gtr rfl rfl) (by omega)) rfl ?_
                refine RunL.nil ?_
                refine Run.condT rfl ?_
                refine Run.skip ?_
                refine Run.block ?_
                refine Run.seq ?_
                refine Run.region ?_
                refine RunL.ok (OpOk.move rfl) rfl ?_
                refine RunL.ok (OpOk.idx1 rfl ti5 rfl hrd.left.left.left rfl (by omega) (by omega)) rfl ?_
                refine RunL.ok (OpOk.load rfl rfl rfl (Rd.getBE (by assumption) hrd.left.left.left (by omega))) rfl ?_
                refine RunL.ok (OpOk.convInt rfl rfl rfl (wrapI (by omega) (by omega))) rfl ?_
                refine RunL.ok (OpOk.assign rfl) rfl ?_
                refine RunL.nil ?_
                refine Run.seq ?_
                refine Run.block ?_
                refine Run.seq ?_
                refine Run.region ?_
                refine RunL.ok (OpOk.move rfl) rfl ?_
                refine RunL.ok (OpOk.asF (OpOk.geq rfl rfl) (by omega)) rfl ?_
                refine RunL.ok (OpOk.assign rfl) rfl ?_
                refine RunL.nil ?_
                refine Run.condF rfl ?_
                refine Run.seq ?_
                refine Run.region ?_
                refine RunL.ok (OpOk.move rfl) rfl ?_
                refine RunL.ok (OpOk.move rfl) rfl ?_
                refine RunL.ok (OpOk.asF (OpOk.leq rfl rfl) (by omega)) rfl ?_
                refine RunL.ok (OpOk.assign rfl) rfl ?_
                refine RunL.nil ?_
                refine Run.condF rfl ?_
                refine Run.seq ?_
                refine Run.region ?_
                refine RunL.ok (OpOk.move rfl) rfl ?_
                refine RunL.ok (OpOk.lenR rfl rfl hrd.left.left.left rfl) rfl ?_
                refine RunL.ok (OpOk.asF (OpOk.lss rfl rfl) (by omega)) rfl ?_
                refine RunL.ok (OpOk.move rfl) rfl ?_
                refine RunL.on rfl rfl ?_
                refine RunL.ok (OpOk.move rfl) rfl ?_
                refine RunL.on rfl rfl ?_
                refine RunL.ok (OpOk.lenR rfl rfl hrd.left.left.left rfl) rfl ?_
                refine RunL.on rfl rfl ?_
                refine RunL.ok (OpOk.subN _ 2 rfl rfl rfl rfl (by omega) (by omega)) rfl ?_
                refine RunL.on rfl rfl ?_
                refine RunL.ok (OpOk.move rfl) rfl ?_
                refine RunL.on rfl rfl ?_
                refine RunL.ok (OpOk.idx1 rfl ti5 rfl hrd.left.left.left rfl (by omega) (by omega)) rfl ?_
                refine RunL.on rfl rfl ?_
                refine RunL.ok (OpOk.load rfl rfl rfl (Rd.getBE (by assumption) hrd.left.left.left (by omega))) rfl ?_
                refine RunL.on rfl rfl ?_
                refine RunL.ok (OpOk.convInt rfl rfl rfl (wrapI (by omega) (by omega))) rfl ?_
                refine RunL.on rfl rfl ?_
                refine RunL.ok (OpOk.asF (OpOk.lss rfl rfl) (by omega)) rfl ?_
                refine RunL.ok (OpOk.pickF rfl rfl) rfl ?_
                refine RunL.ok (OpOk.assign rfl) rfl ?_
                refine RunL.nil ?_
                refine Run.condF rfl ?_
                refine Run.skip ?_
                refine Run.inBlock ?_
                refine Run.seq ?_
                refine Run.region ?_
                refine RunL.ok (OpOk.move rfl) rfl ?_
                refine RunL.ok (OpOk.build (cells := #[.int (IntKind.i64) (↑t.toNat), .slice (none) (0) (0), .slice (none) (0) (0)]) rfl (fun w => run_build w 66 _ _ (by rfl))) rfl ?_
                refine RunL.alloc ti66 rfl (fun by1 => ?_)
                refine RunL.storeAll ti66 rfl rfl rfl (ones rfl) rfl rfl ?_
                refine RunL.nil ?_
                refine Run.seq ?_
                refine Run.region ?_
                refine RunL.ok (OpOk.move rfl) rfl ?_
                refine RunL.ok (OpOk.move rfl) rfl ?_
                refine RunL.ok (OpOk.idx1 rfl ti5 rfl hrd.left.left.left.left rfl (by omega) (by omega)) rfl ?_
                refine RunL.ok (OpOk.load rfl rfl rfl (Rd.getBE (by assumption) hrd.left.left.left.left (by omega))) rfl ?_
                refine RunL.ok (OpOk.convInt rfl rfl rfl (wrapI (by omega) (by omega))) rfl ?_
                refine RunL.ok (OpOk.addN 2 _ rfl rfl rfl rfl (by omega)) rfl ?_
                refine RunL.ok (OpOk.cut (i := 2) rfl ti5 rfl hrd.left.left.left.left ⟨_, rfl⟩ ⟨_, rfl⟩ (by omega) (by omega)) rfl ?_
                refine RunL.ok (OpOk.assign rfl) rfl ?_
                refine RunL.nil ?_
                refine Run.seq ?_
                refine Run.seq ?_
                refine Run.region ?_
                refine RunL.ok (OpOk.move rfl) rfl ?_
                refine RunL.ok (OpOk.asF (OpOk.lss rfl rfl) (by omega)) rfl ?_
                refine RunL.nil ?_
                refine Run.condF rfl ?_
                refine Run.seq ?_
                refine Run.region ?_
                refine RunL.ok (OpOk.move rfl) rfl ?_
                refine RunL.ok (OpOk.move rfl) rfl ?_
                refine RunL.ok (OpOk.addN _ 1 rfl rfl rfl rfl (by omega)) rfl ?_
                refine RunL.know (fun w s => (s.conv (frl rfl)).ownsE0) (fun aly2 => ?_)
                refine RunL.call cal49 rfl (s49 rdB.left.left.left.left (by assumption) (by assumption) (by omega) (by omega) (by omega)) rfl (fun vy3 Ay3 hy3 => ?_)
                obtain ⟨y4, ⟨y5, ⟨y6, ⟨rfl, ⟨y7, rfl⟩⟩⟩⟩⟩ := hy3
                refine RunL.ok (OpOk.move rfl) rfl ?_
                refine RunL.ok (OpOk.ext20 rfl) rfl ?_
                refine RunL.ok (OpOk.ext21 rfl) rfl ?_
                refine RunL.ok (OpOk.assign rfl) rfl ?_
                refine RunL.ok (OpOk.assign rfl) rfl ?_
                refine RunL.nil ?_
                refine Run.seq ?_
                refine Run.seq ?_
                refine Run.region ?_
                refine RunL.ok (OpOk.move rfl) rfl ?_
                refine RunL.ok (OpOk.as (c := true) (OpOk.neq rfl rfl) (by rw [decide_eq_false (by omega)]; rfl)) rfl ?_
                refine RunL.nil ?_
                refine Run.condT rfl ?_
                refine Run.seq ?_
                refine Run.region ?_
                refine RunL.ok (OpOk.move rfl) rfl ?_
                refine RunL.ok (OpOk.assign rfl) rfl ?_
                refine RunL.ok (OpOk.assign rfl) rfl ?_
                refine RunL.nil ?_
                refine Run.ent (Ent.ownNil' _ 66 3 (Fl encT66 []) rfl) ?_
                refine Run.ret2 Try.func49 rfl rfl rfl ?_
                obtain ⟨rfl, rfl⟩ := Prod.mk.inj hdr
                refine ⟨.slice none 0 0, [], J * own 66 3 v6 ys.length (Fl encT66 ys) * ownsE ys * pts by1 (.cells (Value.agg #[.int .i64 (t.toNat : Int), .slice none 0 0, .slice none 0 0]).cells 66 (0, 0)) * y6 * own 66 3 y4 y5.length (Fl encT66 y5) * ownsE y5, rfl, rfl, ?_⟩
                rw [ownsE_nil, sep_emp]
                simp only [← sep_assoc]
                rfl
end
end Go.Proofs.Ytlheianbmpgefaa
