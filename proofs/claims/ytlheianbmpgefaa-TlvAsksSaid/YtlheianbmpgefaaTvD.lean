/- The form of elements. -/
import Derived.Test.YtlheianbmpgefaaTvC
namespace Go.Proofs.Ytlheianbmpgefaa
open Go Go.Proofs
set_option maxRecDepth 100000
set_option maxHeartbeats 4000000
set_option linter.unusedSimpArgs false
def bodyT (t : Int) (bs b : List UInt8) : List UInt8 := if t < 128 then bs else b
def rowT (t : Int) (body : List UInt8) : List UInt8 := UInt8.ofNat t.toNat :: UInt8.ofNat body.length :: body
def layT : Te → Option (List UInt8)
  | .nil => some []
  | .cons t bs f r => match layT f with
    | none => none
    | some b => if 255 < (bodyT t bs b).length then none else (layT r).map fun c => rowT t (bodyT t bs b) ++ c
theorem layT_none {t : Int} {bs : List UInt8} {f r : Te} (h : layT f = none) : layT (.cons t bs f r) = none := by rw [layT, h]
theorem layT_long {t : Int} {bs b : List UInt8} {f r : Te} (h : layT f = some b) (h2 : 255 < (bodyT t bs b).length) : layT (.cons t bs f r) = none := by rw [layT, h]; exact if_pos h2
theorem layT_some {t : Int} {bs b : List UInt8} {f r : Te} (h : layT f = some b) (h2 : ¬ 255 < (bodyT t bs b).length) : layT (.cons t bs f r) = (layT r).map fun c => rowT t (bodyT t bs b) ++ c := by rw [layT, h]; exact if_neg h2
def layR (A : Asn) (v' : Value) (A' : Asn) : Option (List UInt8) → Prop
  | some out => ∃ v J, v' = .tuple #[v, .bool true] ∧ A' = A * J * own 5 1 v out.length (B out)
  | none => ∃ J, v' = .tuple #[.slice none 0 0, .bool false] ∧ A' = A * J
def Clay (w0 : World) (n : Nat) : Prop := ∀ (A : Asn) (u : Value) (m : Nat) (xs : List Ee), dpT (strL xs) ≤ n → rightT (strL xs) 0 = true → Rd w0 A u 3 m (Fl encT66 xs) → Alls (GE w0) A xs →
  Spec Try.prog w0 45 [u] A (fun v' A' => layR A v' A' (layT (strL xs)))
theorem B_two (acc : List UInt8) {t : Int} {k : Nat} (h1 : 0 ≤ t) (h2 : t ≤ 255) (h3 : k ≤ 255) : B acc ++ [.int .u8 t, .int .u8 (k : Int)] = B (acc ++ [UInt8.ofNat t.toNat, UInt8.ofNat k]) := by
  simp only [B, List.map_append, List.map_cons, List.map_nil, UInt8.toNat_ofNat']
  rw [Nat.mod_eq_of_lt (show t.toNat < 2 ^ 8 by omega), Nat.mod_eq_of_lt (show k < 2 ^ 8 by omega), show ((t.toNat : Nat) : Int) = t by omega]
theorem map_row {acc body : List UInt8} {t : Int} {o : Option (List UInt8)} : o.map ((fun c => acc ++ c) ∘ fun c => rowT t body ++ c) = o.map fun c => (acc ++ [UInt8.ofNat t.toNat, UInt8.ofNat body.length] ++ body) ++ c := by
  cases o <;> simp [rowT]
section
variable {w0 : World} {A : Asn} {n : Nat}
theorem s45a {u : Value} {m : Nat} {xs : List Ee} {out : List UInt8} (rd : Rd w0 A u 3 m (Fl encT66 xs)) (al : Alls (GE w0) A xs) (hl : layT (strL xs) = some out) (hrec : Clay w0 n) (hsz : dpT (strL xs) ≤ n) (hr : rightT (strL xs) 0 = true) :
    Spec Try.prog w0 45 [u] A (fun v' A' => ∃ v J, v' = .tuple #[v, .bool true] ∧ A' = A * J * own 5 1 v out.length (B out)) :=
  (hrec A u m xs hsz hr rd al).mono fun v' A' h => by rw [hl] at h; exact h
theorem s45b {u : Value} {m : Nat} {xs : List Ee} (rd : Rd w0 A u 3 m (Fl encT66 xs)) (al : Alls (GE w0) A xs) (hl : layT (strL xs) = none) (hrec : Clay w0 n) (hsz : dpT (strL xs) ≤ n) (hr : rightT (strL xs) 0 = true) :
    Spec Try.prog w0 45 [u] A (fun v' A' => ∃ J, v' = .tuple #[.slice none 0 0, .bool false] ∧ A' = A * J) :=
  (hrec A u m xs hsz hr rd al).mono fun v' A' h => by rw [hl] at h; exact h
theorem layAll : ∀ n, Clay w0 n := fun n => by
  induction n using Nat.strongRecOn with
  | ind n hall =>
  intro A u m xs hsz hr rd al
  have hl := rd.lenFl (fun _ => rfl) (by decide)
  subst hl
  have hmx := rd.max
  refine Spec.of_run [(0, u)] Try.func45 rfl (Nat.le_of_ble_eq_true rfl) (by repeat (first | exact trivial | refine ⟨rfl, ?_⟩)) ?_
  refine Run.seq ?_
  refine Run.region ?_
  refine RunL.ok (OpOk.assign rfl) rfl ?_
  refine RunL.ok (OpOk.assign rfl) rfl ?_
  refine RunL.nil ?_
  refine Run.seq ?_
  refine Run.region ?_
  refine RunL.ok (OpOk.assign rfl) rfl ?_
  refine RunL.nil ?_
  refine Run.seq ?_
  refine Run.seq ?_
  refine Run.region ?_
  refine RunL.ok (OpOk.move rfl) rfl ?_
  refine RunL.ok (OpOk.lenR rfl rfl rd rfl) rfl ?_
  refine RunL.ok (OpOk.move rfl) rfl ?_
  refine RunL.nil ?_
  refine Run.block ?_
  refine Run.ent (Ent.ownNil' _ 5 1 (B []) rfl) ?_
  refine Run.jump ((Run.loopJ (X := Nat × Asn × Value × List UInt8 × Int) (fun x => [(11, .int .i64 (x.1 : Int)), (10, .int .i64 (xs.length : Int)), (9, u), (4, x.2.2.1)]) (fun x => A * x.2.1 * own 5 1 x.2.2.1 x.2.2.2.1.length (B x.2.2.2.1)) (fun x => x.1 ≤ xs.length ∧ layT (strL xs) = (layT (strL (xs.drop x.1))).map (fun c => x.2.2.2.1 ++ c) ∧ rightT (strL (xs.drop x.1)) x.2.2.2.2 = true ∧ 0 ≤ x.2.2.2.2 ∧ x.2.2.2.2 ≤ 255 ∧ (x.2.2.2.1.length : Int) ≤ 257 * x.2.2.2.2) (fun x => xs.length - x.1) (0, _, .slice none 0 0, [], 0) ⟨Nat.zero_le _, by simp, hr, Int.le_refl _, by dsimp only; omega, by simp⟩ (fun x hx ih => ?_))) ⟨rfl, rfl, rfl, rfl, trivial⟩ (Grew.of (Eq.trans (frc rfl rfl) (congrArg (· * _) as0)) (Grew.refl _))
  obtain ⟨i, J, v4, acc, last⟩ := x
  simp only at hx ih ⊢
  obtain ⟨hi, hdr, hri, hl0, hl1, hal⟩ := hx
  rcases Nat.lt_or_ge i xs.length with hlt | hge
  · have hg := al.get hlt
    obtain ⟨o, hoe⟩ : ∃ o, xs.getD i default = o := ⟨_, rfl⟩
    rw [hoe] at hg
    obtain ⟨t, bv, bs, ev, f⟩ := o
    obtain ⟨hgb, hgr, hgf⟩ := hg
    have hga := GFo.alls hgf
    dsimp only at hgb hgr hga
    have hdp := dpT_at hlt hoe
    have hrec : Clay w0 (n - 1) := hall (n - 1) (by omega)
    rw [strL_drop hlt hoe, rightT, lenT_strip, ← strL_top, Bool.and_eq_true, Bool.and_eq_true, decide_eq_true_eq] at hri
    rw [strL_drop hlt hoe, ← strL_top] at hdr
    obtain ⟨⟨⟨ht1, ht2, ht3, ht4⟩, hrs⟩, hrr⟩ := hri
    cases hlf : layT (strL (top f)) with
    | none =>
      rw [layT_none hlf, Option.map_none] at hdr
      refine Run.seq ?_
      refine Run.region ?_
      refine RunL.ok (OpOk.asT (OpOk.lss rfl rfl) (by omega)) rfl ?_
      refine RunL.nil ?_
      refine Run.seq ?_
      refine Run.condT rfl ?_
      refine Run.skip ?_
      refine Run.seq ?_
      refine Run.block ?_
      refine Run.seq ?_
      refine Run.region ?_
      refine RunL.ok (OpOk.idxN rfl ti66 rfl rd.left.left rfl (by omega)) rfl ?_
      refine RunL.ok (OpOk.loadFlE (by assumption) rfl rfl ti66 rfl rd.left.left (fun _ => rfl) rfl (by omega)) rfl ?_
      refine RunL.alloc ti66 rfl (fun by1 => ?_)
      refine RunL.storeAll ti66 rfl rfl rfl (fun w hw => OneC.one (enc := encT66) ((t, bv, bs, ev, f)) w hw) rfl rfl ?_
      refine RunL.nil ?_
      refine Run.seq ?_
      refine Run.region ?_
      refine RunL.ok (OpOk.fieldAddr fld66_2 rfl) rfl ?_
      refine RunL.ok (OpOk.load rfl rfl rfl (Blk.out Blk.pts _ _ (by first | rfl | assumption))) rfl ?_
      refine RunL.call cal45 rfl (s45b hgr.left.left.left hga.left.left.left (by assumption) (by assumption) (by omega) (by assumption)) rfl (fun vy3 Ay3 hy3 => ?_)
      obtain ⟨y4, ⟨rfl, rfl⟩⟩ := hy3
      refine RunL.ok (OpOk.move rfl) rfl ?_
      refine RunL.ok (OpOk.ext20 rfl) rfl ?_
      refine RunL.ok (OpOk.ext21 rfl) rfl ?_
      refine RunL.ok (OpOk.assign rfl) rfl ?_
      refine RunL.ok (OpOk.assign rfl) rfl ?_
      refine RunL.nil ?_
      refine Run.seq ?_
      refine Run.seq ?_
      refine Run.region ?_
      refine RunL.ok (OpOk.fieldAddr fld66_0 rfl) rfl ?_
      refine RunL.ok (OpOk.load rfl rfl rfl (Blk.out Blk.pts.left _ _ (by first | rfl | assumption))) rfl ?_
      refine RunL.ok (OpOk.lss rfl rfl) rfl ?_
      refine RunL.nil ?_
      refine Run.condD rfl (fun y5 => ?_) (fun y5 => ?_)
      · refine Run.region ?_
        refine RunL.ok (OpOk.fieldAddr fld66_1 rfl) rfl ?_
        refine RunL.ok (OpOk.load rfl rfl rfl (Blk.out Blk.pts.left _ _ (by first | rfl | assumption))) rfl ?_
        refine RunL.ok (OpOk.assign rfl) rfl ?_
        refine RunL.nil ?_
        refine Run.seq ?_
        refine Run.seq ?_
        refine Run.region ?_
        refine RunL.ok (OpOk.move rfl) rfl ?_
        refine RunL.ok (OpOk.not rfl) rfl ?_
        refine RunL.ok (OpOk.move rfl) rfl ?_
        refine RunL.off rfl rfl rfl rfl ?_
        refine RunL.off rfl rfl rfl rfl ?_
        refine RunL.off rfl rfl rfl rfl ?_
        refine RunL.ok (OpOk.pickT rfl rfl) rfl ?_
        refine RunL.nil ?_
        refine Run.condT rfl ?_
        refine Run.seq ?_
        refine Run.region ?_
        refine RunL.ok (OpOk.assign rfl) rfl ?_
        refine RunL.ok (OpOk.assign rfl) rfl ?_
        refine RunL.nil ?_
        refine Run.ret2 Try.func45 rfl rfl rfl ?_
        rw [hdr]
        show ∃ J, _ ∧ _ = A * J
        exact ⟨_, rfl, (asg (asg (asg as1)))⟩
      refine Run.skip ?_
      refine Run.seq ?_
      refine Run.seq ?_
      refine Run.region ?_
      refine RunL.ok (OpOk.move rfl) rfl ?_
      refine RunL.ok (OpOk.not rfl) rfl ?_
      refine RunL.ok (OpOk.move rfl) rfl ?_
      refine RunL.off rfl rfl rfl rfl ?_
      refine RunL.off rfl rfl rfl rfl ?_
      refine RunL.off rfl rfl rfl rfl ?_
      refine RunL.ok (OpOk.pickT rfl rfl) rfl ?_
      refine RunL.nil ?_
      refine Run.condT rfl ?_
      refine Run.seq ?_
      refine Run.region ?_
      refine RunL.ok (OpOk.assign rfl) rfl ?_
      refine RunL.ok (OpOk.assign rfl) rfl ?_
      refine RunL.nil ?_
      refine Run.ret2 Try.func45 rfl rfl rfl ?_
      rw [hdr]
      show ∃ J, _ ∧ _ = A * J
      exact ⟨_, rfl, (asg (asg (asg as1)))⟩
    | some b =>
      rcases Nat.lt_or_ge 255 (bodyT t bs b).length with hlo | hlo
      · rw [layT_long hlf hlo, Option.map_none] at hdr
        unfold bodyT at hlo
        rcases Decidable.em (t < 128) with h5 | h5
        · rw [if_pos h5] at hlo
          refine Run.seq ?_
          refine Run.region ?_
          refine RunL.ok (OpOk.asT (OpOk.lss rfl rfl) (by omega)) rfl ?_
          refine RunL.nil ?_
          refine Run.seq ?_
          refine Run.condT rfl ?_
          refine Run.skip ?_
          refine Run.seq ?_
          refine Run.block ?_
          refine Run.seq ?_
          refine Run.region ?_
          refine RunL.ok (OpOk.idxN rfl ti66 rfl rd.left.left rfl (by omega)) rfl ?_
          refine RunL.ok (OpOk.loadFlE (by assumption) rfl rfl ti66 rfl rd.left.left (fun _ => rfl) rfl (by omega)) rfl ?_
          refine RunL.alloc ti66 rfl (fun by1 => ?_)
          refine RunL.storeAll ti66 rfl rfl rfl (fun w hw => OneC.one (enc := encT66) ((t, bv, bs, ev, f)) w hw) rfl rfl ?_
          refine RunL.nil ?_
          refine Run.seq ?_
          refine Run.region ?_
          refine RunL.ok (OpOk.fieldAddr fld66_2 rfl) rfl ?_
          refine RunL.ok (OpOk.load rfl rfl rfl (Blk.out Blk.pts _ _ (by first | rfl | assumption))) rfl ?_
          refine RunL.call cal45 rfl (s45a hgr.left.left.left hga.left.left.left (by assumption) (by assumption) (by omega) (by assumption)) rfl (fun vy2 Ay2 hy2 => ?_)
          obtain ⟨y3, ⟨y4, ⟨rfl, rfl⟩⟩⟩ := hy2
          refine RunL.ok (OpOk.move rfl) rfl ?_
          refine RunL.ok (OpOk.ext20 rfl) rfl ?_
          refine RunL.ok (OpOk.ext21 rfl) rfl ?_
          refine RunL.ok (OpOk.assign rfl) rfl ?_
          refine RunL.ok (OpOk.assign rfl) rfl ?_
          refine RunL.nil ?_
          refine Run.seq ?_
          refine Run.seq ?_
          refine Run.region ?_
          refine RunL.ok (OpOk.fieldAddr fld66_0 rfl) rfl ?_
          refine RunL.ok (OpOk.load rfl rfl rfl (Blk.out Blk.pts.left.left _ _ (by first | rfl | assumption))) rfl ?_
          refine RunL.ok (OpOk.asT (OpOk.lss rfl rfl) (by omega)) rfl ?_
          refine RunL.nil ?_
          refine Run.condT rfl ?_
          refine Run.region ?_
          refine RunL.ok (OpOk.fieldAddr fld66_1 rfl) rfl ?_
          refine RunL.ok (OpOk.load rfl rfl rfl (Blk.out Blk.pts.left.left _ _ (by first | rfl | assumption))) rfl ?_
          refine RunL.ok (OpOk.assign rfl) rfl ?_
          refine RunL.nil ?_
          refine Run.seq ?_
          refine Run.seq ?_
          refine Run.region ?_
          refine RunL.ok (OpOk.move rfl) rfl ?_
          refine RunL.ok (OpOk.not rfl) rfl ?_
          refine RunL.ok (OpOk.move rfl) rfl ?_
          refine RunL.on rfl rfl ?_
          refine RunL.ok (OpOk.move rfl) rfl ?_
          refine RunL.on rfl rfl ?_
          refine RunL.ok (OpOk.lenR rfl rfl hgb.left.left.left.left.left rfl) rfl ?_
          refine RunL.on rfl rfl ?_
          refine RunL.ok (OpOk.asT (OpOk.gtr rfl rfl) (by omega)) rfl ?_
          refine RunL.ok (OpOk.pickF rfl rfl) rfl ?_
          refine RunL.nil ?_
          refine Run.condT rfl ?_
          refine Run.seq ?_
          refine Run.region ?_
          refine RunL.ok (OpOk.assign rfl) rfl ?_
          refine RunL.ok (OpOk.assign rfl) rfl ?_
          refine RunL.nil ?_
          refine Run.ret2 Try.func45 rfl rfl rfl ?_
          rw [hdr]
          show ∃ J, _ ∧ _ = A * J
          exact ⟨_, rfl, (asg (asg (asg (asg as1))))⟩
        · rw [if_neg h5] at hlo
          refine Run.seq ?_
          refine Run.region ?_
          refine RunL.ok (OpOk.asT (OpOk.lss rfl rfl) (by omega)) rfl ?_
          refine RunL.nil ?_
          refine Run.seq ?_
          refine Run.condT rfl ?_
          refine Run.skip ?_
          refine Run.seq ?_
          refine Run.block ?_
          refine Run.seq ?_
          refine Run.region ?_
          refine RunL.ok (OpOk.idxN rfl ti66 rfl rd.left.left rfl (by omega)) rfl ?_
          refine RunL.ok (OpOk.loadFlE (by assumption) rfl rfl ti66 rfl rd.left.left (fun _ => rfl) rfl (by omega)) rfl ?_
          refine RunL.alloc ti66 rfl (fun by1 => ?_)
          refine RunL.storeAll ti66 rfl rfl rfl (fun w hw => OneC.one (enc := encT66) ((t, bv, bs, ev, f)) w hw) rfl rfl ?_
          refine RunL.nil ?_
          refine Run.seq ?_
          refine Run.region ?_
          refine RunL.ok (OpOk.fieldAddr fld66_2 rfl) rfl ?_
          refine RunL.ok (OpOk.load rfl rfl rfl (Blk.out Blk.pts _ _ (by first | rfl | assumption))) rfl ?_
          refine RunL.call cal45 rfl (s45a hgr.left.left.left hga.left.left.left (by assumption) (by assumption) (by omega) (by assumption)) rfl (fun vy2 Ay2 hy2 => ?_)
          obtain ⟨y3, ⟨y4, ⟨rfl, rfl⟩⟩⟩ := hy2
          refine RunL.ok (OpOk.move rfl) rfl ?_
          refine RunL.ok (OpOk.ext20 rfl) rfl ?_
          refine RunL.ok (OpOk.ext21 rfl) rfl ?_
          refine RunL.ok (OpOk.assign rfl) rfl ?_
          refine RunL.ok (OpOk.assign rfl) rfl ?_
          refine RunL.nil ?_
          refine Run.seq ?_
          refine Run.seq ?_
          refine Run.region ?_
          refine RunL.ok (OpOk.fieldAddr fld66_0 rfl) rfl ?_
          refine RunL.ok (OpOk.load rfl rfl rfl (Blk.out Blk.pts.left.left _ _ (by first | rfl | assumption))) rfl ?_
          refine RunL.ok (OpOk.asF (OpOk.lss rfl rfl) (by omega)) rfl ?_
          refine RunL.nil ?_
          refine Run.condF rfl ?_
          refine Run.skip ?_
          refine Run.seq ?_
          refine Run.seq ?_
          refine Run.region ?_
          refine RunL.ok (OpOk.move rfl) rfl ?_
          refine RunL.ok (OpOk.not rfl) rfl ?_
          refine RunL.ok (OpOk.move rfl) rfl ?_
          refine RunL.on rfl rfl ?_
          refine RunL.ok (OpOk.move rfl) rfl ?_
          refine RunL.on rfl rfl ?_
          refine RunL.know (fun w s => (s.conv rfl).ownRd0) (fun rdy5 => ?_)
          refine RunL.ok (OpOk.lenR rfl rfl (Rd.right rdy5) rfl) rfl ?_
          refine RunL.on rfl rfl ?_
          refine RunL.ok (OpOk.asT (OpOk.gtr rfl rfl) (by omega)) rfl ?_
          refine RunL.ok (OpOk.pickF rfl rfl) rfl ?_
          refine RunL.nil ?_
          refine Run.condT rfl ?_
          refine Run.seq ?_
          refine Run.region ?_
          refine RunL.ok (OpOk.assign rfl) rfl ?_
          refine RunL.ok (OpOk.assign rfl) rfl ?_
          refine RunL.nil ?_
          refine Run.ret2 Try.func45 rfl rfl rfl ?_
          rw [hdr]
          show ∃ J, _ ∧ _ = A * J
          exact ⟨_, rfl, (asg (asg (asg (asg as1))))⟩
      · rw [layT_some hlf (by omega), Option.map_map] at hdr
        unfold bodyT at hlo hdr
        rcases Decidable.em (t < 128) with h5 | h5
        · rw [if_pos h5] at hlo hdr
          rw [map_row] at hdr
          have hle : (acc ++ [UInt8.ofNat t.toNat, UInt8.ofNat bs.length]).length = acc.length + 2 := by simp
          have hle2 : (acc ++ [UInt8.ofNat t.toNat, UInt8.ofNat bs.length] ++ bs).length = acc.length + 2 + bs.length := by simp; omega
          refine Run.seq ?_
          refine Run.region ?_
          refine RunL.ok (OpOk.asT (OpOk.lss rfl rfl) (by omega)) rfl ?_
          refine RunL.nil ?_
          refine Run.seq ?_
          refine Run.condT rfl ?_
          refine Run.skip ?_
          refine Run.seq ?_
          refine Run.block ?_
          refine Run.seq ?_
          refine Run.region ?_
          refine RunL.ok (OpOk.idxN rfl ti66 rfl rd.left.left rfl (by omega)) rfl ?_
          refine RunL.ok (OpOk.loadFlE (by assumption) rfl rfl ti66 rfl rd.left.left (fun _ => rfl) rfl (by omega)) rfl ?_
          refine RunL.alloc ti66 rfl (fun by1 => ?_)
          refine RunL.storeAll ti66 rfl rfl rfl (fun w hw => OneC.one (enc := encT66) ((t, bv, bs, ev, f)) w hw) rfl rfl ?_
          refine RunL.nil ?_
          refine Run.seq ?_
          refine Run.region ?_
          refine RunL.ok (OpOk.fieldAddr fld66_2 rfl) rfl ?_
          refine RunL.ok (OpOk.load rfl rfl rfl (Blk.out Blk.pts _ _ (by first | rfl | assumption))) rfl ?_
          refine RunL.call cal45 rfl (s45a hgr.left.left.left hga.left.left.left (by assumption) (by assumption) (by omega) (by assumption)) rfl (fun vy2 Ay2 hy2 => ?_)
          obtain ⟨y3, ⟨y4, ⟨rfl, rfl⟩⟩⟩ := hy2
          refine RunL.ok (OpOk.move rfl) rfl ?_
          refine RunL.ok (OpOk.ext20 rfl) rfl ?_
          refine RunL.ok (OpOk.ext21 rfl) rfl ?_
          refine RunL.ok (OpOk.assign rfl) rfl ?_
          refine RunL.ok (OpOk.assign rfl) rfl ?_
          refine RunL.nil ?_
          refine Run.seq ?_
          refine Run.seq ?_
          refine Run.region ?_
          refine RunL.ok (OpOk.fieldAddr fld66_0 rfl) rfl ?_
          refine RunL.ok (OpOk.load rfl rfl rfl (Blk.out Blk.pts.left.left _ _ (by first | rfl | assumption))) rfl ?_
          refine RunL.ok (OpOk.asT (OpOk.lss rfl rfl) (by omega)) rfl ?_
          refine RunL.nil ?_
          refine Run.condT rfl ?_
          refine Run.region ?_
          refine RunL.ok (OpOk.fieldAddr fld66_1 rfl) rfl ?_
          refine RunL.ok (OpOk.load rfl rfl rfl (Blk.out Blk.pts.left.left _ _ (by first | rfl | assumption))) rfl ?_
          refine RunL.ok (OpOk.assign rfl) rfl ?_
          refine RunL.nil ?_
          refine Run.seq ?_
          refine Run.seq ?_
          refine Run.region ?_
          refine RunL.ok (OpOk.move rfl) rfl ?_
          refine RunL.ok (OpOk.not rfl) rfl ?_
          refine RunL.ok (OpOk.move rfl) rfl ?_
          refine RunL.on rfl rfl ?_
          refine RunL.ok (OpOk.move rfl) rfl ?_
          refine RunL.on rfl rfl ?_
          refine RunL.ok (OpOk.lenR rfl rfl hgb.left.left.left.left.left rfl) rfl ?_
          refine RunL.on rfl rfl ?_
          refine RunL.ok (OpOk.asF (OpOk.gtr rfl rfl) (by omega)) rfl ?_
          refine RunL.ok (OpOk.pickF rfl rfl) rfl ?_
          refine RunL.nil ?_
          refine Run.condF rfl ?_
          refine Run.skip ?_
          refine Run.region ?_
          refine RunL.ok (OpOk.move rfl) rfl ?_
          refine RunL.ok (OpOk.fieldAddr fld66_0 rfl) rfl ?_
          refine RunL.ok (OpOk.load rfl rfl rfl (Blk.out Blk.pts.left.left _ _ (by first | rfl | assumption))) rfl ?_
          refine RunL.ok (OpOk.convInt rfl rfl rfl (wrapU8 (by omega) (by omega))) rfl ?_
          refine RunL.ok (OpOk.move rfl) rfl ?_
          refine RunL.ok (OpOk.lenR rfl rfl hgb.left.left.left.left.left rfl) rfl ?_
          refine RunL.ok (OpOk.convInt rfl rfl rfl (wrapU8 (by omega) (by omega))) rfl ?_
          refine RunL.lits rfl ti5 rfl rfl rfl (by simp [Value.cells]) (by decide) rfl (fun vy5 rdy5 => ?_)
          refine RunL.know (fun w s => (s.conv rfl).ownRd0) (fun rdy7 => ?_)
          refine RunL.append rfl ti5 rfl rfl rfl (frl (frl (frl (frl rfl)))) (Rd.right rdy7) (by first | assumption | simp [Value.oneCell']) rfl (by decide) (by omega) (by simp only [maxLen]; omega) rfl (fun vy6 rdy6 => ?_)
          refine RunL.ok (OpOk.move rfl) rfl ?_
          rw [B_two acc (by omega) ht2 (by omega), ← hle]
          refine RunL.appendB rfl ti5 rfl rfl rfl rfl hgb.left.left.left.left.left.left (by omega) rfl (fun vz1 rdz1 => ?_)
          refine RunL.ok (OpOk.assign rfl) rfl ?_
          refine RunL.nil ?_
          refine Run.inBlock ?_
          refine Run.region ?_
          refine RunL.ok (OpOk.addN _ 1 rfl rfl rfl rfl (by omega)) rfl ?_
          refine RunL.ok (OpOk.move rfl) rfl ?_
          refine RunL.nil ?_
          rw [← List.length_append]
          refine Run.jump ((ih (i + 1, _, vz1, acc ++ [UInt8.ofNat t.toNat, UInt8.ofNat bs.length] ++ bs, t) ⟨by dsimp only; omega, hdr, hrr, by dsimp only; omega, by dsimp only; omega, by dsimp only; omega⟩ (by dsimp only; omega))) ⟨rfl, rfl, rfl, rfl, trivial⟩ (Grew.of (congrArg (· * _) (asg (asg (asg (asg as1))))) (Grew.refl _))
        · rw [if_neg h5] at hlo hdr
          rw [map_row] at hdr
          have hle : (acc ++ [UInt8.ofNat t.toNat, UInt8.ofNat b.length]).length = acc.length + 2 := by simp
          have hle2 : (acc ++ [UInt8.ofNat t.toNat, UInt8.ofNat b.length] ++ b).length = acc.length + 2 + b.length := by simp; omega
          refine Run.seq ?_
          refine Run.region ?_
          refine RunL.ok (OpOk.asT (OpOk.lss rfl rfl) (by omega)) rfl ?_
          refine RunL.nil ?_
          refine Run.seq ?_
          refine Run.condT rfl ?_
          refine Run.skip ?_
          refine Run.seq ?_
          refine Run.block ?_
          refine Run.seq ?_
          refine Run.region ?_
          refine RunL.ok (OpOk.idxN rfl ti66 rfl rd.left.left rfl (by omega)) rfl ?_
          refine RunL.ok (OpOk.loadFlE (by assumption) rfl rfl ti66 rfl rd.left.left (fun _ => rfl) rfl (by omega)) rfl ?_
          refine RunL.alloc ti66 rfl (fun by1 => ?_)
          refine RunL.storeAll ti66 rfl rfl rfl (fun w hw => OneC.one (enc := encT66) ((t, bv, bs, ev, f)) w hw) rfl rfl ?_
          refine RunL.nil ?_
          refine Run.seq ?_
          refine Run.region ?_
          refine RunL.ok (OpOk.fieldAddr fld66_2 rfl) rfl ?_
          refine RunL.ok (OpOk.load rfl rfl rfl (Blk.out Blk.pts _ _ (by first | rfl | assumption))) rfl ?_
          refine RunL.call cal45 rfl (s45a hgr.left.left.left hga.left.left.left (by assumption) (by assumption) (by omega) (by assumption)) rfl (fun vy2 Ay2 hy2 => ?_)
          obtain ⟨y3, ⟨y4, ⟨rfl, rfl⟩⟩⟩ := hy2
          refine RunL.ok (OpOk.move rfl) rfl ?_
          refine RunL.ok (OpOk.ext20 rfl) rfl ?_
          refine RunL.ok (OpOk.ext21 rfl) rfl ?_
          refine RunL.ok (OpOk.assign rfl) rfl ?_
          refine RunL.ok (OpOk.assign rfl) rfl ?_
          refine RunL.nil ?_
          refine Run.seq ?_
          refine Run.seq ?_
          refine Run.region ?_
          refine RunL.ok (OpOk.fieldAddr fld66_0 rfl) rfl ?_
          refine RunL.ok (OpOk.load rfl rfl rfl (Blk.out Blk.pts.left.left _ _ (by first | rfl | assumption))) rfl ?_
          refine RunL.ok (OpOk.asF (OpOk.lss rfl rfl) (by omega)) rfl ?_
          refine RunL.nil ?_
          refine Run.condF rfl ?_
          refine Run.skip ?_
          refine Run.seq ?_
          refine Run.seq ?_
          refine Run.region ?_
          refine RunL.ok (OpOk.move rfl) rfl ?_
          refine RunL.ok (OpOk.not rfl) rfl ?_
          refine RunL.ok (OpOk.move rfl) rfl ?_
          refine RunL.on rfl rfl ?_
          refine RunL.ok (OpOk.move rfl) rfl ?_
          refine RunL.on rfl rfl ?_
          refine RunL.know (fun w s => (s.conv rfl).ownRd0) (fun rdy5 => ?_)
          refine RunL.ok (OpOk.lenR rfl rfl (Rd.right rdy5) rfl) rfl ?_
          refine RunL.on rfl rfl ?_
          refine RunL.ok (OpOk.asF (OpOk.gtr rfl rfl) (by omega)) rfl ?_
          refine RunL.ok (OpOk.pickF rfl rfl) rfl ?_
          refine RunL.nil ?_
          refine Run.condF rfl ?_
          refine Run.skip ?_
          refine Run.region ?_
          refine RunL.ok (OpOk.move rfl) rfl ?_
          refine RunL.ok (OpOk.fieldAddr fld66_0 rfl) rfl ?_
          refine RunL.ok (OpOk.load rfl rfl rfl (Blk.out Blk.pts.left.left _ _ (by first | rfl | assumption))) rfl ?_
          refine RunL.ok (OpOk.convInt rfl rfl rfl (wrapU8 (by omega) (by omega))) rfl ?_
          refine RunL.ok (OpOk.move rfl) rfl ?_
          refine RunL.ok (OpOk.lenR rfl rfl (Rd.right rdy5) rfl) rfl ?_
          refine RunL.ok (OpOk.convInt rfl rfl rfl (wrapU8 (by omega) (by omega))) rfl ?_
          refine RunL.lits rfl ti5 rfl rfl rfl (by simp [Value.cells]) (by decide) rfl (fun vy6 rdy6 => ?_)
          refine RunL.know (fun w s => (s.conv rfl).ownRd0) (fun rdy8 => ?_)
          refine RunL.append rfl ti5 rfl rfl rfl (frl (frl (frl (frl rfl)))) (Rd.right rdy8) (by first | assumption | simp [Value.oneCell']) rfl (by decide) (by omega) (by simp only [maxLen]; omega) rfl (fun vy7 rdy7 => ?_)
          refine RunL.ok (OpOk.move rfl) rfl ?_
          rw [B_two acc (by omega) ht2 (by omega), ← hle]
          refine RunL.appendB rfl ti5 rfl rfl rfl rfl (Rd.right rdy5).left.left (by omega) rfl (fun vz1 rdz1 => ?_)
          refine RunL.ok (OpOk.assign rfl) rfl ?_
          refine RunL.nil ?_
          refine Run.inBlock ?_
          refine Run.region ?_
          refine RunL.ok (OpOk.addN _ 1 rfl rfl rfl rfl (by omega)) rfl ?_
          refine RunL.ok (OpOk.move rfl) rfl ?_
          refine RunL.nil ?_
          rw [← List.length_append]
          refine Run.jump ((ih (i + 1, _, vz1, acc ++ [UInt8.ofNat t.toNat, UInt8.ofNat b.length] ++ b, t) ⟨by dsimp only; omega, hdr, hrr, by dsimp only; omega, by dsimp only; omega, by dsimp only; omega⟩ (by dsimp only; omega))) ⟨rfl, rfl, rfl, rfl, trivial⟩ (Grew.of (congrArg (· * _) (asg (asg (asg (asg as1))))) (Grew.refl _))
  · obtain rfl : i = xs.length := by omega
    clear ih
    rw [List.drop_length, strL, layT, Option.map_some, List.append_nil] at hdr
    rw [hdr]
    refine Run.seq ?_
    refine Run.region ?_
    refine RunL.ok (OpOk.asF (OpOk.lss rfl rfl) (by omega)) rfl ?_
    refine RunL.nil ?_
    refine Run.seq ?_
    refine Run.condF rfl ?_
    refine Run.exit rfl ?_
    refine Run.seq ?_
    refine Run.region ?_
    refine RunL.ok (OpOk.move rfl) rfl ?_
    refine RunL.ok (OpOk.assign rfl) rfl ?_
    refine RunL.ok (OpOk.assign rfl) rfl ?_
    refine RunL.nil ?_
    refine Run.ret2 Try.func45 rfl rfl rfl ?_
    exact ⟨_, _, rfl, rfl⟩
theorem s45c {u : Value} {m : Nat} {xs : List Ee} {out : List UInt8} (rd : Rd w0 A u 3 m (Fl encT66 xs)) (al : Alls (GE w0) A xs) (hl : layT (strL xs) = some out) (hr : rightT (strL xs) 0 = true) :
    Spec Try.prog w0 45 [u] A (fun v' A' => ∃ v J, v' = .tuple #[v, .bool true] ∧ A' = A * J * own 5 1 v out.length (B out)) := s45a rd al hl (layAll _) (Nat.le_refl _) hr
theorem s45d {u : Value} {m : Nat} {xs : List Ee} (rd : Rd w0 A u 3 m (Fl encT66 xs)) (al : Alls (GE w0) A xs) (hl : layT (strL xs) = none) (hr : rightT (strL xs) 0 = true) :
    Spec Try.prog w0 45 [u] A (fun v' A' => ∃ J, v' = .tuple #[.slice none 0 0, .bool false] ∧ A' = A * J) := s45b rd al hl (layAll _) (Nat.le_refl _) hr
/-! ### The reference's -/
def CForm (w0 : World) (n : Nat) : Prop := ∀ (A : Asn) (u : Value) (m : Nat) (xs : List Ee), dpT (strL xs) ≤ n → rightT (strL xs) 0 = true → Rd w0 A u 3 m (Fl encT66 xs) → Alls (GE w0) A xs →
  Spec Try.prog w0 48 [u] A (fun v' A' => layR A v' A' (layT (strL xs)))
theorem s48a {u : Value} {m : Nat} {xs : List Ee} {out : List UInt8} (rd : Rd w0 A u 3 m (Fl encT66 xs)) (al : Alls (GE w0) A xs) (hl : layT (strL xs) = some out) (hrec : CForm w0 n) (hsz : dpT (strL xs) ≤ n) (hr : rightT (strL xs) 0 = true) :
    Spec Try.prog w0 48 [u] A (fun v' A' => ∃ v J, v' = .tuple #[v, .bool true] ∧ A' = A * J * own 5 1 v out.length (B out)) :=
  (hrec A u m xs hsz hr rd al).mono fun v' A' h => by rw [hl] at h; exact h
theorem s48b {u : Value} {m : Nat} {xs : List Ee} (rd : Rd w0 A u 3 m (Fl encT66 xs)) (al : Alls (GE w0) A xs) (hl : layT (strL xs) = none) (hrec : CForm w0 n) (hsz : dpT (strL xs) ≤ n) (hr : rightT (strL xs) 0 = true) :
    Spec Try.prog w0 48 [u] A (fun v' A' => ∃ J, v' = .tuple #[.slice none 0 0, .bool false] ∧ A' = A * J) :=
  (hrec A u m xs hsz hr rd al).mono fun v' A' h => by rw [hl] at h; exact h
theorem B_ones (acc : List UInt8) {t : Int} {k : Nat} (h1 : 0 ≤ t) (h2 : t ≤ 255) (h3 : k ≤ 255) : B acc ++ [.int .u8 t] ++ [.int .u8 (k : Int)] = B (acc ++ [UInt8.ofNat t.toNat] ++ [UInt8.ofNat k]) := by
  rw [List.append_assoc, List.append_assoc]
  exact B_two acc h1 h2 h3
theorem refFormAll : ∀ n, CForm w0 n := fun n => by
  induction n using Nat.strongRecOn with
  | ind n hall =>
  intro A u m xs hsz hr rd al
  have hl := rd.lenFl (fun _ => rfl) (by decide)
  subst hl
  have hmx := rd.max
  refine Spec.of_run [(0, u)] Try.func48 rfl (Nat.le_of_ble_eq_true rfl) (by repeat (first | exact trivial | refine ⟨rfl, ?_⟩)) ?_
  refine Run.seq ?_
  refine Run.region ?_
  refine RunL.ok (OpOk.assign rfl) rfl ?_
  refine RunL.ok (OpOk.assign rfl) rfl ?_
  refine RunL.nil ?_
  refine Run.seq ?_
  refine Run.region ?_
  refine RunL.ok (OpOk.assign rfl) rfl ?_
  refine RunL.nil ?_
  refine Run.seq ?_
  refine Run.seq ?_
  refine Run.region ?_
  refine RunL.ok (OpOk.assign rfl) rfl ?_
  refine RunL.nil ?_
  refine Run.block ?_
  refine Run.ent (Ent.ownNil' _ 5 1 (B []) rfl) ?_
  refine Run.jump ((Run.loopJ (X := Nat × Asn × Value × List UInt8 × Int) (fun x => [(5, .int .i64 (x.1 : Int)), (4, x.2.2.1), (0, u)]) (fun x => A * x.2.1 * own 5 1 x.2.2.1 x.2.2.2.1.length (B x.2.2.2.1)) (fun x => x.1 ≤ xs.length ∧ layT (strL xs) = (layT (strL (xs.drop x.1))).map (fun c => x.2.2.2.1 ++ c) ∧ rightT (strL (xs.drop x.1)) x.2.2.2.2 = true ∧ 0 ≤ x.2.2.2.2 ∧ x.2.2.2.2 ≤ 255 ∧ (x.2.2.2.1.length : Int) ≤ 257 * x.2.2.2.2) (fun x => xs.length - x.1) (0, _, .slice none 0 0, [], 0) ⟨Nat.zero_le _, by simp, hr, Int.le_refl _, by dsimp only; omega, by simp⟩ (fun x hx ih => ?_))) ⟨rfl, rfl, rfl, trivial⟩ (Grew.of (Eq.trans (frc rfl rfl) (congrArg (· * _) as0)) (Grew.refl _))
  obtain ⟨i, J, v4, acc, last⟩ := x
  simp only at hx ih ⊢
  obtain ⟨hi, hdr, hri, hl0, hl1, hal⟩ := hx
  rcases Nat.lt_or_ge i xs.length with hlt | hge
  · have hg := al.get hlt
    obtain ⟨o, hoe⟩ : ∃ o, xs.getD i default = o := ⟨_, rfl⟩
    rw [hoe] at hg
    obtain ⟨t, bv, bs, ev, f⟩ := o
    obtain ⟨hgb, hgr, hgf⟩ := hg
    have hga := GFo.alls hgf
    dsimp only at hgb hgr hga
    have hdp := dpT_at hlt hoe
    have hrec : CForm w0 (n - 1) := hall (n - 1) (by omega)
    rw [strL_drop hlt hoe, rightT, lenT_strip, ← strL_top, Bool.and_eq_true, Bool.and_eq_true, decide_eq_true_eq] at hri
    rw [strL_drop hlt hoe, ← strL_top] at hdr
    obtain ⟨⟨⟨ht1, ht2, ht3, ht4⟩, hrs⟩, hrr⟩ := hri
    have hle : (acc ++ [UInt8.ofNat t.toNat]).length = acc.length + 1 := by simp
    rcases Decidable.em (t < 128) with h5 | h5
    · have hft : layT (strL (top f)) = some [] := by rw [List.eq_nil_of_length_eq_zero (ht4 h5)]; rfl
      have hle2 : (acc ++ [UInt8.ofNat t.toNat] ++ [UInt8.ofNat bs.length]).length = acc.length + 2 := by simp
      have hle3 : (acc ++ [UInt8.ofNat t.toNat] ++ [UInt8.ofNat bs.length] ++ bs).length = acc.length + 2 + bs.length := by simp; omega
      rcases Nat.lt_or_ge 255 bs.length with hlo | hlo
      · rw [layT_long hft (by rw [bodyT, if_pos h5]; exact hlo), Option.map_none] at hdr
        refine Run.seq ?_
        refine Run.seq ?_
        refine Run.region ?_
        refine RunL.ok (OpOk.move rfl) rfl ?_
        refine RunL.ok (OpOk.move rfl) rfl ?_
        refine RunL.ok (OpOk.lenR rfl rfl rd.left.left rfl) rfl ?_
        refine RunL.ok (OpOk.asT (OpOk.lss rfl rfl) (by omega)) rfl ?_
        refine RunL.nil ?_
        refine Run.condT rfl ?_
        refine Run.skip ?_
        refine Run.seq ?_
        refine Run.block ?_
        refine Run.seq ?_
        refine Run.region ?_
        refine RunL.ok (OpOk.move rfl) rfl ?_
        refine RunL.ok (OpOk.move rfl) rfl ?_
        refine RunL.ok (OpOk.idxN rfl ti66 rfl rd.left.left rfl (by omega)) rfl ?_
        refine RunL.ok (OpOk.fieldAddrA fld66_1 rfl) rfl ?_
        refine RunL.ok (OpOk.loadFl1E hoe rfl rfl rfl rd.left.left (fun _ => rfl) rfl (by omega) rfl) rfl ?_
        refine RunL.ok (OpOk.assign rfl) rfl ?_
        refine RunL.nil ?_
        refine Run.seq ?_
        refine Run.seq ?_
        refine Run.region ?_
        refine RunL.ok (OpOk.move rfl) rfl ?_
        refine RunL.ok (OpOk.move rfl) rfl ?_
        refine RunL.ok (OpOk.idxN rfl ti66 rfl rd.left.left rfl (by omega)) rfl ?_
        refine RunL.ok (OpOk.fieldAddrA fld66_0 rfl) rfl ?_
        refine RunL.ok (OpOk.loadFl1E hoe rfl rfl rfl rd.left.left (fun _ => rfl) rfl (by omega) rfl) rfl ?_
        refine RunL.ok (OpOk.asF (OpOk.gtr rfl rfl) (by omega)) rfl ?_
        refine RunL.nil ?_
        refine Run.condF rfl ?_
        refine Run.skip ?_
        refine Run.seq ?_
        refine Run.seq ?_
        refine Run.region ?_
        refine RunL.ok (OpOk.move rfl) rfl ?_
        refine RunL.ok (OpOk.lenR rfl rfl hgb.left.left rfl) rfl ?_
        refine RunL.ok (OpOk.asT (OpOk.gtr rfl rfl) (by omega)) rfl ?_
        refine RunL.nil ?_
        refine Run.condT rfl ?_
        refine Run.seq ?_
        refine Run.region ?_
        refine RunL.ok (OpOk.assign rfl) rfl ?_
        refine RunL.ok (OpOk.assign rfl) rfl ?_
        refine RunL.nil ?_
        refine Run.ret2 Try.func48 rfl rfl rfl ?_
        rw [hdr]
        show ∃ J, _ ∧ _ = A * J
        exact ⟨_, rfl, (asg as1)⟩
      · rw [layT_some hft (by rw [bodyT, if_pos h5]; omega), Option.map_map, bodyT, if_pos h5, map_row, show [UInt8.ofNat t.toNat, UInt8.ofNat bs.length] = [UInt8.ofNat t.toNat] ++ [UInt8.ofNat bs.length] from rfl, ← List.append_assoc] at hdr
        refine Run.seq ?_
        refine Run.seq ?_
        refine Run.region ?_
        refine RunL.ok (OpOk.move rfl) rfl ?_
        refine RunL.ok (OpOk.move rfl) rfl ?_
        refine RunL.ok (OpOk.lenR rfl rfl rd.left.left rfl) rfl ?_
        refine RunL.ok (OpOk.asT (OpOk.lss rfl rfl) (by omega)) rfl ?_
        refine RunL.nil ?_
        refine Run.condT rfl ?_
        refine Run.skip ?_
        refine Run.seq ?_
        refine Run.block ?_
        refine Run.seq ?_
        refine Run.region ?_
        refine RunL.ok (OpOk.move rfl) rfl ?_
        refine RunL.ok (OpOk.move rfl) rfl ?_
        refine RunL.ok (OpOk.idxN rfl ti66 rfl rd.left.left rfl (by omega)) rfl ?_
        refine RunL.ok (OpOk.fieldAddrA fld66_1 rfl) rfl ?_
        refine RunL.ok (OpOk.loadFl1E hoe rfl rfl rfl rd.left.left (fun _ => rfl) rfl (by omega) rfl) rfl ?_
        refine RunL.ok (OpOk.assign rfl) rfl ?_
        refine RunL.nil ?_
        refine Run.seq ?_
        refine Run.seq ?_
        refine Run.region ?_
        refine RunL.ok (OpOk.move rfl) rfl ?_
        refine RunL.ok (OpOk.move rfl) rfl ?_
        refine RunL.ok (OpOk.idxN rfl ti66 rfl rd.left.left rfl (by omega)) rfl ?_
        refine RunL.ok (OpOk.fieldAddrA fld66_0 rfl) rfl ?_
        refine RunL.ok (OpOk.loadFl1E hoe rfl rfl rfl rd.left.left (fun _ => rfl) rfl (by omega) rfl) rfl ?_
        refine RunL.ok (OpOk.asF (OpOk.gtr rfl rfl) (by omega)) rfl ?_
        refine RunL.nil ?_
        refine Run.condF rfl ?_
        refine Run.skip ?_
        refine Run.seq ?_
        refine Run.seq ?_
        refine Run.region ?_
        refine RunL.ok (OpOk.move rfl) rfl ?_
        refine RunL.ok (OpOk.lenR rfl rfl hgb.left.left rfl) rfl ?_
        refine RunL.ok (OpOk.asF (OpOk.gtr rfl rfl) (by omega)) rfl ?_
        refine RunL.nil ?_
        refine Run.condF rfl ?_
        refine Run.skip ?_
        refine Run.seq ?_
        refine Run.region ?_
        refine RunL.ok (OpOk.move rfl) rfl ?_
        refine RunL.ok (OpOk.move rfl) rfl ?_
        refine RunL.ok (OpOk.move rfl) rfl ?_
        refine RunL.ok (OpOk.idxN rfl ti66 rfl rd.left.left rfl (by omega)) rfl ?_
        refine RunL.ok (OpOk.fieldAddrA fld66_0 rfl) rfl ?_
        refine RunL.ok (OpOk.loadFl1E hoe rfl rfl rfl rd.left.left (fun _ => rfl) rfl (by omega) rfl) rfl ?_
        refine RunL.ok (OpOk.convInt rfl rfl rfl (wrapU8 (by omega) (by omega))) rfl ?_
        refine RunL.lits rfl ti5 rfl rfl rfl (by simp [Value.cells]) (by decide) rfl (fun vy1 rdy1 => ?_)
        refine RunL.know (fun w s => (s.conv rfl).ownRd0) (fun rdy3 => ?_)
        refine RunL.append rfl ti5 rfl rfl rfl (frl rfl) (Rd.right rdy3) (by first | assumption | simp [Value.oneCell']) rfl (by decide) (by omega) (by simp only [maxLen]; omega) rfl (fun vy2 rdy2 => ?_)
        refine RunL.ok (OpOk.assign rfl) rfl ?_
        refine RunL.nil ?_
        refine Run.seq ?_
        refine Run.region ?_
        refine RunL.ok (OpOk.move rfl) rfl ?_
        refine RunL.ok (OpOk.move rfl) rfl ?_
        refine RunL.ok (OpOk.lenR rfl rfl hgb.left.left.left rfl) rfl ?_
        refine RunL.ok (OpOk.convInt rfl rfl rfl (wrapU8 (by omega) (by omega))) rfl ?_
        refine RunL.lits rfl ti5 rfl rfl rfl (by simp [Value.cells]) (by decide) rfl (fun vy4 rdy4 => ?_)
        refine RunL.know (fun w s => (s.conv rfl).ownRd0) (fun rdy6 => ?_)
        refine RunL.append rfl ti5 rfl rfl rfl (frl rfl) (Rd.right rdy6) (by first | assumption | simp [Value.oneCell']) rfl (by decide) (by omega) (by simp only [maxLen]; omega) rfl (fun vy5 rdy5 => ?_)
        refine RunL.ok (OpOk.assign rfl) rfl ?_
        refine RunL.nil ?_
        refine Run.region ?_
        refine RunL.ok (OpOk.move rfl) rfl ?_
        refine RunL.ok (OpOk.move rfl) rfl ?_
        rw [B_ones acc (by omega) ht2 (by omega), show acc.length + 1 + 1 = (acc ++ [UInt8.ofNat t.toNat] ++ [UInt8.ofNat bs.length]).length by simp]
        refine RunL.appendB rfl ti5 rfl rfl rfl rfl hgb.left.left.left.left (by omega) rfl (fun vz1 rdz1 => ?_)
        refine RunL.ok (OpOk.assign rfl) rfl ?_
        refine RunL.nil ?_
        refine Run.inBlock ?_
        refine Run.region ?_
        refine RunL.ok (OpOk.move rfl) rfl ?_
        refine RunL.ok (OpOk.addN _ 1 rfl rfl rfl rfl (by omega)) rfl ?_
        refine RunL.ok (OpOk.assign rfl) rfl ?_
        refine RunL.nil ?_
        rw [← List.length_append]
        refine Run.jump ((ih (i + 1, _, vz1, acc ++ [UInt8.ofNat t.toNat] ++ [UInt8.ofNat bs.length] ++ bs, t) ⟨by dsimp only; omega, hdr, hrr, by dsimp only; omega, by dsimp only; omega, by dsimp only; omega⟩ (by dsimp only; omega))) ⟨rfl, rfl, rfl, trivial⟩ (Grew.of (congrArg (· * _) (asg (asg as1))) (Grew.refl _))
    · cases hlf : layT (strL (top f)) with
      | none =>
        rw [layT_none hlf, Option.map_none] at hdr
        refine Run.seq ?_
        refine Run.seq ?_
        refine Run.region ?_
        refine RunL.ok (OpOk.move rfl) rfl ?_
        refine RunL.ok (OpOk.move rfl) rfl ?_
        refine RunL.ok (OpOk.lenR rfl rfl rd.left.left rfl) rfl ?_
        refine RunL.ok (OpOk.asT (OpOk.lss rfl rfl) (by omega)) rfl ?_
        refine RunL.nil ?_
        refine Run.condT rfl ?_
        refine Run.skip ?_
        refine Run.seq ?_
        refine Run.block ?_
        refine Run.seq ?_
        refine Run.region ?_
        refine RunL.ok (OpOk.move rfl) rfl ?_
        refine RunL.ok (OpOk.move rfl) rfl ?_
        refine RunL.ok (OpOk.idxN rfl ti66 rfl rd.left.left rfl (by omega)) rfl ?_
        refine RunL.ok (OpOk.fieldAddrA fld66_1 rfl) rfl ?_
        refine RunL.ok (OpOk.loadFl1E hoe rfl rfl rfl rd.left.left (fun _ => rfl) rfl (by omega) rfl) rfl ?_
        refine RunL.ok (OpOk.assign rfl) rfl ?_
        refine RunL.nil ?_
        refine Run.seq ?_
        refine Run.seq ?_
        refine Run.region ?_
        refine RunL.ok (OpOk.move rfl) rfl ?_
        refine RunL.ok (OpOk.move rfl) rfl ?_
        refine RunL.ok (OpOk.idxN rfl ti66 rfl rd.left.left rfl (by omega)) rfl ?_
        refine RunL.ok (OpOk.fieldAddrA fld66_0 rfl) rfl ?_
        refine RunL.ok (OpOk.loadFl1E hoe rfl rfl rfl rd.left.left (fun _ => rfl) rfl (by omega) rfl) rfl ?_
        refine RunL.ok (OpOk.asT (OpOk.gtr rfl rfl) (by omega)) rfl ?_
        refine RunL.nil ?_
        refine Run.condT rfl ?_
        refine Run.seq ?_
        refine Run.region ?_
        refine RunL.ok (OpOk.move rfl) rfl ?_
        refine RunL.ok (OpOk.move rfl) rfl ?_
        refine RunL.ok (OpOk.idxN rfl ti66 rfl rd.left.left rfl (by omega)) rfl ?_
        refine RunL.ok (OpOk.fieldAddrA fld66_2 rfl) rfl ?_
        refine RunL.ok (OpOk.loadFl1E hoe rfl rfl rfl rd.left.left (fun _ => rfl) rfl (by omega) rfl) rfl ?_
        refine RunL.call cal48 rfl (s48b hgr.left.left hga.left.left (by assumption) (by assumption) (by omega) (by assumption)) rfl (fun vy2 Ay2 hy2 => ?_)
        obtain ⟨y3, ⟨rfl, rfl⟩⟩ := hy2
        refine RunL.ok (OpOk.move rfl) rfl ?_
        refine RunL.ok (OpOk.ext20 rfl) rfl ?_
        refine RunL.ok (OpOk.ext21 rfl) rfl ?_
        refine RunL.ok (OpOk.assign rfl) rfl ?_
        refine RunL.ok (OpOk.assign rfl) rfl ?_
        refine RunL.nil ?_
        refine Run.seq ?_
        refine Run.seq ?_
        refine Run.region ?_
        refine RunL.ok (OpOk.move rfl) rfl ?_
        refine RunL.ok (OpOk.not rfl) rfl ?_
        refine RunL.nil ?_
        refine Run.condT rfl ?_
        refine Run.seq ?_
        refine Run.region ?_
        refine RunL.ok (OpOk.assign rfl) rfl ?_
        refine RunL.ok (OpOk.assign rfl) rfl ?_
        refine RunL.nil ?_
        refine Run.ret2 Try.func48 rfl rfl rfl ?_
        rw [hdr]
        show ∃ J, _ ∧ _ = A * J
        exact ⟨_, rfl, (asg (asg as1))⟩
      | some b =>
        have hle2 : (acc ++ [UInt8.ofNat t.toNat] ++ [UInt8.ofNat b.length]).length = acc.length + 2 := by simp
        have hle3 : (acc ++ [UInt8.ofNat t.toNat] ++ [UInt8.ofNat b.length] ++ b).length = acc.length + 2 + b.length := by simp; omega
        rcases Nat.lt_or_ge 255 b.length with hlo | hlo
        · rw [layT_long hlf (by rw [bodyT, if_neg h5]; exact hlo), Option.map_none] at hdr
          refine Run.seq ?_
          refine Run.seq ?_
          refine Run.region ?_
          refine RunL.ok (OpOk.move rfl) rfl ?_
          refine RunL.ok (OpOk.move rfl) rfl ?_
          refine RunL.ok (OpOk.lenR rfl rfl rd.left.left rfl) rfl ?_
          refine RunL.ok (OpOk.asT (OpOk.lss rfl rfl) (by omega)) rfl ?_
          refine RunL.nil ?_
          refine Run.condT rfl ?_
          refine Run.skip ?_
          refine Run.seq ?_
          refine Run.block ?_
          refine Run.seq ?_
          refine Run.region ?_
          refine RunL.ok (OpOk.move rfl) rfl ?_
          refine RunL.ok (OpOk.move rfl) rfl ?_
          refine RunL.ok (OpOk.idxN rfl ti66 rfl rd.left.left rfl (by omega)) rfl ?_
          refine RunL.ok (OpOk.fieldAddrA fld66_1 rfl) rfl ?_
          refine RunL.ok (OpOk.loadFl1E hoe rfl rfl rfl rd.left.left (fun _ => rfl) rfl (by omega) rfl) rfl ?_
          refine RunL.ok (OpOk.assign rfl) rfl ?_
          refine RunL.nil ?_
          refine Run.seq ?_
          refine Run.seq ?_
          refine Run.region ?_
          refine RunL.ok (OpOk.move rfl) rfl ?_
          refine RunL.ok (OpOk.move rfl) rfl ?_
          refine RunL.ok (OpOk.idxN rfl ti66 rfl rd.left.left rfl (by omega)) rfl ?_
          refine RunL.ok (OpOk.fieldAddrA fld66_0 rfl) rfl ?_
          refine RunL.ok (OpOk.loadFl1E hoe rfl rfl rfl rd.left.left (fun _ => rfl) rfl (by omega) rfl) rfl ?_
          refine RunL.ok (OpOk.asT (OpOk.gtr rfl rfl) (by omega)) rfl ?_
          refine RunL.nil ?_
          refine Run.condT rfl ?_
          refine Run.seq ?_
          refine Run.region ?_
          refine RunL.ok (OpOk.move rfl) rfl ?_
          refine RunL.ok (OpOk.move rfl) rfl ?_
          refine RunL.ok (OpOk.idxN rfl ti66 rfl rd.left.left rfl (by omega)) rfl ?_
          refine RunL.ok (OpOk.fieldAddrA fld66_2 rfl) rfl ?_
          refine RunL.ok (OpOk.loadFl1E hoe rfl rfl rfl rd.left.left (fun _ => rfl) rfl (by omega) rfl) rfl ?_
          refine RunL.call cal48 rfl (s48a hgr.left.left hga.left.left (by assumption) (by assumption) (by omega) (by assumption)) rfl (fun vy1 Ay1 hy1 => ?_)
          obtain ⟨y2, ⟨y3, ⟨rfl, rfl⟩⟩⟩ := hy1
          refine RunL.ok (OpOk.move rfl) rfl ?_
          refine RunL.ok (OpOk.ext20 rfl) rfl ?_
          refine RunL.ok (OpOk.ext21 rfl) rfl ?_
          refine RunL.ok (OpOk.assign rfl) rfl ?_
          refine RunL.ok (OpOk.assign rfl) rfl ?_
          refine RunL.nil ?_
          refine Run.seq ?_
          refine Run.seq ?_
          refine Run.region ?_
          refine RunL.ok (OpOk.move rfl) rfl ?_
          refine RunL.ok (OpOk.not rfl) rfl ?_
          refine RunL.nil ?_
          refine Run.condF rfl ?_
          refine Run.skip ?_
          refine Run.region ?_
          refine RunL.ok (OpOk.move rfl) rfl ?_
          refine RunL.ok (OpOk.assign rfl) rfl ?_
          refine RunL.nil ?_
          refine Run.seq ?_
          refine Run.seq ?_
          refine Run.region ?_
          refine RunL.ok (OpOk.move rfl) rfl ?_
          refine RunL.know (fun w s => (s.conv rfl).ownRd0) (fun rdy4 => ?_)
          refine RunL.ok (OpOk.lenR rfl rfl (Rd.right rdy4) rfl) rfl ?_
          refine RunL.ok (OpOk.asT (OpOk.gtr rfl rfl) (by omega)) rfl ?_
          refine RunL.nil ?_
          refine Run.condT rfl ?_
          refine Run.seq ?_
          refine Run.region ?_
          refine RunL.ok (OpOk.assign rfl) rfl ?_
          refine RunL.ok (OpOk.assign rfl) rfl ?_
          refine RunL.nil ?_
          refine Run.ret2 Try.func48 rfl rfl rfl ?_
          rw [hdr]
          show ∃ J, _ ∧ _ = A * J
          exact ⟨_, rfl, (asg (asg (asg as1)))⟩
        · rw [layT_some hlf (by rw [bodyT, if_neg h5]; omega), Option.map_map, bodyT, if_neg h5, map_row, show [UInt8.ofNat t.toNat, UInt8.ofNat b.length] = [UInt8.ofNat t.toNat] ++ [UInt8.ofNat b.length] from rfl, ← List.append_assoc] at hdr
          refine Run.seq ?_
          refine Run.seq ?_
          refine Run.region ?_
          refine RunL.ok (OpOk.move rfl) rfl ?_
          refine RunL.ok (OpOk.move rfl) rfl ?_
          refine RunL.ok (OpOk.lenR rfl rfl rd.left.left rfl) rfl ?_
          refine RunL.ok (OpOk.asT (OpOk.lss rfl rfl) (by omega)) rfl ?_
          refine RunL.nil ?_
          refine Run.condT rfl ?_
          refine Run.skip ?_
          refine Run.seq ?_
          refine Run.block ?_
          refine Run.seq ?_
          refine Run.region ?_
          refine RunL.ok (OpOk.move rfl) rfl ?_
          refine RunL.ok (OpOk.move rfl) rfl ?_
          refine RunL.ok (OpOk.idxN rfl ti66 rfl rd.left.left rfl (by omega)) rfl ?_
          refine RunL.ok (OpOk.fieldAddrA fld66_1 rfl) rfl ?_
          refine RunL.ok (OpOk.loadFl1E hoe rfl rfl rfl rd.left.left (fun _ => rfl) rfl (by omega) rfl) rfl ?_
          refine RunL.ok (OpOk.assign rfl) rfl ?_
          refine RunL.nil ?_
          refine Run.seq ?_
          refine Run.seq ?_
          refine Run.region ?_
          refine RunL.ok (OpOk.move rfl) rfl ?_
          refine RunL.ok (OpOk.move rfl) rfl ?_
          refine RunL.ok (OpOk.idxN rfl ti66 rfl rd.left.left rfl (by omega)) rfl ?_
          refine RunL.ok (OpOk.fieldAddrA fld66_0 rfl) rfl ?_
          refine RunL.ok (OpOk.loadFl1E hoe rfl rfl rfl rd.left.left (fun _ => rfl) rfl (by omega) rfl) rfl ?_
          refine RunL.ok (OpOk.asT (OpOk.gtr rfl rfl) (by omega)) rfl ?_
          refine RunL.nil ?_
          refine Run.condT rfl ?_
          refine Run.seq ?_
          refine Run.region ?_
          refine RunL.ok (OpOk.move rfl) rfl ?_
          refine RunL.ok (OpOk.move rfl) rfl ?_
          refine RunL.ok (OpOk.idxN rfl ti66 rfl rd.left.left rfl (by omega)) rfl ?_
          refine RunL.ok (OpOk.fieldAddrA fld66_2 rfl) rfl ?_
          refine RunL.ok (OpOk.loadFl1E hoe rfl rfl rfl rd.left.left (fun _ => rfl) rfl (by omega) rfl) rfl ?_
          refine RunL.call cal48 rfl (s48a hgr.left.left hga.left.left (by assumption) (by assumption) (by omega) (by assumption)) rfl (fun vy1 Ay1 hy1 => ?_)
          obtain ⟨y2, ⟨y3, ⟨rfl, rfl⟩⟩⟩ := hy1
          refine RunL.ok (OpOk.move rfl) rfl ?_
          refine RunL.ok (OpOk.ext20 rfl) rfl ?_
          refine RunL.ok (OpOk.ext21 rfl) rfl ?_
          refine RunL.ok (OpOk.assign rfl) rfl ?_
          refine RunL.ok (OpOk.assign rfl) rfl ?_
          refine RunL.nil ?_
          refine Run.seq ?_
          refine Run.seq ?_
          refine Run.region ?_
          refine RunL.ok (OpOk.move rfl) rfl ?_
          refine RunL.ok (OpOk.not rfl) rfl ?_
          refine RunL.nil ?_
          refine Run.condF rfl ?_
          refine Run.skip ?_
          refine Run.region ?_
          refine RunL.ok (OpOk.move rfl) rfl ?_
          refine RunL.ok (OpOk.assign rfl) rfl ?_
          refine RunL.nil ?_
          refine Run.seq ?_
          refine Run.seq ?_
          refine Run.region ?_
          refine RunL.ok (OpOk.move rfl) rfl ?_
          refine RunL.know (fun w s => (s.conv rfl).ownRd0) (fun rdy4 => ?_)
          refine RunL.ok (OpOk.lenR rfl rfl (Rd.right rdy4) rfl) rfl ?_
          refine RunL.ok (OpOk.asF (OpOk.gtr rfl rfl) (by omega)) rfl ?_
          refine RunL.nil ?_
          refine Run.condF rfl ?_
          refine Run.skip ?_
          refine Run.seq ?_
          refine Run.region ?_
          refine RunL.ok (OpOk.move rfl) rfl ?_
          refine RunL.ok (OpOk.move rfl) rfl ?_
          refine RunL.ok (OpOk.move rfl) rfl ?_
          refine RunL.ok (OpOk.idxN rfl ti66 rfl rd.left.left.left.left rfl (by omega)) rfl ?_
          refine RunL.ok (OpOk.fieldAddrA fld66_0 rfl) rfl ?_
          refine RunL.ok (OpOk.loadFl1E hoe rfl rfl rfl rd.left.left.left.left (fun _ => rfl) rfl (by omega) rfl) rfl ?_
          refine RunL.ok (OpOk.convInt rfl rfl rfl (wrapU8 (by omega) (by omega))) rfl ?_
          refine RunL.lits rfl ti5 rfl rfl rfl (by simp [Value.cells]) (by decide) rfl (fun vy5 rdy5 => ?_)
          refine RunL.know (fun w s => (s.conv rfl).ownRd0) (fun rdy7 => ?_)
          refine RunL.append rfl ti5 rfl rfl rfl (frl (frl (frl rfl))) (Rd.right rdy7) (by first | assumption | simp [Value.oneCell']) rfl (by decide) (by omega) (by simp only [maxLen]; omega) rfl (fun vy6 rdy6 => ?_)
          refine RunL.ok (OpOk.assign rfl) rfl ?_
          refine RunL.nil ?_
          refine Run.seq ?_
          refine Run.region ?_
          refine RunL.ok (OpOk.move rfl) rfl ?_
          refine RunL.ok (OpOk.move rfl) rfl ?_
          refine RunL.ok (OpOk.lenR rfl rfl (Rd.right rdy4).left.left rfl) rfl ?_
          refine RunL.ok (OpOk.convInt rfl rfl rfl (wrapU8 (by omega) (by omega))) rfl ?_
          refine RunL.lits rfl ti5 rfl rfl rfl (by simp [Value.cells]) (by decide) rfl (fun vy8 rdy8 => ?_)
          refine RunL.know (fun w s => (s.conv rfl).ownRd0) (fun rdy10 => ?_)
          refine RunL.append rfl ti5 rfl rfl rfl (frl rfl) (Rd.right rdy10) (by first | assumption | simp [Value.oneCell']) rfl (by decide) (by omega) (by simp only [maxLen]; omega) rfl (fun vy9 rdy9 => ?_)
          refine RunL.ok (OpOk.assign rfl) rfl ?_
          refine RunL.nil ?_
          refine Run.region ?_
          refine RunL.ok (OpOk.move rfl) rfl ?_
          refine RunL.ok (OpOk.move rfl) rfl ?_
          rw [B_ones acc (by omega) ht2 (by omega), show acc.length + 1 + 1 = (acc ++ [UInt8.ofNat t.toNat] ++ [UInt8.ofNat b.length]).length by simp]
          refine RunL.appendB rfl ti5 rfl rfl rfl rfl (Rd.right rdy4).left.left.left (by omega) rfl (fun vz1 rdz1 => ?_)
          refine RunL.ok (OpOk.assign rfl) rfl ?_
          refine RunL.nil ?_
          refine Run.inBlock ?_
          refine Run.region ?_
          refine RunL.ok (OpOk.move rfl) rfl ?_
          refine RunL.ok (OpOk.addN _ 1 rfl rfl rfl rfl (by omega)) rfl ?_
          refine RunL.ok (OpOk.assign rfl) rfl ?_
          refine RunL.nil ?_
          rw [← List.length_append]
          refine Run.jump ((ih (i + 1, _, vz1, acc ++ [UInt8.ofNat t.toNat] ++ [UInt8.ofNat b.length] ++ b, t) ⟨by dsimp only; omega, hdr, hrr, by dsimp only; omega, by dsimp only; omega, by dsimp only; omega⟩ (by dsimp only; omega))) ⟨rfl, rfl, rfl, trivial⟩ (Grew.of (congrArg (· * _) (asg (asg (asg (asg as1))))) (Grew.refl _))
  · obtain rfl : i = xs.length := by omega
    clear ih
    rw [List.drop_length, strL, layT, Option.map_some, List.append_nil] at hdr
    rw [hdr]
    refine Run.seq ?_
    refine Run.seq ?_
    refine Run.region ?_
    refine RunL.ok (OpOk.move rfl) rfl ?_
    refine RunL.ok (OpOk.move rfl) rfl ?_
    refine RunL.ok (OpOk.lenR rfl rfl rd.left.left rfl) rfl ?_
    refine RunL.ok (OpOk.asF (OpOk.lss rfl rfl) (by omega)) rfl ?_
    refine RunL.nil ?_
    refine Run.condF rfl ?_
    refine Run.exit rfl ?_
    refine Run.seq ?_
    refine Run.region ?_
    refine RunL.ok (OpOk.move rfl) rfl ?_
    refine RunL.ok (OpOk.assign rfl) rfl ?_
    refine RunL.ok (OpOk.assign rfl) rfl ?_
    refine RunL.nil ?_
    refine Run.ret2 Try.func48 rfl rfl rfl ?_
    exact ⟨_, _, rfl, rfl⟩
theorem s48c {u : Value} {m : Nat} {xs : List Ee} {out : List UInt8} (rd : Rd w0 A u 3 m (Fl encT66 xs)) (al : Alls (GE w0) A xs) (hl : layT (strL xs) = some out) (hr : rightT (strL xs) 0 = true) :
    Spec Try.prog w0 48 [u] A (fun v' A' => ∃ v J, v' = .tuple #[v, .bool true] ∧ A' = A * J * own 5 1 v out.length (B out)) := s48a rd al hl (refFormAll _) (Nat.le_refl _) hr
theorem s48d {u : Value} {m : Nat} {xs : List Ee} (rd : Rd w0 A u 3 m (Fl encT66 xs)) (al : Alls (GE w0) A xs) (hl : layT (strL xs) = none) (hr : rightT (strL xs) 0 = true) :
    Spec Try.prog w0 48 [u] A (fun v' A' => ∃ J, v' = .tuple #[.slice none 0 0, .bool false] ∧ A' = A * J) := s48b rd al hl (refFormAll _) (Nat.le_refl _) hr
def putT (f : Te) : List UInt8 × Int := if 4 < dpT f then ([], 15) else if rightT f 0 = true then (match layT f with | none => ([], 11) | some b => (b, 0)) else ([], 2)
theorem s29 {u : Value} {m : Nat} {xs : List Ee} {out : List UInt8} {e : Int} (rd : Rd w0 A u 3 m (Fl encT66 xs)) (al : Alls (GE w0) A xs) (hp : putT (strL xs) = (out, e)) :
    Spec Try.prog w0 29 [u] A (fun v' A' => ∃ v J, v' = .tuple #[v, .int .i64 e] ∧ A' = A * J * own 5 1 v out.length (B out)) := by
  have hz : own 5 1 (Value.slice none 0 0) 0 (B []) = emp := own_nil_eq _ _
  unfold putT at hp
  rcases Decidable.em (4 < dpT (strL xs)) with h1 | h1
  · rw [if_pos h1] at hp
    cases hp
    refine Spec.of_run [(0, u)] Try.func29 rfl (Nat.le_of_ble_eq_true rfl) (by repeat (first | exact trivial | refine ⟨rfl, ?_⟩)) ?_
    refine Run.seq ?_
    refine Run.region ?_
    refine RunL.ok (OpOk.assign rfl) rfl ?_
    refine RunL.ok (OpOk.assign rfl) rfl ?_
    refine RunL.nil ?_
    refine Run.seq ?_
    refine Run.block ?_
    refine Run.seq ?_
    refine Run.region ?_
    refine RunL.ok (OpOk.move rfl) rfl ?_
    refine RunL.call cal43 rfl (s43b rd al) rfl (fun vx1 Ax1 hx1 => ?_)
    obtain ⟨x2, ⟨rfl, rfl⟩⟩ := hx1
    refine RunL.ok (OpOk.assign rfl) rfl ?_
    refine RunL.nil ?_
    refine Run.condDT rfl (by first | omega | with_reducible rfl | assumption) ?_
    refine Run.seq ?_
    refine Run.region ?_
    refine RunL.ok (OpOk.assign rfl) rfl ?_
    refine RunL.ok (OpOk.assign rfl) rfl ?_
    refine RunL.nil ?_
    refine Run.ent (Ent.ownNil' _ 5 1 (B []) rfl) ?_
    refine Run.ret2 Try.func29 rfl rfl rfl ?_
    exact ⟨_, _, rfl, (Eq.trans (frc rfl rfl) (congrArg (· * _) as1))⟩
  · rw [if_neg h1] at hp
    cases hr : rightT (strL xs) 0 with
    | false =>
      rw [hr, if_neg (by decide)] at hp
      cases hp
      refine Spec.of_run [(0, u)] Try.func29 rfl (Nat.le_of_ble_eq_true rfl) (by repeat (first | exact trivial | refine ⟨rfl, ?_⟩)) ?_
      refine Run.seq ?_
      refine Run.region ?_
      refine RunL.ok (OpOk.assign rfl) rfl ?_
      refine RunL.ok (OpOk.assign rfl) rfl ?_
      refine RunL.nil ?_
      refine Run.seq ?_
      refine Run.block ?_
      refine Run.seq ?_
      refine Run.region ?_
      refine RunL.ok (OpOk.move rfl) rfl ?_
      refine RunL.call cal43 rfl (s43b rd al) rfl (fun vx1 Ax1 hx1 => ?_)
      obtain ⟨x2, ⟨rfl, rfl⟩⟩ := hx1
      refine RunL.ok (OpOk.assign rfl) rfl ?_
      refine RunL.nil ?_
      refine Run.condDF rfl (by first | omega | assumption) ?_
      refine Run.seq ?_
      refine Run.region ?_
      refine RunL.ok (OpOk.move rfl) rfl ?_
      refine RunL.call cal44 rfl (s44a rd.left al.left) rfl (fun vx3 Ax3 hx3 => ?_)
      obtain ⟨x4, ⟨rfl, rfl⟩⟩ := hx3
      refine RunL.ok (OpOk.not rfl) rfl ?_
      refine RunL.ok (OpOk.assign rfl) rfl ?_
      refine RunL.nil ?_
      refine Run.condBT rfl (by rw [hr]; rfl) ?_
      refine Run.seq ?_
      refine Run.region ?_
      refine RunL.ok (OpOk.assign rfl) rfl ?_
      refine RunL.ok (OpOk.assign rfl) rfl ?_
      refine RunL.nil ?_
      refine Run.ent (Ent.ownNil' _ 5 1 (B []) rfl) ?_
      refine Run.ret2 Try.func29 rfl rfl rfl ?_
      exact ⟨_, _, rfl, (Eq.trans (frc rfl rfl) (congrArg (· * _) (asg as1)))⟩
    | true =>
      rw [hr, if_pos rfl] at hp
      cases hl : layT (strL xs) with
      | none =>
        rw [hl] at hp
        cases hp
        refine Spec.of_run [(0, u)] Try.func29 rfl (Nat.le_of_ble_eq_true rfl) (by repeat (first | exact trivial | refine ⟨rfl, ?_⟩)) ?_
        refine Run.seq ?_
        refine Run.region ?_
        refine RunL.ok (OpOk.assign rfl) rfl ?_
        refine RunL.ok (OpOk.assign rfl) rfl ?_
        refine RunL.nil ?_
        refine Run.seq ?_
        refine Run.block ?_
        refine Run.seq ?_
        refine Run.region ?_
        refine RunL.ok (OpOk.move rfl) rfl ?_
        refine RunL.call cal43 rfl (s43b rd al) rfl (fun vx1 Ax1 hx1 => ?_)
        obtain ⟨x2, ⟨rfl, rfl⟩⟩ := hx1
        refine RunL.ok (OpOk.assign rfl) rfl ?_
        refine RunL.nil ?_
        refine Run.condDF rfl (by first | omega | assumption) ?_
        refine Run.seq ?_
        refine Run.region ?_
        refine RunL.ok (OpOk.move rfl) rfl ?_
        refine RunL.call cal44 rfl (s44a rd.left al.left) rfl (fun vx3 Ax3 hx3 => ?_)
        obtain ⟨x4, ⟨rfl, rfl⟩⟩ := hx3
        refine RunL.ok (OpOk.not rfl) rfl ?_
        refine RunL.ok (OpOk.assign rfl) rfl ?_
        refine RunL.nil ?_
        refine Run.condBF rfl (by rw [hr]; rfl) ?_
        refine Run.skip ?_
        refine Run.inBlock ?_
        refine Run.seq ?_
        refine Run.region ?_
        refine RunL.ok (OpOk.move rfl) rfl ?_
        refine RunL.call cal45 rfl (s45d rd.left.left al.left.left (by assumption) (by assumption)) rfl (fun vx8 Ax8 hx8 => ?_)
        obtain ⟨x9, ⟨rfl, rfl⟩⟩ := hx8
        refine RunL.ok (OpOk.move rfl) rfl ?_
        refine RunL.ok (OpOk.ext20 rfl) rfl ?_
        refine RunL.ok (OpOk.ext21 rfl) rfl ?_
        refine RunL.ok (OpOk.assign rfl) rfl ?_
        refine RunL.ok (OpOk.assign rfl) rfl ?_
        refine RunL.nil ?_
        refine Run.seq ?_
        refine Run.seq ?_
        refine Run.region ?_
        refine RunL.ok (OpOk.move rfl) rfl ?_
        refine RunL.ok (OpOk.not rfl) rfl ?_
        refine RunL.nil ?_
        refine Run.condT rfl ?_
        refine Run.seq ?_
        refine Run.region ?_
        refine RunL.ok (OpOk.assign rfl) rfl ?_
        refine RunL.ok (OpOk.assign rfl) rfl ?_
        refine RunL.nil ?_
        refine Run.ent (Ent.ownNil' _ 5 1 (B []) rfl) ?_
        refine Run.ret2 Try.func29 rfl rfl rfl ?_
        exact ⟨_, _, rfl, (Eq.trans (frc rfl rfl) (congrArg (· * _) (asg (asg as1))))⟩
      | some b =>
        rw [hl] at hp
        cases hp
        refine Spec.of_run [(0, u)] Try.func29 rfl (Nat.le_of_ble_eq_true rfl) (by repeat (first | exact trivial | refine ⟨rfl, ?_⟩)) ?_
        refine Run.seq ?_
        refine Run.region ?_
        refine RunL.ok (OpOk.assign rfl) rfl ?_
        refine RunL.ok (OpOk.assign rfl) rfl ?_
        refine RunL.nil ?_
        refine Run.seq ?_
        refine Run.block ?_
        refine Run.seq ?_
        refine Run.region ?_
        refine RunL.ok (OpOk.move rfl) rfl ?_
        refine RunL.call cal43 rfl (s43b rd al) rfl (fun vx1 Ax1 hx1 => ?_)
        obtain ⟨x2, ⟨rfl, rfl⟩⟩ := hx1
        refine RunL.ok (OpOk.assign rfl) rfl ?_
        refine RunL.nil ?_
        refine Run.condDF rfl (by first | omega | assumption) ?_
        refine Run.seq ?_
        refine Run.region ?_
        refine RunL.ok (OpOk.move rfl) rfl ?_
        refine RunL.call cal44 rfl (s44a rd.left al.left) rfl (fun vx3 Ax3 hx3 => ?_)
        obtain ⟨x4, ⟨rfl, rfl⟩⟩ := hx3
        refine RunL.ok (OpOk.not rfl) rfl ?_
        refine RunL.ok (OpOk.assign rfl) rfl ?_
        refine RunL.nil ?_
        refine Run.condBF rfl (by rw [hr]; rfl) ?_
        refine Run.skip ?_
        refine Run.inBlock ?_
        refine Run.seq ?_
        refine Run.region ?_
        refine RunL.ok (OpOk.move rfl) rfl ?_
        refine RunL.call cal45 rfl (s45c rd.left.left al.left.left (by assumption) (by assumption)) rfl (fun vx7 Ax7 hx7 => ?_)
        obtain ⟨x8, ⟨x9, ⟨rfl, rfl⟩⟩⟩ := hx7
        refine RunL.ok (OpOk.move rfl) rfl ?_
        refine RunL.ok (OpOk.ext20 rfl) rfl ?_
        refine RunL.ok (OpOk.ext21 rfl) rfl ?_
        refine RunL.ok (OpOk.assign rfl) rfl ?_
        refine RunL.ok (OpOk.assign rfl) rfl ?_
        refine RunL.nil ?_
        refine Run.seq ?_
        refine Run.seq ?_
        refine Run.region ?_
        refine RunL.ok (OpOk.move rfl) rfl ?_
        refine RunL.ok (OpOk.not rfl) rfl ?_
        refine RunL.nil ?_
        refine Run.condF rfl ?_
        refine Run.skip ?_
        refine Run.seq ?_
        refine Run.region ?_
        refine RunL.ok (OpOk.move rfl) rfl ?_
        refine RunL.ok (OpOk.assign rfl) rfl ?_
        refine RunL.ok (OpOk.assign rfl) rfl ?_
        refine RunL.nil ?_
        refine Run.ret2 Try.func29 rfl rfl rfl ?_
        exact ⟨_, _, rfl, (congrArg (· * _) (asg (asg as1)))⟩
theorem s30 {u : Value} {m : Nat} {xs : List Ee} {out : List UInt8} {e : Int} (rd : Rd w0 A u 3 m (Fl encT66 xs)) (al : Alls (GE w0) A xs) (hp : putT (strL xs) = (out, e)) :
    Spec Try.prog w0 30 [u] A (fun v' A' => ∃ v J, v' = .tuple #[v, .int .i64 e] ∧ A' = A * J * own 5 1 v out.length (B out)) := by
  have hz : own 5 1 (Value.slice none 0 0) 0 (B []) = emp := own_nil_eq _ _
  unfold putT at hp
  rcases Decidable.em (4 < dpT (strL xs)) with h1 | h1
  · rw [if_pos h1] at hp
    cases hp
    refine Spec.of_run [(0, u)] Try.func30 rfl (Nat.le_of_ble_eq_true rfl) (by repeat (first | exact trivial | refine ⟨rfl, ?_⟩)) ?_
    refine Run.seq ?_
    refine Run.region ?_
    refine RunL.ok (OpOk.assign rfl) rfl ?_
    refine RunL.ok (OpOk.assign rfl) rfl ?_
    refine RunL.nil ?_
    refine Run.seq ?_
    refine Run.seq ?_
    refine Run.region ?_
    refine RunL.ok (OpOk.move rfl) rfl ?_
    refine RunL.call cal46 rfl (s46a rd al) rfl (fun vx1 Ax1 hx1 => ?_)
    obtain ⟨x2, ⟨rfl, rfl⟩⟩ := hx1
    refine RunL.nil ?_
    refine Run.condDT rfl (by first | omega | with_reducible rfl | assumption) ?_
    refine Run.seq ?_
    refine Run.region ?_
    refine RunL.ok (OpOk.assign rfl) rfl ?_
    refine RunL.ok (OpOk.assign rfl) rfl ?_
    refine RunL.nil ?_
    refine Run.ent (Ent.ownNil' _ 5 1 (B []) rfl) ?_
    refine Run.ret2 Try.func30 rfl rfl rfl ?_
    exact ⟨_, _, rfl, (Eq.trans (frc rfl rfl) (congrArg (· * _) as1))⟩
  · rw [if_neg h1] at hp
    cases hr : rightT (strL xs) 0 with
    | false =>
      rw [hr, if_neg (by decide)] at hp
      cases hp
      refine Spec.of_run [(0, u)] Try.func30 rfl (Nat.le_of_ble_eq_true rfl) (by repeat (first | exact trivial | refine ⟨rfl, ?_⟩)) ?_
      refine Run.seq ?_
      refine Run.region ?_
      refine RunL.ok (OpOk.assign rfl) rfl ?_
      refine RunL.ok (OpOk.assign rfl) rfl ?_
      refine RunL.nil ?_
      refine Run.seq ?_
      refine Run.seq ?_
      refine Run.region ?_
      refine RunL.ok (OpOk.move rfl) rfl ?_
      refine RunL.call cal46 rfl (s46a rd al) rfl (fun vx1 Ax1 hx1 => ?_)
      obtain ⟨x2, ⟨rfl, rfl⟩⟩ := hx1
      refine RunL.nil ?_
      refine Run.condDF rfl (by first | omega | assumption) ?_
      refine Run.skip ?_
      refine Run.seq ?_
      refine Run.seq ?_
      refine Run.region ?_
      refine RunL.ok (OpOk.move rfl) rfl ?_
      refine RunL.call cal47 rfl (s47a rd.left al.left) rfl (fun vx3 Ax3 hx3 => ?_)
      obtain ⟨x4, ⟨rfl, rfl⟩⟩ := hx3
      refine RunL.ok (OpOk.not rfl) rfl ?_
      refine RunL.nil ?_
      refine Run.condBT rfl (by rw [hr]; rfl) ?_
      refine Run.seq ?_
      refine Run.region ?_
      refine RunL.ok (OpOk.assign rfl) rfl ?_
      refine RunL.ok (OpOk.assign rfl) rfl ?_
      refine RunL.nil ?_
      refine Run.ent (Ent.ownNil' _ 5 1 (B []) rfl) ?_
      refine Run.ret2 Try.func30 rfl rfl rfl ?_
      exact ⟨_, _, rfl, (Eq.trans (frc rfl rfl) (congrArg (· * _) (asg as1)))⟩
    | true =>
      rw [hr, if_pos rfl] at hp
      cases hl : layT (strL xs) with
      | none =>
        rw [hl] at hp
        cases hp
        refine Spec.of_run [(0, u)] Try.func30 rfl (Nat.le_of_ble_eq_true rfl) (by repeat (first | exact trivial | refine ⟨rfl, ?_⟩)) ?_
        refine Run.seq ?_
        refine Run.region ?_
        refine RunL.ok (OpOk.assign rfl) rfl ?_
        refine RunL.ok (OpOk.assign rfl) rfl ?_
        refine RunL.nil ?_
        refine Run.seq ?_
        refine Run.seq ?_
        refine Run.region ?_
        refine RunL.ok (OpOk.move rfl) rfl ?_
        refine RunL.call cal46 rfl (s46a rd al) rfl (fun vx1 Ax1 hx1 => ?_)
        obtain ⟨x2, ⟨rfl, rfl⟩⟩ := hx1
        refine RunL.nil ?_
        refine Run.condDF rfl (by first | omega | assumption) ?_
        refine Run.skip ?_
        refine Run.seq ?_
        refine Run.seq ?_
        refine Run.region ?_
        refine RunL.ok (OpOk.move rfl) rfl ?_
        refine RunL.call cal47 rfl (s47a rd.left al.left) rfl (fun vx3 Ax3 hx3 => ?_)
        obtain ⟨x4, ⟨rfl, rfl⟩⟩ := hx3
        refine RunL.ok (OpOk.not rfl) rfl ?_
        refine RunL.nil ?_
        refine Run.condBF rfl (by rw [hr]; rfl) ?_
        refine Run.skip ?_
        refine Run.seq ?_
        refine Run.region ?_
        refine RunL.ok (OpOk.move rfl) rfl ?_
        refine RunL.call cal48 rfl (s48d rd.left.left al.left.left (by assumption) (by assumption)) rfl (fun vx8 Ax8 hx8 => ?_)
        obtain ⟨x9, ⟨rfl, rfl⟩⟩ := hx8
        refine RunL.ok (OpOk.move rfl) rfl ?_
        refine RunL.ok (OpOk.ext20 rfl) rfl ?_
        refine RunL.ok (OpOk.ext21 rfl) rfl ?_
        refine RunL.ok (OpOk.assign rfl) rfl ?_
        refine RunL.ok (OpOk.assign rfl) rfl ?_
        refine RunL.nil ?_
        refine Run.seq ?_
        refine Run.seq ?_
        refine Run.region ?_
        refine RunL.ok (OpOk.move rfl) rfl ?_
        refine RunL.ok (OpOk.not rfl) rfl ?_
        refine RunL.nil ?_
        refine Run.condT rfl ?_
        refine Run.seq ?_
        refine Run.region ?_
        refine RunL.ok (OpOk.assign rfl) rfl ?_
        refine RunL.ok (OpOk.assign rfl) rfl ?_
        refine RunL.nil ?_
        refine Run.ent (Ent.ownNil' _ 5 1 (B []) rfl) ?_
        refine Run.ret2 Try.func30 rfl rfl rfl ?_
        exact ⟨_, _, rfl, (Eq.trans (frc rfl rfl) (congrArg (· * _) (asg (asg as1))))⟩
      | some b =>
        rw [hl] at hp
        cases hp
        refine Spec.of_run [(0, u)] Try.func30 rfl (Nat.le_of_ble_eq_true rfl) (by repeat (first | exact trivial | refine ⟨rfl, ?_⟩)) ?_
        refine Run.seq ?_
        refine Run.region ?_
        refine RunL.ok (OpOk.assign rfl) rfl ?_
        refine RunL.ok (OpOk.assign rfl) rfl ?_
        refine RunL.nil ?_
        refine Run.seq ?_
        refine Run.seq ?_
        refine Run.region ?_
        refine RunL.ok (OpOk.move rfl) rfl ?_
        refine RunL.call cal46 rfl (s46a rd al) rfl (fun vx1 Ax1 hx1 => ?_)
        obtain ⟨x2, ⟨rfl, rfl⟩⟩ := hx1
        refine RunL.nil ?_
        refine Run.condDF rfl (by first | omega | assumption) ?_
        refine Run.skip ?_
        refine Run.seq ?_
        refine Run.seq ?_
        refine Run.region ?_
        refine RunL.ok (OpOk.move rfl) rfl ?_
        refine RunL.call cal47 rfl (s47a rd.left al.left) rfl (fun vx3 Ax3 hx3 => ?_)
        obtain ⟨x4, ⟨rfl, rfl⟩⟩ := hx3
        refine RunL.ok (OpOk.not rfl) rfl ?_
        refine RunL.nil ?_
        refine Run.condBF rfl (by rw [hr]; rfl) ?_
        refine Run.skip ?_
        refine Run.seq ?_
        refine Run.region ?_
        refine RunL.ok (OpOk.move rfl) rfl ?_
        refine RunL.call cal48 rfl (s48c rd.left.left al.left.left (by assumption) (by assumption)) rfl (fun vx7 Ax7 hx7 => ?_)
        obtain ⟨x8, ⟨x9, ⟨rfl, rfl⟩⟩⟩ := hx7
        refine RunL.ok (OpOk.move rfl) rfl ?_
        refine RunL.ok (OpOk.ext20 rfl) rfl ?_
        refine RunL.ok (OpOk.ext21 rfl) rfl ?_
        refine RunL.ok (OpOk.assign rfl) rfl ?_
        refine RunL.ok (OpOk.assign rfl) rfl ?_
        refine RunL.nil ?_
        refine Run.seq ?_
        refine Run.seq ?_
        refine Run.region ?_
        refine RunL.ok (OpOk.move rfl) rfl ?_
        refine RunL.ok (OpOk.not rfl) rfl ?_
        refine RunL.nil ?_
        refine Run.condF rfl ?_
        refine Run.skip ?_
        refine Run.seq ?_
        refine Run.region ?_
        refine RunL.ok (OpOk.move rfl) rfl ?_
        refine RunL.ok (OpOk.assign rfl) rfl ?_
        refine RunL.ok (OpOk.assign rfl) rfl ?_
        refine RunL.nil ?_
        refine Run.ret2 Try.func30 rfl rfl rfl ?_
        exact ⟨_, _, rfl, (congrArg (· * _) (asg (asg as1)))⟩
end
end Go.Proofs.Ytlheianbmpgefaa
