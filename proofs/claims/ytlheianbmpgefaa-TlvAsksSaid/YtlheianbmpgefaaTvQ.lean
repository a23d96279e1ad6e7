/- The laws TlvCuts and TlvJoins, walked. -/
import Derived.Test.YtlheianbmpgefaaTvP
namespace Go.Proofs.Ytlheianbmpgefaa
open Go Go.Proofs
set_option maxRecDepth 100000
set_option maxHeartbeats 4000000
set_option linter.unusedSimpArgs false
theorem put_last {a : Te} {t : Int} {bs : List UInt8} {f : Te} {x : List UInt8} (h : putT (appT a (.cons t bs f .nil)) = (x, 0)) : ∃ last, putT (.cons t bs f .nil) = (last, 0) ∧ last.length ≤ x.length ∧ 2 ≤ last.length := by
  obtain ⟨b1, b2, b3⟩ := put_ok h
  rw [right_app, Bool.and_eq_true] at b2
  rw [dpT_app] at b1
  rw [lay_app] at b3
  cases ha : layT a with
  | none => rw [ha] at b3; cases b3
  | some p =>
    cases hl : layT (.cons t bs f .nil) with
    | none => rw [ha, hl] at b3; cases b3
    | some last =>
      rw [ha, hl] at b3
      obtain rfl := Option.some.inj b3
      have ht := tagT_nonneg a 0 (Int.le_refl _) b2.1
      obtain ⟨b, c, _, _, _, e⟩ := lay_cons hl
      refine ⟨last, put_of (by omega) (right_mono ht.2 b2.2) hl, by rw [List.length_append]; omega, ?_⟩
      rw [e, List.length_append, show (rowT t (bodyT t bs b)).length = (bodyT t bs b).length + 2 from rfl]
      omega
theorem cut_k (cut : Int) {o l : Nat} (h1 : 2 ≤ l) (h2 : l ≤ o) (h3 : o ≤ 65535) : ∃ k : Nat, IntKind.i64.wrap (((o - 1 : Nat) : Int) - (IntKind.i64.wrap (IntKind.i64.wrap (cut.tmod ((l - 1 : Nat) : Int) + (l : Int)) - 1)).tmod ((l - 1 : Nat) : Int)) = (k : Int) ∧ o - l < k ∧ k < o := by
  have a1 := Int.tmod_lt_of_pos cut (show (0 : Int) < ((l - 1 : Nat) : Int) by omega)
  have a2 := Int.lt_tmod_of_pos cut (show (0 : Int) < ((l - 1 : Nat) : Int) by omega)
  rw [wrapI (i := cut.tmod ((l - 1 : Nat) : Int) + (l : Int)) (by omega) (by omega), wrapI (i := cut.tmod ((l - 1 : Nat) : Int) + (l : Int) - 1) (by omega) (by omega)]
  have b0 : 0 ≤ cut.tmod ((l - 1 : Nat) : Int) + (l : Int) - 1 := by omega
  rw [Int.tmod_eq_emod_of_nonneg b0]
  have b1 := Int.emod_nonneg (cut.tmod ((l - 1 : Nat) : Int) + (l : Int) - 1) (show ((l - 1 : Nat) : Int) ≠ 0 by omega)
  have b2 := Int.emod_lt_of_pos (cut.tmod ((l - 1 : Nat) : Int) + (l : Int) - 1) (show (0 : Int) < ((l - 1 : Nat) : Int) by omega)
  rw [wrapI (by omega) (by omega)]
  exact ⟨(((o - 1 : Nat) : Int) - (cut.tmod ((l - 1 : Nat) : Int) + (l : Int) - 1) % ((l - 1 : Nat) : Int)).toNat, by omega, by omega, by omega⟩
section
variable {w0 : World} {A : Asn}
theorem tlvCuts_spec {u : Value} {cut : Int} {xs : List Ee} (rd : Rd w0 (old w0) u 3 xs.length (Fl encT66 xs)) (al : Alls (GE w0) (old w0) xs) (hk : szT (strL xs)) (hm : xs.length ≤ 2513169434843) :
    Spec Try.prog w0 10 [u, .int .i64 cut] (old w0) (fun v' A' => v' = .bool true ∧ Grew (old w0) A') := by
  rcases hp : putT (strL xs) with ⟨out, e⟩
  have hpf : PutF (strL xs) out e := ⟨hp⟩
  have hsm := put_small hp
  rcases Decidable.em (e = 0) with he | he
  · subst he
    rcases Nat.eq_zero_or_pos xs.length with h0 | h0
    · refine Spec.of_run [(0, u), (1, .int .i64 cut)] Try.func10 rfl (Nat.le_of_ble_eq_true rfl) (by repeat (first | exact trivial | refine ⟨rfl, ?_⟩)) ?_
      refine Run.seq ?_
      refine Run.region ?_
      refine RunL.ok (OpOk.assign rfl) rfl ?_
      refine RunL.nil ?_
      refine Run.seq ?_
      refine Run.seq ?_
      refine Run.region ?_
      refine RunL.call cal27 rfl (s27) rfl (fun vx1 Ax1 hx1 => ?_)
      obtain ⟨x2, ⟨rfl, rfl⟩⟩ := hx1
      refine RunL.ok (OpOk.not rfl) rfl ?_
      refine RunL.nil ?_
      refine Run.condF rfl ?_
      refine Run.skip ?_
      refine Run.seq ?_
      refine Run.region ?_
      refine RunL.ok (OpOk.move rfl) rfl ?_
      refine RunL.call cal28 rfl (s28a rd.left al.left (by assumption) (by assumption)) rfl (fun vx3 Ax3 hx3 => ?_)
      obtain ⟨x4, ⟨x5, ⟨x6, rfl⟩⟩⟩ := hx3
      refine RunL.know (fun w s => (s.conv rfl).ownsE0) (fun alx7 => ?_)
      refine RunL.know (fun w s => (s.conv (frl rfl)).ownRd0) (fun rdx8 => ?_)
      refine RunL.call cal29 rfl (s29a (Rd.right rdx8).left (Alls.right alx7) (by assumption) (by assumption)) rfl (fun vx9 Ax9 hx9 => ?_)
      obtain ⟨x10, ⟨x11, ⟨rfl, rfl⟩⟩⟩ := hx9
      refine RunL.ok (OpOk.move rfl) rfl ?_
      refine RunL.ok (OpOk.ext20 rfl) rfl ?_
      refine RunL.ok (OpOk.ext21 rfl) rfl ?_
      refine RunL.ok (OpOk.assign rfl) rfl ?_
      refine RunL.ok (OpOk.assign rfl) rfl ?_
      refine RunL.nil ?_
      refine Run.seq ?_
      refine Run.seq ?_
      refine Run.region ?_
      refine RunL.ok (OpOk.move rfl) rfl ?_
      refine RunL.ok (OpOk.as (c := false) (OpOk.neq rfl rfl) (by rw [decide_eq_true (by omega)]; rfl)) rfl ?_
      refine RunL.ok (OpOk.move rfl) rfl ?_
      refine RunL.on rfl rfl ?_
      refine RunL.ok (OpOk.move rfl) rfl ?_
      refine RunL.on rfl rfl ?_
      refine RunL.ok (OpOk.lenR rfl rfl rd.left.left.left.left.left.left rfl) rfl ?_
      refine RunL.on rfl rfl ?_
      refine RunL.ok (OpOk.asT (OpOk.eql rfl rfl) (by omega)) rfl ?_
      refine RunL.ok (OpOk.pickF rfl rfl) rfl ?_
      refine RunL.nil ?_
      refine Run.condT rfl ?_
      refine Run.seq ?_
      refine Run.region ?_
      refine RunL.ok (OpOk.assign rfl) rfl ?_
      refine RunL.nil ?_
      refine Run.ret1 Try.func10 rfl rfl ?_
      exact ⟨rfl, ⟨_, (asg (asg (asg (asg (asg as1)))))⟩⟩
    · obtain ⟨pre, x, rfl⟩ : ∃ pre x, xs = pre ++ [x] := ⟨xs.dropLast, xs.getLast (by intro h; rw [h] at h0; simp at h0), (List.dropLast_concat_getLast _).symm⟩
      obtain ⟨t, bv, bs, ev, f⟩ := x
      have hst : strL (pre ++ [(t, bv, bs, ev, f)]) = appT (strL pre) (.cons t bs (strip f) .nil) := by rw [strL_append]; rfl
      have hpl := hp
      rw [hst] at hpl
      obtain ⟨last, hl, hl1, hl2⟩ := put_last hpl
      obtain ⟨k, rw_k, hk1, hk2⟩ := cut_k cut hl2 hl1 hsm
      have hgk := get_cut hpl hl hk1 hk2
      have htk : (out.take k).length = k := by rw [List.length_take]; omega
      have hlf : PutF (.cons t bs (strip f) .nil) last 0 := ⟨hl⟩
      have hlen : (pre ++ [(t, bv, bs, ev, f)]).length = pre.length + 1 := by simp
      have hg := al.at_ (t, bv, bs, ev, f) (by simp)
      have alc : Alls (GE w0) (old w0) [(t, bv, bs, ev, f)] := Alls.cons hg Alls.nil
      have rdc : Rd w0 (old w0) (cutV u ((pre ++ [(t, bv, bs, ev, f)]).length - 1) (pre ++ [(t, bv, bs, ev, f)]).length 3) 3 1 (Fl encT66 [(t, bv, bs, ev, f)]) := by
        rw [show (pre ++ [(t, bv, bs, ev, f)]).length - 1 = pre.length by omega]
        have h := Rd.cutV rd (i := pre.length) (j := (pre ++ [(t, bv, bs, ev, f)]).length) (by omega) (Nat.le_refl _)
        rw [show (pre ++ [(t, bv, bs, ev, f)]).length - pre.length = 1 by omega, FlDrop (enc := encT66) (s := 3) (fun _ => rfl), FlTake (enc := encT66) (s := 3) (fun _ => rfl), List.drop_left] at h
        exact h
      have hks : szT (strL [(t, bv, bs, ev, f)]) := by
        have key : ∀ a b : Te, szT (appT a b) → szT b := fun a => by
          induction a with
          | nil => exact fun b h => h
          | cons t bs f r _ ih => exact fun b h => ih b h.2.2.2
        rw [hst] at hk
        exact key _ _ hk
      refine Spec.of_run [(0, u), (1, .int .i64 cut)] Try.func10 rfl (Nat.le_of_ble_eq_true rfl) (by repeat (first | exact trivial | refine ⟨rfl, ?_⟩)) ?_
      refine Run.seq ?_
      refine Run.region ?_
      refine RunL.ok (OpOk.assign rfl) rfl ?_
      refine RunL.nil ?_
      refine Run.seq ?_
      refine Run.seq ?_
      refine Run.region ?_
      refine RunL.call cal27 rfl (s27) rfl (fun vx1 Ax1 hx1 => ?_)
      obtain ⟨x2, ⟨rfl, rfl⟩⟩ := hx1
      refine RunL.ok (OpOk.not rfl) rfl ?_
      refine RunL.nil ?_
      refine Run.condF rfl ?_
      refine Run.skip ?_
      refine Run.seq ?_
      refine Run.region ?_
      refine RunL.ok (OpOk.move rfl) rfl ?_
      refine RunL.call cal28 rfl (s28a rd.left al.left (by assumption) (by assumption)) rfl (fun vx3 Ax3 hx3 => ?_)
      obtain ⟨x4, ⟨x5, ⟨x6, rfl⟩⟩⟩ := hx3
      refine RunL.know (fun w s => (s.conv rfl).ownsE0) (fun alx7 => ?_)
      refine RunL.know (fun w s => (s.conv (frl rfl)).ownRd0) (fun rdx8 => ?_)
      refine RunL.call cal29 rfl (s29a (Rd.right rdx8).left (Alls.right alx7) (by assumption) (by assumption)) rfl (fun vx9 Ax9 hx9 => ?_)
      obtain ⟨x10, ⟨x11, ⟨rfl, rfl⟩⟩⟩ := hx9
      refine RunL.ok (OpOk.move rfl) rfl ?_
      refine RunL.ok (OpOk.ext20 rfl) rfl ?_
      refine RunL.ok (OpOk.ext21 rfl) rfl ?_
      refine RunL.ok (OpOk.assign rfl) rfl ?_
      refine RunL.ok (OpOk.assign rfl) rfl ?_
      refine RunL.nil ?_
      refine Run.seq ?_
      refine Run.seq ?_
      refine Run.region ?_
      refine RunL.ok (OpOk.move rfl) rfl ?_
      refine RunL.ok (OpOk.as (c := false) (OpOk.neq rfl rfl) (by rw [decide_eq_true (by omega)]; rfl)) rfl ?_
      refine RunL.ok (OpOk.move rfl) rfl ?_
      refine RunL.on rfl rfl ?_
      refine RunL.ok (OpOk.move rfl) rfl ?_
      refine RunL.on rfl rfl ?_
      refine RunL.ok (OpOk.lenR rfl rfl rd.left.left.left.left.left.left rfl) rfl ?_
      refine RunL.on rfl rfl ?_
      refine RunL.ok (OpOk.asF (OpOk.eql rfl rfl) (by omega)) rfl ?_
      refine RunL.ok (OpOk.pickF rfl rfl) rfl ?_
      refine RunL.nil ?_
      refine Run.condF rfl ?_
      refine Run.skip ?_
      refine Run.seq ?_
      refine Run.region ?_
      refine RunL.ok (OpOk.move rfl) rfl ?_
      refine RunL.ok (OpOk.move rfl) rfl ?_
      refine RunL.ok (OpOk.lenR rfl rfl rd.left.left.left.left.left.left rfl) rfl ?_
      refine RunL.ok (OpOk.subN _ 1 rfl rfl rfl rfl (by omega) (by omega)) rfl ?_
      refine RunL.ok (OpOk.cut rfl ti66 rfl rd.left.left.left.left.left.left ⟨_, rfl⟩ rfl (by omega) (by omega)) rfl ?_
      refine RunL.call cal28 rfl (s28a rdc.left.left.left.left.left.left alc.left.left.left.left.left.left (by assumption) (by omega)) rfl (fun vx12 Ax12 hx12 => ?_)
      obtain ⟨x13, ⟨x14, ⟨x15, rfl⟩⟩⟩ := hx12
      refine RunL.know (fun w s => (s.conv rfl).ownsE0) (fun alx16 => ?_)
      refine RunL.know (fun w s => (s.conv (frl rfl)).ownRd0) (fun rdx17 => ?_)
      refine RunL.call cal29 rfl (s29a (Rd.right rdx17).left (Alls.right alx16) (by assumption) (by assumption)) rfl (fun vx18 Ax18 hx18 => ?_)
      obtain ⟨x19, ⟨x20, ⟨rfl, rfl⟩⟩⟩ := hx18
      refine RunL.ok (OpOk.move rfl) rfl ?_
      refine RunL.ok (OpOk.ext20 rfl) rfl ?_
      refine RunL.ok (OpOk.ext21 rfl) rfl ?_
      refine RunL.ok (OpOk.assign rfl) rfl ?_
      refine RunL.ok (OpOk.assign rfl) rfl ?_
      refine RunL.nil ?_
      refine Run.seq ?_
      refine Run.seq ?_
      refine Run.region ?_
      refine RunL.ok (OpOk.move rfl) rfl ?_
      refine RunL.ok (OpOk.as (c := false) (OpOk.neq rfl rfl) (by rw [decide_eq_true (by omega)]; rfl)) rfl ?_
      refine RunL.ok (OpOk.move rfl) rfl ?_
      refine RunL.on rfl rfl ?_
      refine RunL.ok (OpOk.move rfl) rfl ?_
      refine RunL.on rfl rfl ?_
      refine RunL.know (fun w s => (s.conv rfl).ownRd0) (fun rdx21 => ?_)
      refine RunL.ok (OpOk.lenR rfl rfl (Rd.right rdx21) rfl) rfl ?_
      refine RunL.on rfl rfl ?_
      refine RunL.ok (OpOk.move rfl) rfl ?_
      refine RunL.on rfl rfl ?_
      refine RunL.know (fun w s => (s.conv (frl (frl (frl (frl (frl rfl)))))).ownRd0) (fun rdx22 => ?_)
      refine RunL.ok (OpOk.lenR rfl rfl (Rd.right rdx22).left.left.left.left.left rfl) rfl ?_
      refine RunL.on rfl rfl ?_
      refine RunL.ok (OpOk.asF (OpOk.gtr rfl rfl) (by omega)) rfl ?_
      refine RunL.ok (OpOk.pickF rfl rfl) rfl ?_
      refine RunL.ok (OpOk.move rfl) rfl ?_
      refine RunL.on rfl rfl ?_
      refine RunL.ok (OpOk.move rfl) rfl ?_
      refine RunL.on rfl rfl ?_
      refine RunL.ok (OpOk.lenR rfl rfl (Rd.right rdx21) rfl) rfl ?_
      refine RunL.on rfl rfl ?_
      refine RunL.ok (OpOk.asF (OpOk.lss rfl rfl) (by omega)) rfl ?_
      refine RunL.ok (OpOk.pickF rfl rfl) rfl ?_
      refine RunL.nil ?_
      refine Run.condF rfl ?_
      refine Run.skip ?_
      refine Run.seq ?_
      refine Run.region ?_
      refine RunL.ok (OpOk.move rfl) rfl ?_
      refine RunL.ok (OpOk.lenR rfl rfl (Rd.right rdx22).left.left.left.left.left rfl) rfl ?_
      refine RunL.ok (OpOk.subN _ 1 rfl rfl rfl rfl (by omega) (by omega)) rfl ?_
      refine RunL.ok (OpOk.move rfl) rfl ?_
      refine RunL.ok (OpOk.move rfl) rfl ?_
      refine RunL.ok (OpOk.lenR rfl rfl (Rd.right rdx21) rfl) rfl ?_
      refine RunL.ok (OpOk.subN _ 1 rfl rfl rfl rfl (by omega) (by omega)) rfl ?_
      refine RunL.ok (OpOk.rem rfl rfl (by omega) rfl) rfl ?_
      refine RunL.ok (OpOk.move rfl) rfl ?_
      refine RunL.ok (OpOk.lenR rfl rfl (Rd.right rdx21) rfl) rfl ?_
      refine RunL.ok (OpOk.add rfl rfl rfl) rfl ?_
      refine RunL.ok (OpOk.sub rfl rfl rfl) rfl ?_
      refine RunL.ok (OpOk.move rfl) rfl ?_
      refine RunL.ok (OpOk.lenR rfl rfl (Rd.right rdx21) rfl) rfl ?_
      refine RunL.ok (OpOk.subN _ 1 rfl rfl rfl rfl (by omega) (by omega)) rfl ?_
      refine RunL.ok (OpOk.rem rfl rfl (by omega) rfl) rfl ?_
      refine RunL.ok (OpOk.sub rfl rfl rfl) rfl ?_
      refine RunL.ok (OpOk.assign rfl) rfl ?_
      refine RunL.nil ?_
      refine Run.seq ?_
      rw [rw_k]
      refine Run.region ?_
      refine RunL.ok (OpOk.move rfl) rfl ?_
      refine RunL.ok (OpOk.move rfl) rfl ?_
      refine RunL.ok (OpOk.move rfl) rfl ?_
      refine RunL.ok (OpOk.cutM0 rfl ti5 rfl (Rd.right rdx22).left.left.left.left.left ⟨_, rfl⟩ ⟨_, rfl⟩ (by omega)) rfl ?_
      have rdk := Rd.cutMB0 rdx22 (j := k) (c := k) (by omega) (Nat.le_refl _)
      refine RunL.call cal32 rfl (s32 (Rd.right rdk).left.left.left.left.left (by assumption) (by omega)) rfl (fun vy1 Ay1 hy1 => ?_)
      obtain ⟨y2, ⟨y3, ⟨y4, ⟨rfl, ⟨y5, rfl⟩⟩⟩⟩⟩ := hy1
      refine RunL.ok (OpOk.move rfl) rfl ?_
      refine RunL.ok (OpOk.ext20 rfl) rfl ?_
      refine RunL.ok (OpOk.ext21 rfl) rfl ?_
      refine RunL.ok (OpOk.assign rfl) rfl ?_
      refine RunL.ok (OpOk.assign rfl) rfl ?_
      refine RunL.nil ?_
      refine Run.seq ?_
      refine Run.region ?_
      refine RunL.ok (OpOk.move rfl) rfl ?_
      refine RunL.ok (OpOk.asT (OpOk.eql rfl rfl) (by omega)) rfl ?_
      refine RunL.ok (OpOk.assign rfl) rfl ?_
      refine RunL.nil ?_
      refine Run.ret1 Try.func10 rfl rfl ?_
      exact ⟨rfl, ⟨_, (asg (asg (asg (asg (asg (asg (asg (asg (asg (asg (asg (asg (asg as1)))))))))))))⟩⟩
  · refine Spec.of_run [(0, u), (1, .int .i64 cut)] Try.func10 rfl (Nat.le_of_ble_eq_true rfl) (by repeat (first | exact trivial | refine ⟨rfl, ?_⟩)) ?_
    refine Run.seq ?_
    refine Run.region ?_
    refine RunL.ok (OpOk.assign rfl) rfl ?_
    refine RunL.nil ?_
    refine Run.seq ?_
    refine Run.seq ?_
    refine Run.region ?_
    refine RunL.call cal27 rfl (s27) rfl (fun vx1 Ax1 hx1 => ?_)
    obtain ⟨x2, ⟨rfl, rfl⟩⟩ := hx1
    refine RunL.ok (OpOk.not rfl) rfl ?_
    refine RunL.nil ?_
    refine Run.condF rfl ?_
    refine Run.skip ?_
    refine Run.seq ?_
    refine Run.region ?_
    refine RunL.ok (OpOk.move rfl) rfl ?_
    refine RunL.call cal28 rfl (s28a rd.left al.left (by assumption) (by assumption)) rfl (fun vx3 Ax3 hx3 => ?_)
    obtain ⟨x4, ⟨x5, ⟨x6, rfl⟩⟩⟩ := hx3
    refine RunL.know (fun w s => (s.conv rfl).ownsE0) (fun alx7 => ?_)
    refine RunL.know (fun w s => (s.conv (frl rfl)).ownRd0) (fun rdx8 => ?_)
    refine RunL.call cal29 rfl (s29a (Rd.right rdx8).left (Alls.right alx7) (by assumption) (by assumption)) rfl (fun vx9 Ax9 hx9 => ?_)
    obtain ⟨x10, ⟨x11, ⟨rfl, rfl⟩⟩⟩ := hx9
    refine RunL.ok (OpOk.move rfl) rfl ?_
    refine RunL.ok (OpOk.ext20 rfl) rfl ?_
    refine RunL.ok (OpOk.ext21 rfl) rfl ?_
    refine RunL.ok (OpOk.assign rfl) rfl ?_
    refine RunL.ok (OpOk.assign rfl) rfl ?_
    refine RunL.nil ?_
    refine Run.seq ?_
    refine Run.seq ?_
    refine Run.region ?_
    refine RunL.ok (OpOk.move rfl) rfl ?_
    refine RunL.ok (OpOk.as (c := true) (OpOk.neq rfl rfl) (by rw [decide_eq_false (by omega)]; rfl)) rfl ?_
    refine RunL.ok (OpOk.move rfl) rfl ?_
    refine RunL.off rfl rfl rfl rfl ?_
    refine RunL.off rfl rfl rfl rfl ?_
    refine RunL.off rfl rfl rfl rfl ?_
    refine RunL.ok (OpOk.pickT rfl rfl) rfl ?_
    refine RunL.nil ?_
    refine Run.condT rfl ?_
    refine Run.seq ?_
    refine Run.region ?_
    refine RunL.ok (OpOk.assign rfl) rfl ?_
    refine RunL.nil ?_
    refine Run.ret1 Try.func10 rfl rfl ?_
    exact ⟨rfl, ⟨_, (asg (asg (asg (asg (asg as1)))))⟩⟩
end
end Go.Proofs.Ytlheianbmpgefaa
