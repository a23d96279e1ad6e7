/- The law JournalSnaps, walked. -/
import Derived.Test.YteopadjihklkmaaJnK
namespace Go.Proofs.Yteopadjihklkmaa
open Go Go.Proofs
set_option maxRecDepth 100000
set_option maxHeartbeats 4000000
set_option linter.unusedSimpArgs false
set_option linter.unusedVariables false
/-- A file's bytes are whole rows, and this is what they say. -/
structure Tidy (f : List UInt8) (C : Cn) : Prop where
  len : (says f).2 = f.length
  cont : contC f = C
theorem Tidy.more {f : List UInt8} {C : Cn} {k : UInt8} {l : List (List UInt8)} (h : Tidy f C) (hk : k.toNat = 1 ∨ k.toNat = 2) (hf : l.all fine = true) : Tidy (f ++ rowsB k l) (takesC k C l) := by
  obtain ⟨h1, h2⟩ := contC_more hk h.len hf
  exact ⟨h2, by rw [h1, h.cont]⟩
theorem Tidy.nil : Tidy [] ([], false, []) := ⟨rfl, rfl⟩
theorem takes_one : ∀ (l : List (List UInt8)) (C : Cn), takesC 1 C l = (C.1, C.2.1, C.2.2 ++ l)
  | [], C => by simp [takesC]
  | b :: r, C => by
    have := takes_one r (takeC C (1, b))
    rw [takesC, List.foldl_cons, ← takesC, this]
    have e : takeC C (1, b) = (C.1, C.2.1, C.2.2 ++ [b]) := if_neg (show ¬ (1 : UInt8).toNat = 2 by decide)
    rw [e]
    simp
theorem takes_two (b : List UInt8) (C : Cn) : takesC 2 C [b] = (b, true, []) := by
  rw [takesC, List.foldl_cons, List.foldl_nil]
  exact if_pos rfl
theorem Wr.first (l : List (List UInt8)) (hl : l.length ≤ 50) : ∃ (e : Int) (f : List UInt8) (a : List UInt8) (hs : Bool) (c : List (List UInt8)), (e = 0 ∨ e = 11) ∧ Wr 16777216 (-1) [] false 1 ([], false, []) l e f (-1) false (a, hs, c) ∧ Tidy f (a, hs, c) ∧ f.length ≤ 3277000 ∧ c.length ≤ 50 ∧ a.length = 0 := by
  cases h : l.all fine with
  | true =>
    have hrl := rowsB_len (k := 1) h
    refine ⟨0, [] ++ rowsB 1 l, [], false, l, .inl rfl, ?_, ?_, by rw [List.nil_append]; omega, hl, rfl⟩
    · have := Wr.good (s := 16777216) (w := -1) (bs := []) (k := 1) (C := ([], false, [])) h (by simp; omega) (by decide) rfl
      rw [takes_one] at this
      exact this
    · have := Tidy.nil.more (k := 1) (.inl rfl) h
      rw [takes_one] at this
      exact this
  | false => exact ⟨11, [], [], false, [], .inr rfl, Wr.long h, Tidy.nil, by decide, by decide, rfl⟩
section
variable {w0 : World} {A : Asn}
theorem journalSnaps_spec {u t v : Value} {n : Nat} {ls ls2 : List (Value × List UInt8)} {sn : List UInt8} (rd : Rd w0 (old w0) u 1 ls.length (Fl encV ls)) (al : Alls (GB w0) (old w0) ls) (rdt : Rd w0 (old w0) t 1 n (B sn)) (rdv : Rd w0 (old w0) v 1 ls2.length (Fl encV ls2)) (alv : Alls (GB w0) (old w0) ls2) :
    Spec Try.prog w0 8 [u, t, v] (old w0) (fun v' A' => v' = .bool true ∧ Grew (old w0) A') := by
  have hl := rdt.lenB
  subst hl
  have hmx := rd.max
  have hmx2 := rdt.max
  have hmx3 := rdv.max
  have hcv : v.cells = #[v] := Rd.cells1 rdv
  rcases Nat.lt_or_ge 50 ls.length with hbig | hsm
  · refine Spec.of_run [(0, u), (1, t), (2, v)] Try.func8 rfl (Nat.le_of_ble_eq_true rfl) (by repeat (first | exact trivial | refine ⟨rfl, ?_⟩)) ?_
    refine Run.seq ?_
    refine Run.region ?_
    refine RunL.box rfl rfl (fun bx1 => ?_)
    refine RunL.alloc ti4 rfl (fun bx2 => ?_)
    refine RunL.nil ?_
    refine Run.seq ?_
    refine Run.seq ?_
    refine Run.region ?_
    refine RunL.call cal23 rfl (s23) rfl (fun vx3 Ax3 hx3 => ?_)
    obtain ⟨x4, ⟨rfl, rfl⟩⟩ := hx3
    refine RunL.ok (OpOk.not rfl) rfl ?_
    refine RunL.ok (OpOk.move rfl) rfl ?_
    refine RunL.on rfl rfl ?_
    refine RunL.ok (OpOk.move rfl) rfl ?_
    refine RunL.on rfl rfl ?_
    refine RunL.ok (OpOk.lenR rfl rfl rd.left.left.left rfl) rfl ?_
    refine RunL.on rfl rfl ?_
    refine RunL.ok (OpOk.asT (OpOk.gtr rfl rfl) (by omega)) rfl ?_
    refine RunL.ok (OpOk.pickF rfl rfl) rfl ?_
    refine RunL.ok (OpOk.move rfl) rfl ?_
    refine RunL.off rfl rfl rfl rfl ?_
    refine RunL.off rfl rfl rfl rfl ?_
    refine RunL.off rfl rfl rfl rfl ?_
    refine RunL.ok (OpOk.pickT rfl rfl) rfl ?_
    refine RunL.ok (OpOk.move rfl) rfl ?_
    refine RunL.off rfl rfl rfl rfl ?_
    refine RunL.off rfl rfl rfl rfl ?_
    refine RunL.off rfl rfl rfl rfl ?_
    refine RunL.ok (OpOk.pickT rfl rfl) rfl ?_
    refine RunL.nil ?_
    refine Run.condT rfl ?_
    refine Run.seq ?_
    refine Run.region ?_
    refine RunL.call cal23 rfl (s23) rfl (fun vx5 Ax5 hx5 => ?_)
    obtain ⟨x6, ⟨rfl, rfl⟩⟩ := hx5
    refine RunL.store ti4 rfl rfl rfl (frl (frl rfl)) (by exact Nat.le_of_ble_eq_true rfl) (.inl rfl) ?_
    refine RunL.nil ?_
    refine Run.retC1 (A' := _) Try.func8 rfl rfl rfl rfl Blk.pts rfl (Grew.refl _) ?_
    exact ⟨rfl, ⟨_, (asg (asg (asg as1)))⟩⟩
  · rcases Nat.lt_or_ge 50 ls2.length with hbig2 | hsm2
    · refine Spec.of_run [(0, u), (1, t), (2, v)] Try.func8 rfl (Nat.le_of_ble_eq_true rfl) (by repeat (first | exact trivial | refine ⟨rfl, ?_⟩)) ?_
      refine Run.seq ?_
      refine Run.region ?_
      refine RunL.box rfl rfl (fun bx1 => ?_)
      refine RunL.alloc ti4 rfl (fun bx2 => ?_)
      refine RunL.nil ?_
      refine Run.seq ?_
      refine Run.seq ?_
      refine Run.region ?_
      refine RunL.call cal23 rfl (s23) rfl (fun vx3 Ax3 hx3 => ?_)
      obtain ⟨x4, ⟨rfl, rfl⟩⟩ := hx3
      refine RunL.ok (OpOk.not rfl) rfl ?_
      refine RunL.ok (OpOk.move rfl) rfl ?_
      refine RunL.on rfl rfl ?_
      refine RunL.ok (OpOk.move rfl) rfl ?_
      refine RunL.on rfl rfl ?_
      refine RunL.ok (OpOk.lenR rfl rfl rd.left.left.left rfl) rfl ?_
      refine RunL.on rfl rfl ?_
      refine RunL.ok (OpOk.asF (OpOk.gtr rfl rfl) (by omega)) rfl ?_
      refine RunL.ok (OpOk.pickF rfl rfl) rfl ?_
      refine RunL.ok (OpOk.move rfl) rfl ?_
      refine RunL.on rfl rfl ?_
      rw [hcv]
      refine RunL.ok (OpOk.load rfl rfl rfl (Blk.out Blk.pts.left.left _ _ (by first | rfl | assumption))) rfl ?_
      refine RunL.on rfl rfl ?_
      refine RunL.ok (OpOk.lenR rfl rfl rdv.left.left.left rfl) rfl ?_
      refine RunL.on rfl rfl ?_
      refine RunL.ok (OpOk.asT (OpOk.gtr rfl rfl) (by omega)) rfl ?_
      refine RunL.ok (OpOk.pickF rfl rfl) rfl ?_
      refine RunL.ok (OpOk.move rfl) rfl ?_
      refine RunL.off rfl rfl rfl rfl ?_
      refine RunL.off rfl rfl rfl rfl ?_
      refine RunL.off rfl rfl rfl rfl ?_
      refine RunL.ok (OpOk.pickT rfl rfl) rfl ?_
      refine RunL.nil ?_
      refine Run.condT rfl ?_
      refine Run.seq ?_
      refine Run.region ?_
      refine RunL.call cal23 rfl (s23) rfl (fun vy1 Ay1 hy1 => ?_)
      obtain ⟨y2, ⟨rfl, rfl⟩⟩ := hy1
      refine RunL.store ti4 rfl rfl rfl (frl (frl rfl)) (by exact Nat.le_of_ble_eq_true rfl) (.inl rfl) ?_
      refine RunL.nil ?_
      refine Run.retC1 (A' := _) Try.func8 rfl rfl rfl rfl Blk.pts rfl (Grew.refl _) ?_
      exact ⟨rfl, ⟨_, (asg (asg (asg as1)))⟩⟩
    · rcases Nat.lt_or_ge 5000 sn.length with hbig3 | hsm3
      · refine Spec.of_run [(0, u), (1, t), (2, v)] Try.func8 rfl (Nat.le_of_ble_eq_true rfl) (by repeat (first | exact trivial | refine ⟨rfl, ?_⟩)) ?_
        refine Run.seq ?_
        refine Run.region ?_
        refine RunL.box rfl rfl (fun bx1 => ?_)
        refine RunL.alloc ti4 rfl (fun bx2 => ?_)
        refine RunL.nil ?_
        refine Run.seq ?_
        refine Run.seq ?_
        refine Run.region ?_
        refine RunL.call cal23 rfl (s23) rfl (fun vx3 Ax3 hx3 => ?_)
        obtain ⟨x4, ⟨rfl, rfl⟩⟩ := hx3
        refine RunL.ok (OpOk.not rfl) rfl ?_
        refine RunL.ok (OpOk.move rfl) rfl ?_
        refine RunL.on rfl rfl ?_
        refine RunL.ok (OpOk.move rfl) rfl ?_
        refine RunL.on rfl rfl ?_
        refine RunL.ok (OpOk.lenR rfl rfl rd.left.left.left rfl) rfl ?_
        refine RunL.on rfl rfl ?_
        refine RunL.ok (OpOk.asF (OpOk.gtr rfl rfl) (by omega)) rfl ?_
        refine RunL.ok (OpOk.pickF rfl rfl) rfl ?_
        refine RunL.ok (OpOk.move rfl) rfl ?_
        refine RunL.on rfl rfl ?_
        rw [hcv]
        refine RunL.ok (OpOk.load rfl rfl rfl (Blk.out Blk.pts.left.left _ _ (by first | rfl | assumption))) rfl ?_
        refine RunL.on rfl rfl ?_
        refine RunL.ok (OpOk.lenR rfl rfl rdv.left.left.left rfl) rfl ?_
        refine RunL.on rfl rfl ?_
        refine RunL.ok (OpOk.asF (OpOk.gtr rfl rfl) (by omega)) rfl ?_
        refine RunL.ok (OpOk.pickF rfl rfl) rfl ?_
        refine RunL.ok (OpOk.move rfl) rfl ?_
        refine RunL.on rfl rfl ?_
        refine RunL.ok (OpOk.move rfl) rfl ?_
        refine RunL.on rfl rfl ?_
        refine RunL.ok (OpOk.lenR rfl rfl rdt.left.left.left rfl) rfl ?_
        refine RunL.on rfl rfl ?_
        refine RunL.ok (OpOk.asT (OpOk.gtr rfl rfl) (by omega)) rfl ?_
        refine RunL.ok (OpOk.pickF rfl rfl) rfl ?_
        refine RunL.nil ?_
        refine Run.condT rfl ?_
        refine Run.seq ?_
        refine Run.region ?_
        refine RunL.call cal23 rfl (s23) rfl (fun vy1 Ay1 hy1 => ?_)
        obtain ⟨y2, ⟨rfl, rfl⟩⟩ := hy1
        refine RunL.store ti4 rfl rfl rfl (frl (frl rfl)) (by exact Nat.le_of_ble_eq_true rfl) (.inl rfl) ?_
        refine RunL.nil ?_
        refine Run.retC1 (A' := _) Try.func8 rfl rfl rfl rfl Blk.pts rfl (Grew.refl _) ?_
        exact ⟨rfl, ⟨_, (asg (asg (asg as1)))⟩⟩
      · refine Spec.of_run [(0, u), (1, t), (2, v)] Try.func8 rfl (Nat.le_of_ble_eq_true rfl) (by repeat (first | exact trivial | refine ⟨rfl, ?_⟩)) ?_
        refine Run.seq ?_
        refine Run.region ?_
        refine RunL.box rfl rfl (fun bx1 => ?_)
        refine RunL.alloc ti4 rfl (fun bx2 => ?_)
        refine RunL.nil ?_
        refine Run.seq ?_
        refine Run.seq ?_
        refine Run.region ?_
        refine RunL.call cal23 rfl (s23) rfl (fun vx3 Ax3 hx3 => ?_)
        obtain ⟨x4, ⟨rfl, rfl⟩⟩ := hx3
        refine RunL.ok (OpOk.not rfl) rfl ?_
        refine RunL.ok (OpOk.move rfl) rfl ?_
        refine RunL.on rfl rfl ?_
        refine RunL.ok (OpOk.move rfl) rfl ?_
        refine RunL.on rfl rfl ?_
        refine RunL.ok (OpOk.lenR rfl rfl rd.left.left.left rfl) rfl ?_
        refine RunL.on rfl rfl ?_
        refine RunL.ok (OpOk.asF (OpOk.gtr rfl rfl) (by omega)) rfl ?_
        refine RunL.ok (OpOk.pickF rfl rfl) rfl ?_
        refine RunL.ok (OpOk.move rfl) rfl ?_
        refine RunL.on rfl rfl ?_
        rw [hcv]
        refine RunL.ok (OpOk.load rfl rfl rfl (Blk.out Blk.pts.left.left _ _ (by first | rfl | assumption))) rfl ?_
        refine RunL.on rfl rfl ?_
        refine RunL.ok (OpOk.lenR rfl rfl rdv.left.left.left rfl) rfl ?_
        refine RunL.on rfl rfl ?_
        refine RunL.ok (OpOk.asF (OpOk.gtr rfl rfl) (by omega)) rfl ?_
        refine RunL.ok (OpOk.pickF rfl rfl) rfl ?_
        refine RunL.ok (OpOk.move rfl) rfl ?_
        refine RunL.on rfl rfl ?_
        refine RunL.ok (OpOk.move rfl) rfl ?_
        refine RunL.on rfl rfl ?_
        refine RunL.ok (OpOk.lenR rfl rfl rdt.left.left.left rfl) rfl ?_
        refine RunL.on rfl rfl ?_
        refine RunL.ok (OpOk.asF (OpOk.gtr rfl rfl) (by omega)) rfl ?_
        refine RunL.ok (OpOk.pickF rfl rfl) rfl ?_
        refine RunL.nil ?_
        refine Run.condF rfl ?_
        refine Run.skip ?_
        refine Run.seq ?_
        refine Run.region ?_
        refine RunL.call cal24 rfl (s24b (by omega)) rfl (fun vy2 Ay2 hy2 => ?_)
        obtain ⟨y3, ⟨y4, ⟨rfl, rfl⟩⟩⟩ := hy2
        refine RunL.ok (OpOk.move rfl) rfl ?_
        refine RunL.ok (OpOk.ext20 rfl) rfl ?_
        refine RunL.ok (OpOk.ext21 rfl) rfl ?_
        refine RunL.ok (OpOk.assign rfl) rfl ?_
        refine RunL.ok (OpOk.assign rfl) rfl ?_
        refine RunL.nil ?_
        refine Run.seq ?_
        refine Run.region ?_
        refine RunL.ok (OpOk.move rfl) rfl ?_
        refine RunL.call cal25 rfl (s25b (by decide)) rfl (fun vy5 Ay5 hy5 => ?_)
        obtain ⟨y6, ⟨y7, ⟨y8, ⟨y9, ⟨y10, ⟨y11, ⟨rfl, ⟨y12, rfl⟩⟩⟩⟩⟩⟩⟩⟩ := hy5
        refine RunL.ok (OpOk.move rfl) rfl ?_
        refine RunL.ok (OpOk.ext20 rfl) rfl ?_
        refine RunL.ok (OpOk.ext21 rfl) rfl ?_
        refine RunL.ok (OpOk.assign rfl) rfl ?_
        refine RunL.ok (OpOk.assign rfl) rfl ?_
        refine RunL.nil ?_
        refine Run.seq ?_
        refine Run.seq ?_
        refine Run.region ?_
        refine RunL.ok (OpOk.move rfl) rfl ?_
        refine RunL.ok (OpOk.eqlPN rfl rfl) rfl ?_
        refine RunL.ok (OpOk.move rfl) rfl ?_
        refine RunL.on rfl rfl ?_
        refine RunL.ok (OpOk.move rfl) rfl ?_
        refine RunL.on rfl rfl ?_
        refine RunL.ok (OpOk.as (c := false) (OpOk.neq rfl rfl) (by rw [decide_eq_true (by omega)]; rfl)) rfl ?_
        refine RunL.ok (OpOk.pickF rfl rfl) rfl ?_
        refine RunL.ok (OpOk.move rfl) rfl ?_
        refine RunL.on rfl rfl ?_
        refine RunL.ok (OpOk.move rfl) rfl ?_
        refine RunL.on rfl rfl ?_
        refine RunL.ok (OpOk.eqlPN rfl rfl) rfl ?_
        refine RunL.ok (OpOk.pickF rfl rfl) rfl ?_
        refine RunL.ok (OpOk.move rfl) rfl ?_
        refine RunL.on rfl rfl ?_
        refine RunL.ok (OpOk.move rfl) rfl ?_
        refine RunL.on rfl rfl ?_
        refine RunL.ok (OpOk.as (c := false) (OpOk.neq rfl rfl) (by rw [decide_eq_true (by omega)]; rfl)) rfl ?_
        refine RunL.ok (OpOk.pickF rfl rfl) rfl ?_
        refine RunL.nil ?_
        refine Run.condF rfl ?_
        refine Run.skip ?_
        refine Run.seq ?_
        refine Run.region ?_
        refine RunL.ok (OpOk.move rfl) rfl ?_
        refine RunL.ok (OpOk.move rfl) rfl ?_
        refine RunL.know (fun w s => (s.conv rfl).ownsB0) (fun aly13 => ?_)
        have hx : y10 = [] := List.map_eq_nil_iff.1 (show y10.map Prod.snd = [] from y12)
        subst hx
        rw [show contC [] = (([], false, []) : Cn) from rfl, show (says []).2 = 0 from rfl, List.take_nil]
        dsimp only
        obtain ⟨e1, f1, a1, h1, c1, he1, hW1, ht1, hf1, hc1, ha1⟩ := Wr.first (ls.map Prod.snd) (by rw [List.length_map]; exact hsm)
        have hW1b : Wr 16777216 (-1) [] false 1 ([], false, List.map Prod.snd ([] : List (Value × List UInt8))) (ls.map Prod.snd) e1 f1 (-1) false (a1, h1, c1) := hW1
        rcases he1 with rfl | rfl
        · refine RunL.call cal28 rfl (s28 rd.left.left.left.left al.left.left.left.left (by assumption) (by omega) (by omega) (by omega) (by decide) (by decide) (by omega)) rfl (fun vz1 Az1 hz1 => ?_)
          obtain ⟨z2, ⟨z3, ⟨z4, ⟨z5, ⟨z6, ⟨rfl, ⟨z7, rfl⟩⟩⟩⟩⟩⟩⟩ := hz1
          refine RunL.ok (OpOk.assign rfl) rfl ?_
          refine RunL.nil ?_
          refine Run.seq ?_
          refine Run.seq ?_
          refine Run.region ?_
          refine RunL.ok (OpOk.move rfl) rfl ?_
          refine RunL.ok (OpOk.as (c := false) (OpOk.neq rfl rfl) (by rw [decide_eq_true (by omega)]; rfl)) rfl ?_
          refine RunL.ok (OpOk.move rfl) rfl ?_
          refine RunL.off rfl rfl rfl rfl ?_
          refine RunL.off rfl rfl rfl rfl ?_
          refine RunL.ok (OpOk.pickF rfl rfl) rfl ?_
          refine RunL.ok (OpOk.move rfl) rfl ?_
          refine RunL.on rfl rfl ?_
          refine RunL.ok (OpOk.move rfl) rfl ?_
          refine RunL.on rfl rfl ?_
          refine RunL.ok (OpOk.move rfl) rfl ?_
          refine RunL.on rfl rfl ?_
          refine RunL.know (fun w s => (s.conv rfl).ownsB0) (fun alz8 => ?_)
          dsimp only at z7 ⊢
          subst z7
          obtain ⟨f2, hf2⟩ : ∃ f2 : List UInt8, f1 ++ rowsB 2 [sn] = f2 := ⟨_, rfl⟩
          have hsf : [sn].all fine = true := by simp [fine]; omega
          have hrl2 : (rowsB 2 [sn]).length = sn.length + 5 := by rw [rowsB_cons, List.length_append, rowB_len]; rfl
          have ht2 : Tidy f2 (sn, true, []) := by
            have := ht1.more (k := 2) (.inr rfl) hsf
            rwa [takes_two, hf2] at this
          have hf2l : f2.length ≤ 3283000 := by rw [← hf2, List.length_append, hrl2]; omega
          have hz5 : z5.length ≤ 50 := by rw [List.length_map] at hc1; exact hc1
          have hW2 : Wr 16777216 (-1) f1 false 2 (a1, h1, z5.map Prod.snd) [sn] 0 f2 (-1) false (sn, true, []) := by
            have := Wr.good (s := 16777216) (w := -1) (bs := f1) (k := 2) (C := (a1, h1, z5.map Prod.snd)) hsf (by omega) (by decide) hf2
            rwa [takes_two] at this
          refine RunL.call cal27 rfl (s27 rdt.left.left.left.left.left (by assumption) (by omega) (by omega) (by omega) (by omega) (by omega)) rfl (fun vq1 Aq1 hq1 => ?_)
          obtain ⟨q2, ⟨q3, ⟨q4, ⟨q5, ⟨q6, ⟨rfl, ⟨q7, rfl⟩⟩⟩⟩⟩⟩⟩ := hq1
          refine RunL.on rfl rfl ?_
          refine RunL.ok (OpOk.as (c := false) (OpOk.neq rfl rfl) (by rw [decide_eq_true (by omega)]; rfl)) rfl ?_
          refine RunL.ok (OpOk.pickF rfl rfl) rfl ?_
          refine RunL.ok (OpOk.move rfl) rfl ?_
          refine RunL.on rfl rfl ?_
          refine RunL.ok (OpOk.move rfl) rfl ?_
          refine RunL.on rfl rfl ?_
          refine RunL.know (fun w s => (s.conv rfl).ownsB0) (fun alq8 => ?_)
          refine RunL.call cal29 rfl (s29) rfl (fun vq9 Aq9 hq9 => ?_)
          obtain ⟨rfl, rfl⟩ := hq9
          refine RunL.on rfl rfl ?_
          refine RunL.ok (OpOk.neq rfl rfl) rfl ?_
          refine RunL.ok (OpOk.pickF rfl rfl) rfl ?_
          refine RunL.nil ?_
          refine Run.condN rfl (fun q10 => ?_) (fun q10 => ?_)
          · refine Run.seq ?_
            refine Run.region ?_
            refine RunL.store ti4 rfl rfl rfl (frl (frl (frl (frl (frl (frl (frl (frl (frl (frl rfl)))))))))) (by exact Nat.le_of_ble_eq_true rfl) (.inl rfl) ?_
            refine RunL.nil ?_
            refine Run.retC1 (A' := _) Try.func8 rfl rfl rfl rfl Blk.pts rfl (Grew.refl _) ?_
            have hq : q5.length = 0 := by rw [show q5 = [] from List.map_eq_nil_iff.1 q7]; rfl
            omega
          refine Run.skip ?_
          refine Run.seq ?_
          refine Run.seq ?_
          refine Run.region ?_
          refine RunL.ok (OpOk.move rfl) rfl ?_
          refine RunL.ok (OpOk.load rfl rfl rfl (Blk.out Blk.pts.left.left.left.left.left.left.left.left.left.left.left _ _ (by first | rfl | assumption))) rfl ?_
          dsimp only at q7 ⊢
          have hq5 : q5 = [] := List.map_eq_nil_iff.1 q7
          subst hq5
          cases hfl : (ls2.map Prod.snd).all fine with
          | false =>
            have hW3 : Wr 16777216 (-1) f2 false 1 (sn, true, List.map Prod.snd ([] : List (Value × List UInt8))) (ls2.map Prod.snd) 11 f2 (-1) false (sn, true, []) := Wr.long hfl
            refine RunL.call cal28 rfl (s28 rdv.left.left.left.left.left.left alv.left.left.left.left.left.left (by assumption) (by omega) (by omega) (by omega) (by omega) (by omega) (by omega)) rfl (fun vs1 As1 hs1 => ?_)
            obtain ⟨s2, ⟨s3, ⟨s4, ⟨s5, ⟨s6, ⟨rfl, ⟨s7, rfl⟩⟩⟩⟩⟩⟩⟩ := hs1
            refine RunL.ok (OpOk.as (c := true) (OpOk.neq rfl rfl) (by rw [decide_eq_false (by omega)]; rfl)) rfl ?_
            refine RunL.nil ?_
            refine Run.condT rfl ?_
            refine Run.seq ?_
            refine Run.region ?_
            refine RunL.ok (OpOk.move rfl) rfl ?_
            refine RunL.know (fun w s => (s.conv rfl).ownsB0) (fun als8 => ?_)
            refine RunL.call cal29 rfl (s29) rfl (fun vs9 As9 hs9 => ?_)
            obtain ⟨rfl, rfl⟩ := hs9
            refine RunL.ok (OpOk.eql rfl rfl) rfl ?_
            refine RunL.store ti4 rfl rfl rfl (frl (frl (frl (frl (frl (frl (frl (frl (frl (frl (frl rfl))))))))))) (by exact Nat.le_of_ble_eq_true rfl) (.inl rfl) ?_
            refine RunL.nil ?_
            refine Run.retC1 (A' := _) Try.func8 rfl rfl rfl rfl Blk.pts rfl (Grew.refl _) ?_
            have hs : s5.length = 0 := by rw [show s5 = [] from List.map_eq_nil_iff.1 s7]; rfl
            rw [hs]
            refine ⟨rfl, ?_⟩
            repeat (first | exact Grew.refl _ | refine Grew.mul ?_ _)
          | true =>
            obtain ⟨f3, hf3⟩ : ∃ f3 : List UInt8, f2 ++ rowsB 1 (ls2.map Prod.snd) = f3 := ⟨_, rfl⟩
            have hrl3 := rowsB_len (k := 1) hfl
            rw [List.length_map] at hrl3
            have ht3 : Tidy f3 (sn, true, ls2.map Prod.snd) := by
              have := ht2.more (k := 1) (.inl rfl) hfl
              rwa [takes_one, hf3] at this
            have hf3l : f3.length ≤ 6600000 := by rw [← hf3, List.length_append]; omega
            have hW3 : Wr 16777216 (-1) f2 false 1 (sn, true, List.map Prod.snd ([] : List (Value × List UInt8))) (ls2.map Prod.snd) 0 f3 (-1) false (sn, true, ls2.map Prod.snd) := by
              have := Wr.good (s := 16777216) (w := -1) (bs := f2) (k := 1) (C := (sn, true, [])) hfl (by omega) (by decide) hf3
              rwa [takes_one] at this
            refine RunL.call cal28 rfl (s28 rdv.left.left.left.left.left.left alv.left.left.left.left.left.left (by assumption) (by omega) (by omega) (by omega) (by omega) (by omega) (by omega)) rfl (fun vs1 As1 hs1 => ?_)
            obtain ⟨s2, ⟨s3, ⟨s4, ⟨s5, ⟨s6, ⟨rfl, ⟨s7, rfl⟩⟩⟩⟩⟩⟩⟩ := hs1
            refine RunL.ok (OpOk.as (c := false) (OpOk.neq rfl rfl) (by rw [decide_eq_true (by omega)]; rfl)) rfl ?_
            refine RunL.nil ?_
            refine Run.condF rfl ?_
            refine Run.skip ?_
            refine Run.seq ?_
            refine Run.seq ?_
            refine Run.region ?_
            refine RunL.ok (OpOk.assign rfl) rfl ?_
            refine RunL.nil ?_
            refine Run.block ?_
            dsimp only at s7 ⊢
            refine Run.jump ((Run.loopM0 (X := Nat × List Nat × Asn × (Nat × Value × Value × Value) × List (Value × List UInt8)) (fun x => x.2.1) (fun x => [(12, .int .i64 (x.1 : Int)), (9, .pointer (some ⟨x.2.2.2.1.1, 0, none⟩)), (7, .pointer (some ⟨y3, 0, none⟩)), (6, .pointer (some ⟨bx2, 0, none⟩)), (5, .pointer (some ⟨bx1, 0, none⟩)), (1, t)]) (fun x => old w0 * x.2.2.1 * pts bx1 (.cells #[v] 58 (0, 0)) * pts bx2 (.cells #[.bool false] 4 (0, 0)) * pts y3 (.cells #[.int .i64 (16777216), .int .i64 ((-1)), (x.2.2.2.1.2.2.2)] 145 (0, 0)) * own 5 1 (x.2.2.2.1.2.2.2) (f3).length (B (f3)) * pts (x.2.2.2.1.1) (.cells #[(x.2.2.2.1.2.1), .bool true, (x.2.2.2.1.2.2.1), .pointer (some ⟨y3, 0, none⟩), .bool false] 149 (0, 0)) * own 5 1 (x.2.2.2.1.2.1) (sn).length (B (sn)) * own 63 1 (x.2.2.2.1.2.2.1) ((x.2.2.2.2)).length (Fl encV ((x.2.2.2.2))) * ownsB 5 ((x.2.2.2.2))) (fun x => x.1 ≤ 2 ∧ x.2.2.2.2.map Prod.snd = ls2.map Prod.snd) (fun x => 2 - x.1) (0, [], _, (y6, s2, s3, s4), s5) ⟨Nat.zero_le _, s7⟩ rfl (fun x hx ih => ?_))) ⟨rfl, rfl, rfl, rfl, rfl, rfl, trivial⟩ (Grew.of (Eq.trans (frc rfl (frc rfl (frc rfl (frc rfl (frc rfl (frc rfl (frc (frl (frl (frl (frl (frl rfl))))) (frc (frl (frl (frl (frl (frl rfl))))) rfl)))))))) (congrArg (· * _) (congrArg (· * _) (congrArg (· * _) (congrArg (· * _) (congrArg (· * _) (congrArg (· * _) (congrArg (· * _) (congrArg (· * _) (asg (asg (asg (asg as1))))))))))))) (Grew.refl _))
            obtain ⟨i, ds, J, ⟨jp, sv, rv, fv⟩, recs⟩ := x
            simp only at hx ih ⊢
            obtain ⟨hi, hr⟩ := hx
            have hrl : recs.length = ls2.length := by have := congrArg List.length hr; simpa using this
            have hb : ∀ r ∈ recs, r.2.length ≤ 65535 := recs_ok hr (fun b hb => of_decide_eq_true (List.all_eq_true.1 hfl b hb))
            have hel : ∀ j, j < recs.length → (recs.getD j default).2 = (ls2.getD j default).2 := fun j hj => by
              have := congrArg (fun l => l.getD j default) hr
              simp only [snd_get hj, snd_get (show j < ls2.length by omega)] at this
              exact this
            rcases Nat.lt_or_ge i 2 with hlt | hge
            · refine Run.seq ?_
              refine Run.seq ?_
              refine Run.region ?_
              refine RunL.ok (OpOk.move rfl) rfl ?_
              refine RunL.ok (OpOk.asT (OpOk.lss rfl rfl) (by omega)) rfl ?_
              refine RunL.nil ?_
              refine Run.condT rfl ?_
              refine Run.skip ?_
              refine Run.seq ?_
              refine Run.block ?_
              refine Run.seq ?_
              refine Run.region ?_
              refine RunL.ok (OpOk.move rfl) rfl ?_
              refine RunL.know (fun w s => (s.conv (frl rfl)).ownsB0) (fun alp1 => ?_)
              refine RunL.mem (frc (frl rfl) (frc (frl rfl) (frc (frl rfl) (frc (frl rfl) rfl)))) ?_
              refine RunL.call cal33 rfl (s33 (by omega)) rfl (fun vp2 Ap2 hp2 => ?_)
              obtain ⟨p3, ⟨p4, ⟨rfl, rfl⟩⟩⟩ := hp2
              refine RunL.ok (OpOk.move rfl) rfl ?_
              refine RunL.ok (OpOk.ext20 rfl) rfl ?_
              refine RunL.ok (OpOk.ext21 rfl) rfl ?_
              refine RunL.ok (OpOk.assign rfl) rfl ?_
              refine RunL.ok (OpOk.assign rfl) rfl ?_
              refine RunL.nil ?_
              refine Run.seq ?_
              refine Run.region ?_
              refine RunL.alloc ti3 rfl (fun bp5 => ?_)
              refine RunL.store ti3 rfl rfl rfl rfl (by exact Nat.le_of_ble_eq_true rfl) (.inl rfl) ?_
              refine RunL.nil ?_
              refine Run.seq ?_
              refine Run.seq ?_
              refine Run.region ?_
              refine RunL.ok (OpOk.move rfl) rfl ?_
              refine RunL.mem (frc (frl rfl) (frc (frl rfl) (frc (frl rfl) (frc (frl rfl) rfl)))) ?_
              refine RunL.call cal30 rfl (s30 (by omega)) rfl (fun vp6 Ap6 hp6 => ?_)
              obtain ⟨p7, ⟨p8, ⟨rfl, rfl⟩⟩⟩ := hp6
              refine RunL.nil ?_
              refine Run.block ?_
              refine Run.rangeF (Z := Asn × Int) (iterJ (recs := recs) (b := p7) (v := p8) (by omega) (fun r hr => Nat.le_trans (hb r hr) (by decide))) rfl rfl (fun z => old w0 * z.1 * pts bx1 (.cells #[v] 58 (0, 0)) * pts bx2 (.cells #[.bool false] 4 (0, 0)) * pts y3 (.cells #[.int .i64 (16777216), .int .i64 ((-1)), fv] 145 (0, 0)) * own 5 1 fv (f3).length (B (f3)) * pts jp (.cells #[sv, .bool true, rv, .pointer (some ⟨y3, 0, none⟩), .bool false] 149 (0, 0)) * own 5 1 sv sn.length (B sn) * own 63 1 rv recs.length (Fl encV recs) * own 5 1 p3 sn.length (B sn) * pts bp5 (.cells #[.int .i64 z.2] 3 (0, 0))) (fun i z => z.2 = (i : Int)) (fun _ _ => False) (J * p4, 0) rfl ?_ (fun RR l rc j z uu J3 hj hz hgo _ _ => ?_) (fun z J3 D hz => ?_) (fun c z J3 D hz => hz.elim)
              · show _ * pts bp5 (.cells #[.int .i64 0] 3 (0, 0)) * _ * _ * _ * _ * _ * _ = _
                dsimp only
                simp only [← sep_assoc]
                exact (frc (frl (frl (frl (frl (frl (frl (frl (frl (frl rfl))))))))) (frc (frl (frl rfl)) (frc rfl (frc rfl (frc (frl (frl (frl rfl))) (frc (frl (frl (frl rfl))) (frc rfl (frc rfl (frc rfl (frc (frl rfl) (frc (frl rfl) (frc (frl rfl) (frc (frl rfl) rfl)))))))))))))
              · obtain ⟨J2, nk⟩ := z
                have hz : nk = (j : Int) := hz
                subst hz
                have hj2 : j < ls2.length := by omega
                have rdj : Rd w0 (old w0) (ls2.getD j default).1 1 (ls2.getD j default).2.length (B (ls2.getD j default).2) := alv.get hj2
                have hvj := Fl_V ls2 j hj2
                have hbd := hel j hj
                have hbi := hb _ (getD_mem hj)
                have hbi2 : (ls2.getD j default).2.length ≤ 65535 := by rw [← hbd]; exact hbi
                refine Run.region ?_
                refine RunL.ok (OpOk.assign rfl) rfl ?_
                refine RunL.nil ?_
                refine Run.beginRound ?_
                refine Run.block ?_
                refine Run.seq ?_
                refine Run.seq ?_
                refine Run.know (fun w s => (s.conv (frl (frl (frl (frl (frl (frl (frl (frl rfl))))))))).ownRd0) (fun rdt1 => ?_)
                refine Run.know (fun w s => (s.conv (frl (frl (frl (frl (frl (frl rfl))))))).ownRd0) (fun rdt2 => ?_)
                refine Run.know (fun w s => (s.conv (frl (frl (frl (frl (frl rfl)))))).ownRd0) (fun rdt3 => ?_)
                refine Run.know (fun w s => (s.conv (frl (frl (frl (frl rfl))))).ownRd0) (fun rdt4 => ?_)
                refine Run.know (fun w s => (s.conv (frl (frl rfl))).ownRd0) (fun rdt5 => ?_)
                (apply Run.drawD [] (by rfl) (sep_emp _).symm; case hchk => kernel_rfl)
                refine Sd.quiet 0 _ _ rfl rfl rfl rfl rfl (QOp.ok (fun X => OpOk.load rfl rfl rfl (Blk.out Blk.pts.left.left.left.left.left _ _ (by first | rfl | assumption)))) ?_
                refine Sd.quiet 1 _ _ rfl rfl rfl rfl rfl (QOp.ok (fun X => OpOk.load rfl rfl rfl (Blk.out Blk.pts.left.left.left.left.left.left.left.left.left.left.left.left.left _ _ (by first | rfl | assumption)))) ?_
                refine Sd.quiet 2 _ _ rfl rfl rfl rfl rfl (QOp.ok (fun X => OpOk.lenR rfl rfl rdv.left.left.left.left.left.left.left.left.left.left.left.left.left.left.left rfl)) ?_
                refine Sd.quiet 3 _ _ rfl rfl rfl rfl rfl (QOp.ok (fun X => OpOk.asF (OpOk.geq rfl rfl) (by omega))) ?_
                refine Sd.quiet 4 _ _ rfl rfl rfl rfl rfl (QOp.ok (fun X => OpOk.move rfl)) ?_
                refine Sd.quiet 5 _ _ rfl rfl rfl rfl rfl (QOp.ok (fun X => OpOk.move rfl)) ?_
                refine Sd.quiet 6 _ _ rfl rfl rfl rfl rfl (QOp.ok (fun X => OpOk.strOf rfl rfl rfl rfl (Rd.right rdt5).left.left.left.left)) ?_
                refine Sd.quiet 7 _ _ rfl rfl rfl rfl rfl (QOp.ok (fun X => OpOk.load rfl rfl rfl (Blk.out Blk.pts.left.left.left.left.left.left.left.left.left.left.left.left.left _ _ (by first | rfl | assumption)))) ?_
                refine Sd.quiet 8 _ _ rfl rfl rfl rfl rfl (QOp.ok (fun X => OpOk.load rfl rfl rfl (Blk.out Blk.pts.left.left.left.left.left _ _ (by first | rfl | assumption)))) ?_
                refine Sd.quiet 9 _ _ rfl rfl rfl rfl rfl (QOp.ok (fun X => OpOk.idx1N rfl ti63 rfl rdv.left.left.left.left.left.left.left.left.left.left.left.left.left.left.left rfl (by omega))) ?_
                refine Sd.quiet 10 _ _ rfl rfl rfl rfl rfl (QOp.ok (fun X => OpOk.loadRow default rfl rfl rfl rdv.left.left.left.left.left.left.left.left.left.left.left.left.left.left.left (fun _ => rfl) (by omega) rfl)) ?_
                refine Sd.quiet 11 _ _ rfl rfl rfl rfl rfl (QOp.ok (fun X => OpOk.strOf rfl rfl rfl rfl rdj.left.left.left.left.left.left.left.left.left.left.left.left.left.left.left)) ?_
                refine Sd.quiet 12 _ _ rfl rfl rfl rfl rfl (QOp.ok (fun X => OpOk.as (c := false) (OpOk.neqSS rfl rfl) (by rw [decide_eq_true (by omega)]; rfl))) ?_
                refine Sd.quiet 13 _ _ rfl rfl rfl rfl rfl (QOp.ok (fun X => OpOk.pickF rfl rfl)) ?_
                (apply Sd.tail; case hall => kernel_rfl)
                refine RunL.mem (fl2 (sep_emp _) (sep_emp _)) ?_
                refine RunL.nil ?_
                refine Run.condF rfl ?_
                refine Run.skip ?_
                refine Run.region ?_
                refine RunL.ok (OpOk.load rfl rfl rfl (Blk.out Blk.pts.left.left.left _ _ (by first | rfl | assumption))) rfl ?_
                refine RunL.ok (OpOk.add rfl rfl (wrapI (by omega) (by omega))) rfl ?_
                refine RunL.store ti3 rfl rfl rfl (frl (frl (frl rfl))) (by exact Nat.le_of_ble_eq_true rfl) (.inl rfl) ?_
                refine RunL.nil ?_
                refine Run.inBlock ?_
                refine Run.jump ((hgo (_, ((j + 1 : Nat) : Int)) (by dsimp only) [])) trivial (Grew.of (Eq.trans (frc (frl rfl) (frc (frl rfl) (frc rfl (frc (frl rfl) (frc (frl rfl) (frc (frl rfl) (frc (frl rfl) (frc (frl rfl) (frc (frl rfl) (frc (frl rfl) (frc (frl rfl) rfl))))))))))) (congrArg (· * _) (congrArg (· * _) (congrArg (· * _) (congrArg (· * _) (congrArg (· * _) (congrArg (· * _) (congrArg (· * _) (congrArg (· * _) (congrArg (· * _) (congrArg (· * _) (congrArg (· * _) (asg as1))))))))))))) (Grew.refl _))
              · obtain ⟨J2, nk⟩ := z
                have hz : nk = (recs.length : Int) := hz
                subst hz
                refine Run.inBlock ?_
                refine Run.seq ?_
                refine Run.seq ?_
                refine Run.region ?_
                refine RunL.ok (OpOk.move rfl) rfl ?_
                refine RunL.ok (OpOk.not rfl) rfl ?_
                refine RunL.ok (OpOk.move rfl) rfl ?_
                refine RunL.on rfl rfl ?_
                refine RunL.ok (OpOk.move rfl) rfl ?_
                refine RunL.on rfl rfl ?_
                refine RunL.know (fun w s => (s.conv (frl (frl (frl (frl rfl))))).ownRd0) (fun rdt1 => ?_)
                refine RunL.ok (OpOk.strOf rfl rfl rfl rfl (Rd.right rdt1).left.left.left.left) rfl ?_
                refine RunL.on rfl rfl ?_
                refine RunL.ok (OpOk.move rfl) rfl ?_
                refine RunL.on rfl rfl ?_
                refine RunL.ok (OpOk.strOf rfl rfl rfl rfl rdt.left.left.left.left.left.left.left.left.left.left.left.left.left) rfl ?_
                refine RunL.on rfl rfl ?_
                refine RunL.ok (OpOk.neqSS rfl rfl) rfl ?_
                refine RunL.ok (OpOk.pickF rfl rfl) rfl ?_
                refine RunL.ok (OpOk.move rfl) rfl ?_
                refine RunL.splitNF (t := 122) rfl (by first | omega | with_reducible rfl | assumption) ?_
                refine RunL.on rfl rfl ?_
                refine RunL.ok (OpOk.load rfl rfl rfl (Blk.out Blk.pts.left.left.left _ _ (by first | rfl | assumption))) rfl ?_
                refine RunL.on rfl rfl ?_
                refine RunL.ok (OpOk.load rfl rfl rfl (Blk.out Blk.pts.left.left.left.left.left.left.left.left.left.left.left _ _ (by first | rfl | assumption))) rfl ?_
                refine RunL.on rfl rfl ?_
                refine RunL.ok (OpOk.lenR rfl rfl rdv.left.left.left.left.left.left.left.left.left.left.left.left.left rfl) rfl ?_
                refine RunL.on rfl rfl ?_
                refine RunL.ok (OpOk.as (c := false) (OpOk.neq rfl rfl) (by rw [decide_eq_true (by omega)]; rfl)) rfl ?_
                refine RunL.ok (OpOk.pickF rfl rfl) rfl ?_
                refine RunL.nil ?_
                refine Run.condF rfl ?_
                refine Run.skip ?_
                refine Run.seq ?_
                refine Run.region ?_
                refine RunL.ok (OpOk.move rfl) rfl ?_
                refine RunL.mem (frc (frl (frl (frl (frl (frl (frl (frl (frl rfl)))))))) (frc (frl (frl (frl (frl (frl (frl (frl (frl rfl)))))))) rfl)) ?_
                refine RunL.call cal25 rfl (s25b (by omega)) rfl (fun vt3 At3 ht3 => ?_)
                obtain ⟨t4, ⟨t5, ⟨t6, ⟨t7, ⟨t8, ⟨t9, ⟨rfl, ⟨t10, rfl⟩⟩⟩⟩⟩⟩⟩⟩ := ht3
                refine RunL.ok (OpOk.move rfl) rfl ?_
                refine RunL.ok (OpOk.ext20 rfl) rfl ?_
                refine RunL.ok (OpOk.ext21 rfl) rfl ?_
                refine RunL.ok (OpOk.assign rfl) rfl ?_
                refine RunL.ok (OpOk.assign rfl) rfl ?_
                refine RunL.nil ?_
                refine Run.seq ?_
                refine Run.region ?_
                refine RunL.ok (OpOk.move rfl) rfl ?_
                refine RunL.ok (OpOk.eqlPN rfl rfl) rfl ?_
                refine RunL.ok (OpOk.move rfl) rfl ?_
                refine RunL.on rfl rfl ?_
                refine RunL.ok (OpOk.move rfl) rfl ?_
                refine RunL.on rfl rfl ?_
                refine RunL.ok (OpOk.as (c := false) (OpOk.neq rfl rfl) (by rw [decide_eq_true (by omega)]; rfl)) rfl ?_
                refine RunL.ok (OpOk.pickF rfl rfl) rfl ?_
                refine RunL.nil ?_
                refine Run.condF rfl ?_
                refine Run.skip ?_
                refine Run.inBlock ?_
                refine Run.region ?_
                refine RunL.ok (OpOk.move rfl) rfl ?_
                refine RunL.ok (OpOk.addN _ 1 rfl rfl rfl rfl (by omega)) rfl ?_
                refine RunL.ok (OpOk.assign rfl) rfl ?_
                refine RunL.nil ?_
                rw [ht3.cont] at t10
                rw [ht3.cont, ht3.len, List.take_length]
                dsimp only at t10 ⊢
                refine Run.jump ((ih (i + 1, D :: ds, _, (t4, t5, t6, t7), t8) ⟨by dsimp only; omega, t10⟩ (by dsimp only; omega))) ⟨rfl, rfl, rfl, rfl, rfl, rfl, trivial⟩ (Grew.of (Eq.trans (frc (frl (frl (frl (frl (frl (frl (frl rfl))))))) (frc rfl (frc rfl (frc rfl (frc rfl (frc rfl (frc rfl (frc (frl (frl (frl (frl (frl (frl (frl (frl rfl)))))))) (frc (frl (frl (frl (frl (frl (frl (frl (frl rfl)))))))) rfl))))))))) (congrArg (· * _) (congrArg (· * _) (congrArg (· * _) (congrArg (· * _) (congrArg (· * _) (congrArg (· * _) (congrArg (· * _) (congrArg (· * _) (congrArg (· * _) (asg (asg (asg (asg (asg (asg (asg (asg as1)))))))))))))))))) (Grew.refl _))
            · obtain rfl : i = 2 := by omega
              clear ih
              refine Run.seq ?_
              refine Run.seq ?_
              refine Run.region ?_
              refine RunL.ok (OpOk.move rfl) rfl ?_
              refine RunL.ok (OpOk.asF (OpOk.lss rfl rfl) (by omega)) rfl ?_
              refine RunL.nil ?_
              refine Run.condF rfl ?_
              refine Run.exit rfl ?_
              refine Run.seq ?_
              refine Run.region ?_
              refine RunL.store ti4 rfl rfl rfl (frl (frl (frl (frl (frl (frl (frl rfl))))))) (by exact Nat.le_of_ble_eq_true rfl) (.inl rfl) ?_
              refine RunL.nil ?_
              refine Run.mem (frc (frl rfl) rfl) ?_
              refine Run.shut ?_
              refine Run.retC1 (A' := _) Try.func8 rfl rfl rfl rfl Blk.pts rfl (Grew.refl _) ?_
              exact ⟨rfl, ⟨_, (asg (asg (asg (asg (asg (asg (asg (asg as1))))))))⟩⟩
        · refine RunL.call cal28 rfl (s28 rd.left.left.left.left al.left.left.left.left (by assumption) (by omega) (by omega) (by omega) (by decide) (by decide) (by omega)) rfl (fun vz1 Az1 hz1 => ?_)
          obtain ⟨z2, ⟨z3, ⟨z4, ⟨z5, ⟨z6, ⟨rfl, ⟨z7, rfl⟩⟩⟩⟩⟩⟩⟩ := hz1
          refine RunL.ok (OpOk.assign rfl) rfl ?_
          refine RunL.nil ?_
          refine Run.seq ?_
          refine Run.seq ?_
          refine Run.region ?_
          refine RunL.ok (OpOk.move rfl) rfl ?_
          refine RunL.ok (OpOk.as (c := true) (OpOk.neq rfl rfl) (by rw [decide_eq_false (by omega)]; rfl)) rfl ?_
          refine RunL.ok (OpOk.move rfl) rfl ?_
          refine RunL.on rfl rfl ?_
          refine RunL.ok (OpOk.move rfl) rfl ?_
          refine RunL.on rfl rfl ?_
          refine RunL.ok (OpOk.as (c := false) (OpOk.neq rfl rfl) (by rw [decide_eq_true (by omega)]; rfl)) rfl ?_
          refine RunL.ok (OpOk.pickT rfl rfl) rfl ?_
          refine RunL.ok (OpOk.move rfl) rfl ?_
          refine RunL.on rfl rfl ?_
          refine RunL.ok (OpOk.move rfl) rfl ?_
          refine RunL.on rfl rfl ?_
          refine RunL.ok (OpOk.move rfl) rfl ?_
          refine RunL.on rfl rfl ?_
          refine RunL.know (fun w s => (s.conv rfl).ownsB0) (fun alz8 => ?_)
          dsimp only at z7 ⊢
          subst z7
          obtain ⟨f2, hf2⟩ : ∃ f2 : List UInt8, f1 ++ rowsB 2 [sn] = f2 := ⟨_, rfl⟩
          have hsf : [sn].all fine = true := by simp [fine]; omega
          have hrl2 : (rowsB 2 [sn]).length = sn.length + 5 := by rw [rowsB_cons, List.length_append, rowB_len]; rfl
          have ht2 : Tidy f2 (sn, true, []) := by
            have := ht1.more (k := 2) (.inr rfl) hsf
            rwa [takes_two, hf2] at this
          have hf2l : f2.length ≤ 3283000 := by rw [← hf2, List.length_append, hrl2]; omega
          have hz5 : z5.length ≤ 50 := by rw [List.length_map] at hc1; exact hc1
          have hW2 : Wr 16777216 (-1) f1 false 2 (a1, h1, z5.map Prod.snd) [sn] 0 f2 (-1) false (sn, true, []) := by
            have := Wr.good (s := 16777216) (w := -1) (bs := f1) (k := 2) (C := (a1, h1, z5.map Prod.snd)) hsf (by omega) (by decide) hf2
            rwa [takes_two] at this
          refine RunL.call cal27 rfl (s27 rdt.left.left.left.left.left (by assumption) (by omega) (by omega) (by omega) (by omega) (by omega)) rfl (fun vq1 Aq1 hq1 => ?_)
          obtain ⟨q2, ⟨q3, ⟨q4, ⟨q5, ⟨q6, ⟨rfl, ⟨q7, rfl⟩⟩⟩⟩⟩⟩⟩ := hq1
          refine RunL.on rfl rfl ?_
          refine RunL.ok (OpOk.as (c := false) (OpOk.neq rfl rfl) (by rw [decide_eq_true (by omega)]; rfl)) rfl ?_
          refine RunL.ok (OpOk.pickF rfl rfl) rfl ?_
          refine RunL.ok (OpOk.move rfl) rfl ?_
          refine RunL.on rfl rfl ?_
          refine RunL.ok (OpOk.move rfl) rfl ?_
          refine RunL.on rfl rfl ?_
          refine RunL.know (fun w s => (s.conv rfl).ownsB0) (fun alq8 => ?_)
          refine RunL.call cal29 rfl (s29) rfl (fun vq9 Aq9 hq9 => ?_)
          obtain ⟨rfl, rfl⟩ := hq9
          refine RunL.on rfl rfl ?_
          refine RunL.ok (OpOk.neq rfl rfl) rfl ?_
          refine RunL.ok (OpOk.pickF rfl rfl) rfl ?_
          refine RunL.nil ?_
          refine Run.condN rfl (fun q10 => ?_) (fun q10 => ?_)
          · refine Run.seq ?_
            refine Run.region ?_
            refine RunL.store ti4 rfl rfl rfl (frl (frl (frl (frl (frl (frl (frl (frl (frl (frl rfl)))))))))) (by exact Nat.le_of_ble_eq_true rfl) (.inl rfl) ?_
            refine RunL.nil ?_
            refine Run.retC1 (A' := _) Try.func8 rfl rfl rfl rfl Blk.pts rfl (Grew.refl _) ?_
            have hq : q5.length = 0 := by rw [show q5 = [] from List.map_eq_nil_iff.1 q7]; rfl
            omega
          refine Run.skip ?_
          refine Run.seq ?_
          refine Run.seq ?_
          refine Run.region ?_
          refine RunL.ok (OpOk.move rfl) rfl ?_
          refine RunL.ok (OpOk.load rfl rfl rfl (Blk.out Blk.pts.left.left.left.left.left.left.left.left.left.left.left _ _ (by first | rfl | assumption))) rfl ?_
          dsimp only at q7 ⊢
          have hq5 : q5 = [] := List.map_eq_nil_iff.1 q7
          subst hq5
          cases hfl : (ls2.map Prod.snd).all fine with
          | false =>
            have hW3 : Wr 16777216 (-1) f2 false 1 (sn, true, List.map Prod.snd ([] : List (Value × List UInt8))) (ls2.map Prod.snd) 11 f2 (-1) false (sn, true, []) := Wr.long hfl
            refine RunL.call cal28 rfl (s28 rdv.left.left.left.left.left.left alv.left.left.left.left.left.left (by assumption) (by omega) (by omega) (by omega) (by omega) (by omega) (by omega)) rfl (fun vs1 As1 hs1 => ?_)
            obtain ⟨s2, ⟨s3, ⟨s4, ⟨s5, ⟨s6, ⟨rfl, ⟨s7, rfl⟩⟩⟩⟩⟩⟩⟩ := hs1
            refine RunL.ok (OpOk.as (c := true) (OpOk.neq rfl rfl) (by rw [decide_eq_false (by omega)]; rfl)) rfl ?_
            refine RunL.nil ?_
            refine Run.condT rfl ?_
            refine Run.seq ?_
            refine Run.region ?_
            refine RunL.ok (OpOk.move rfl) rfl ?_
            refine RunL.know (fun w s => (s.conv rfl).ownsB0) (fun als8 => ?_)
            refine RunL.call cal29 rfl (s29) rfl (fun vs9 As9 hs9 => ?_)
            obtain ⟨rfl, rfl⟩ := hs9
            refine RunL.ok (OpOk.eql rfl rfl) rfl ?_
            refine RunL.store ti4 rfl rfl rfl (frl (frl (frl (frl (frl (frl (frl (frl (frl (frl (frl rfl))))))))))) (by exact Nat.le_of_ble_eq_true rfl) (.inl rfl) ?_
            refine RunL.nil ?_
            refine Run.retC1 (A' := _) Try.func8 rfl rfl rfl rfl Blk.pts rfl (Grew.refl _) ?_
            have hs : s5.length = 0 := by rw [show s5 = [] from List.map_eq_nil_iff.1 s7]; rfl
            rw [hs]
            refine ⟨rfl, ?_⟩
            repeat (first | exact Grew.refl _ | refine Grew.mul ?_ _)
          | true =>
            obtain ⟨f3, hf3⟩ : ∃ f3 : List UInt8, f2 ++ rowsB 1 (ls2.map Prod.snd) = f3 := ⟨_, rfl⟩
            have hrl3 := rowsB_len (k := 1) hfl
            rw [List.length_map] at hrl3
            have ht3 : Tidy f3 (sn, true, ls2.map Prod.snd) := by
              have := ht2.more (k := 1) (.inl rfl) hfl
              rwa [takes_one, hf3] at this
            have hf3l : f3.length ≤ 6600000 := by rw [← hf3, List.length_append]; omega
            have hW3 : Wr 16777216 (-1) f2 false 1 (sn, true, List.map Prod.snd ([] : List (Value × List UInt8))) (ls2.map Prod.snd) 0 f3 (-1) false (sn, true, ls2.map Prod.snd) := by
              have := Wr.good (s := 16777216) (w := -1) (bs := f2) (k := 1) (C := (sn, true, [])) hfl (by omega) (by decide) hf3
              rwa [takes_one] at this
            refine RunL.call cal28 rfl (s28 rdv.left.left.left.left.left.left alv.left.left.left.left.left.left (by assumption) (by omega) (by omega) (by omega) (by omega) (by omega) (by omega)) rfl (fun vs1 As1 hs1 => ?_)
            obtain ⟨s2, ⟨s3, ⟨s4, ⟨s5, ⟨s6, ⟨rfl, ⟨s7, rfl⟩⟩⟩⟩⟩⟩⟩ := hs1
            refine RunL.ok (OpOk.as (c := false) (OpOk.neq rfl rfl) (by rw [decide_eq_true (by omega)]; rfl)) rfl ?_
            refine RunL.nil ?_
            refine Run.condF rfl ?_
            refine Run.skip ?_
            refine Run.seq ?_
            refine Run.seq ?_
            refine Run.region ?_
            refine RunL.ok (OpOk.assign rfl) rfl ?_
            refine RunL.nil ?_
            refine Run.block ?_
            dsimp only at s7 ⊢
            refine Run.jump ((Run.loopM0 (X := Nat × List Nat × Asn × (Nat × Value × Value × Value) × List (Value × List UInt8)) (fun x => x.2.1) (fun x => [(12, .int .i64 (x.1 : Int)), (9, .pointer (some ⟨x.2.2.2.1.1, 0, none⟩)), (7, .pointer (some ⟨y3, 0, none⟩)), (6, .pointer (some ⟨bx2, 0, none⟩)), (5, .pointer (some ⟨bx1, 0, none⟩)), (1, t)]) (fun x => old w0 * x.2.2.1 * pts bx1 (.cells #[v] 58 (0, 0)) * pts bx2 (.cells #[.bool false] 4 (0, 0)) * pts y3 (.cells #[.int .i64 (16777216), .int .i64 ((-1)), (x.2.2.2.1.2.2.2)] 145 (0, 0)) * own 5 1 (x.2.2.2.1.2.2.2) (f3).length (B (f3)) * pts (x.2.2.2.1.1) (.cells #[(x.2.2.2.1.2.1), .bool true, (x.2.2.2.1.2.2.1), .pointer (some ⟨y3, 0, none⟩), .bool false] 149 (0, 0)) * own 5 1 (x.2.2.2.1.2.1) (sn).length (B (sn)) * own 63 1 (x.2.2.2.1.2.2.1) ((x.2.2.2.2)).length (Fl encV ((x.2.2.2.2))) * ownsB 5 ((x.2.2.2.2))) (fun x => x.1 ≤ 2 ∧ x.2.2.2.2.map Prod.snd = ls2.map Prod.snd) (fun x => 2 - x.1) (0, [], _, (y6, s2, s3, s4), s5) ⟨Nat.zero_le _, s7⟩ rfl (fun x hx ih => ?_))) ⟨rfl, rfl, rfl, rfl, rfl, rfl, trivial⟩ (Grew.of (Eq.trans (frc rfl (frc rfl (frc rfl (frc rfl (frc rfl (frc rfl (frc (frl (frl (frl (frl (frl rfl))))) (frc (frl (frl (frl (frl (frl rfl))))) rfl)))))))) (congrArg (· * _) (congrArg (· * _) (congrArg (· * _) (congrArg (· * _) (congrArg (· * _) (congrArg (· * _) (congrArg (· * _) (congrArg (· * _) (asg (asg (asg (asg as1))))))))))))) (Grew.refl _))
            obtain ⟨i, ds, J, ⟨jp, sv, rv, fv⟩, recs⟩ := x
            simp only at hx ih ⊢
            obtain ⟨hi, hr⟩ := hx
            have hrl : recs.length = ls2.length := by have := congrArg List.length hr; simpa using this
            have hb : ∀ r ∈ recs, r.2.length ≤ 65535 := recs_ok hr (fun b hb => of_decide_eq_true (List.all_eq_true.1 hfl b hb))
            have hel : ∀ j, j < recs.length → (recs.getD j default).2 = (ls2.getD j default).2 := fun j hj => by
              have := congrArg (fun l => l.getD j default) hr
              simp only [snd_get hj, snd_get (show j < ls2.length by omega)] at this
              exact this
            rcases Nat.lt_or_ge i 2 with hlt | hge
            · refine Run.seq ?_
              refine Run.seq ?_
              refine Run.region ?_
              refine RunL.ok (OpOk.move rfl) rfl ?_
              refine RunL.ok (OpOk.asT (OpOk.lss rfl rfl) (by omega)) rfl ?_
              refine RunL.nil ?_
              refine Run.condT rfl ?_
              refine Run.skip ?_
              refine Run.seq ?_
              refine Run.block ?_
              refine Run.seq ?_
              refine Run.region ?_
              refine RunL.ok (OpOk.move rfl) rfl ?_
              refine RunL.know (fun w s => (s.conv (frl rfl)).ownsB0) (fun alp1 => ?_)
              refine RunL.mem (frc (frl rfl) (frc (frl rfl) (frc (frl rfl) (frc (frl rfl) rfl)))) ?_
              refine RunL.call cal33 rfl (s33 (by omega)) rfl (fun vp2 Ap2 hp2 => ?_)
              obtain ⟨p3, ⟨p4, ⟨rfl, rfl⟩⟩⟩ := hp2
              refine RunL.ok (OpOk.move rfl) rfl ?_
              refine RunL.ok (OpOk.ext20 rfl) rfl ?_
              refine RunL.ok (OpOk.ext21 rfl) rfl ?_
              refine RunL.ok (OpOk.assign rfl) rfl ?_
              refine RunL.ok (OpOk.assign rfl) rfl ?_
              refine RunL.nil ?_
              refine Run.seq ?_
              refine Run.region ?_
              refine RunL.alloc ti3 rfl (fun bp5 => ?_)
              refine RunL.store ti3 rfl rfl rfl rfl (by exact Nat.le_of_ble_eq_true rfl) (.inl rfl) ?_
              refine RunL.nil ?_
              refine Run.seq ?_
              refine Run.seq ?_
              refine Run.region ?_
              refine RunL.ok (OpOk.move rfl) rfl ?_
              refine RunL.mem (frc (frl rfl) (frc (frl rfl) (frc (frl rfl) (frc (frl rfl) rfl)))) ?_
              refine RunL.call cal30 rfl (s30 (by omega)) rfl (fun vp6 Ap6 hp6 => ?_)
              obtain ⟨p7, ⟨p8, ⟨rfl, rfl⟩⟩⟩ := hp6
              refine RunL.nil ?_
              refine Run.block ?_
              refine Run.rangeF (Z := Asn × Int) (iterJ (recs := recs) (b := p7) (v := p8) (by omega) (fun r hr => Nat.le_trans (hb r hr) (by decide))) rfl rfl (fun z => old w0 * z.1 * pts bx1 (.cells #[v] 58 (0, 0)) * pts bx2 (.cells #[.bool false] 4 (0, 0)) * pts y3 (.cells #[.int .i64 (16777216), .int .i64 ((-1)), fv] 145 (0, 0)) * own 5 1 fv (f3).length (B (f3)) * pts jp (.cells #[sv, .bool true, rv, .pointer (some ⟨y3, 0, none⟩), .bool false] 149 (0, 0)) * own 5 1 sv sn.length (B sn) * own 63 1 rv recs.length (Fl encV recs) * own 5 1 p3 sn.length (B sn) * pts bp5 (.cells #[.int .i64 z.2] 3 (0, 0))) (fun i z => z.2 = (i : Int)) (fun _ _ => False) (J * p4, 0) rfl ?_ (fun RR l rc j z uu J3 hj hz hgo _ _ => ?_) (fun z J3 D hz => ?_) (fun c z J3 D hz => hz.elim)
              · show _ * pts bp5 (.cells #[.int .i64 0] 3 (0, 0)) * _ * _ * _ * _ * _ * _ = _
                dsimp only
                simp only [← sep_assoc]
                exact (frc (frl (frl (frl (frl (frl (frl (frl (frl (frl rfl))))))))) (frc (frl (frl rfl)) (frc rfl (frc rfl (frc (frl (frl (frl rfl))) (frc (frl (frl (frl rfl))) (frc rfl (frc rfl (frc rfl (frc (frl rfl) (frc (frl rfl) (frc (frl rfl) (frc (frl rfl) rfl)))))))))))))
              · obtain ⟨J2, nk⟩ := z
                have hz : nk = (j : Int) := hz
                subst hz
                have hj2 : j < ls2.length := by omega
                have rdj : Rd w0 (old w0) (ls2.getD j default).1 1 (ls2.getD j default).2.length (B (ls2.getD j default).2) := alv.get hj2
                have hvj := Fl_V ls2 j hj2
                have hbd := hel j hj
                have hbi := hb _ (getD_mem hj)
                have hbi2 : (ls2.getD j default).2.length ≤ 65535 := by rw [← hbd]; exact hbi
                refine Run.region ?_
                refine RunL.ok (OpOk.assign rfl) rfl ?_
                refine RunL.nil ?_
                refine Run.beginRound ?_
                refine Run.block ?_
                refine Run.seq ?_
                refine Run.seq ?_
                refine Run.know (fun w s => (s.conv (frl (frl (frl (frl (frl (frl (frl (frl rfl))))))))).ownRd0) (fun rdt1 => ?_)
                refine Run.know (fun w s => (s.conv (frl (frl (frl (frl (frl (frl rfl))))))).ownRd0) (fun rdt2 => ?_)
                refine Run.know (fun w s => (s.conv (frl (frl (frl (frl (frl rfl)))))).ownRd0) (fun rdt3 => ?_)
                refine Run.know (fun w s => (s.conv (frl (frl (frl (frl rfl))))).ownRd0) (fun rdt4 => ?_)
                refine Run.know (fun w s => (s.conv (frl (frl rfl))).ownRd0) (fun rdt5 => ?_)
                (apply Run.drawD [] (by rfl) (sep_emp _).symm; case hchk => kernel_rfl)
                refine Sd.quiet 0 _ _ rfl rfl rfl rfl rfl (QOp.ok (fun X => OpOk.load rfl rfl rfl (Blk.out Blk.pts.left.left.left.left.left _ _ (by first | rfl | assumption)))) ?_
                refine Sd.quiet 1 _ _ rfl rfl rfl rfl rfl (QOp.ok (fun X => OpOk.load rfl rfl rfl (Blk.out Blk.pts.left.left.left.left.left.left.left.left.left.left.left.left.left _ _ (by first | rfl | assumption)))) ?_
                refine Sd.quiet 2 _ _ rfl rfl rfl rfl rfl (QOp.ok (fun X => OpOk.lenR rfl rfl rdv.left.left.left.left.left.left.left.left.left.left.left.left.left.left.left rfl)) ?_
                refine Sd.quiet 3 _ _ rfl rfl rfl rfl rfl (QOp.ok (fun X => OpOk.asF (OpOk.geq rfl rfl) (by omega))) ?_
                refine Sd.quiet 4 _ _ rfl rfl rfl rfl rfl (QOp.ok (fun X => OpOk.move rfl)) ?_
                refine Sd.quiet 5 _ _ rfl rfl rfl rfl rfl (QOp.ok (fun X => OpOk.move rfl)) ?_
                refine Sd.quiet 6 _ _ rfl rfl rfl rfl rfl (QOp.ok (fun X => OpOk.strOf rfl rfl rfl rfl (Rd.right rdt5).left.left.left.left)) ?_
                refine Sd.quiet 7 _ _ rfl rfl rfl rfl rfl (QOp.ok (fun X => OpOk.load rfl rfl rfl (Blk.out Blk.pts.left.left.left.left.left.left.left.left.left.left.left.left.left _ _ (by first | rfl | assumption)))) ?_
                refine Sd.quiet 8 _ _ rfl rfl rfl rfl rfl (QOp.ok (fun X => OpOk.load rfl rfl rfl (Blk.out Blk.pts.left.left.left.left.left _ _ (by first | rfl | assumption)))) ?_
                refine Sd.quiet 9 _ _ rfl rfl rfl rfl rfl (QOp.ok (fun X => OpOk.idx1N rfl ti63 rfl rdv.left.left.left.left.left.left.left.left.left.left.left.left.left.left.left rfl (by omega))) ?_
                refine Sd.quiet 10 _ _ rfl rfl rfl rfl rfl (QOp.ok (fun X => OpOk.loadRow default rfl rfl rfl rdv.left.left.left.left.left.left.left.left.left.left.left.left.left.left.left (fun _ => rfl) (by omega) rfl)) ?_
                refine Sd.quiet 11 _ _ rfl rfl rfl rfl rfl (QOp.ok (fun X => OpOk.strOf rfl rfl rfl rfl rdj.left.left.left.left.left.left.left.left.left.left.left.left.left.left.left)) ?_
                refine Sd.quiet 12 _ _ rfl rfl rfl rfl rfl (QOp.ok (fun X => OpOk.as (c := false) (OpOk.neqSS rfl rfl) (by rw [decide_eq_true (by omega)]; rfl))) ?_
                refine Sd.quiet 13 _ _ rfl rfl rfl rfl rfl (QOp.ok (fun X => OpOk.pickF rfl rfl)) ?_
                (apply Sd.tail; case hall => kernel_rfl)
                refine RunL.mem (fl2 (sep_emp _) (sep_emp _)) ?_
                refine RunL.nil ?_
                refine Run.condF rfl ?_
                refine Run.skip ?_
                refine Run.region ?_
                refine RunL.ok (OpOk.load rfl rfl rfl (Blk.out Blk.pts.left.left.left _ _ (by first | rfl | assumption))) rfl ?_
                refine RunL.ok (OpOk.add rfl rfl (wrapI (by omega) (by omega))) rfl ?_
                refine RunL.store ti3 rfl rfl rfl (frl (frl (frl rfl))) (by exact Nat.le_of_ble_eq_true rfl) (.inl rfl) ?_
                refine RunL.nil ?_
                refine Run.inBlock ?_
                refine Run.jump ((hgo (_, ((j + 1 : Nat) : Int)) (by dsimp only) [])) trivial (Grew.of (Eq.trans (frc (frl rfl) (frc (frl rfl) (frc rfl (frc (frl rfl) (frc (frl rfl) (frc (frl rfl) (frc (frl rfl) (frc (frl rfl) (frc (frl rfl) (frc (frl rfl) (frc (frl rfl) rfl))))))))))) (congrArg (· * _) (congrArg (· * _) (congrArg (· * _) (congrArg (· * _) (congrArg (· * _) (congrArg (· * _) (congrArg (· * _) (congrArg (· * _) (congrArg (· * _) (congrArg (· * _) (congrArg (· * _) (asg as1))))))))))))) (Grew.refl _))
              · obtain ⟨J2, nk⟩ := z
                have hz : nk = (recs.length : Int) := hz
                subst hz
                refine Run.inBlock ?_
                refine Run.seq ?_
                refine Run.seq ?_
                refine Run.region ?_
                refine RunL.ok (OpOk.move rfl) rfl ?_
                refine RunL.ok (OpOk.not rfl) rfl ?_
                refine RunL.ok (OpOk.move rfl) rfl ?_
                refine RunL.on rfl rfl ?_
                refine RunL.ok (OpOk.move rfl) rfl ?_
                refine RunL.on rfl rfl ?_
                refine RunL.know (fun w s => (s.conv (frl (frl (frl (frl rfl))))).ownRd0) (fun rdt1 => ?_)
                refine RunL.ok (OpOk.strOf rfl rfl rfl rfl (Rd.right rdt1).left.left.left.left) rfl ?_
                refine RunL.on rfl rfl ?_
                refine RunL.ok (OpOk.move rfl) rfl ?_
                refine RunL.on rfl rfl ?_
                refine RunL.ok (OpOk.strOf rfl rfl rfl rfl rdt.left.left.left.left.left.left.left.left.left.left.left.left.left) rfl ?_
                refine RunL.on rfl rfl ?_
                refine RunL.ok (OpOk.neqSS rfl rfl) rfl ?_
                refine RunL.ok (OpOk.pickF rfl rfl) rfl ?_
                refine RunL.ok (OpOk.move rfl) rfl ?_
                refine RunL.splitNF (t := 122) rfl (by first | omega | with_reducible rfl | assumption) ?_
                refine RunL.on rfl rfl ?_
                refine RunL.ok (OpOk.load rfl rfl rfl (Blk.out Blk.pts.left.left.left _ _ (by first | rfl | assumption))) rfl ?_
                refine RunL.on rfl rfl ?_
                refine RunL.ok (OpOk.load rfl rfl rfl (Blk.out Blk.pts.left.left.left.left.left.left.left.left.left.left.left _ _ (by first | rfl | assumption))) rfl ?_
                refine RunL.on rfl rfl ?_
                refine RunL.ok (OpOk.lenR rfl rfl rdv.left.left.left.left.left.left.left.left.left.left.left.left.left rfl) rfl ?_
                refine RunL.on rfl rfl ?_
                refine RunL.ok (OpOk.as (c := false) (OpOk.neq rfl rfl) (by rw [decide_eq_true (by omega)]; rfl)) rfl ?_
                refine RunL.ok (OpOk.pickF rfl rfl) rfl ?_
                refine RunL.nil ?_
                refine Run.condF rfl ?_
                refine Run.skip ?_
                refine Run.seq ?_
                refine Run.region ?_
                refine RunL.ok (OpOk.move rfl) rfl ?_
                refine RunL.mem (frc (frl (frl (frl (frl (frl (frl (frl (frl rfl)))))))) (frc (frl (frl (frl (frl (frl (frl (frl (frl rfl)))))))) rfl)) ?_
                refine RunL.call cal25 rfl (s25b (by omega)) rfl (fun vt3 At3 ht3 => ?_)
                obtain ⟨t4, ⟨t5, ⟨t6, ⟨t7, ⟨t8, ⟨t9, ⟨rfl, ⟨t10, rfl⟩⟩⟩⟩⟩⟩⟩⟩ := ht3
                refine RunL.ok (OpOk.move rfl) rfl ?_
                refine RunL.ok (OpOk.ext20 rfl) rfl ?_
                refine RunL.ok (OpOk.ext21 rfl) rfl ?_
                refine RunL.ok (OpOk.assign rfl) rfl ?_
                refine RunL.ok (OpOk.assign rfl) rfl ?_
                refine RunL.nil ?_
                refine Run.seq ?_
                refine Run.region ?_
                refine RunL.ok (OpOk.move rfl) rfl ?_
                refine RunL.ok (OpOk.eqlPN rfl rfl) rfl ?_
                refine RunL.ok (OpOk.move rfl) rfl ?_
                refine RunL.on rfl rfl ?_
                refine RunL.ok (OpOk.move rfl) rfl ?_
                refine RunL.on rfl rfl ?_
                refine RunL.ok (OpOk.as (c := false) (OpOk.neq rfl rfl) (by rw [decide_eq_true (by omega)]; rfl)) rfl ?_
                refine RunL.ok (OpOk.pickF rfl rfl) rfl ?_
                refine RunL.nil ?_
                refine Run.condF rfl ?_
                refine Run.skip ?_
                refine Run.inBlock ?_
                refine Run.region ?_
                refine RunL.ok (OpOk.move rfl) rfl ?_
                refine RunL.ok (OpOk.addN _ 1 rfl rfl rfl rfl (by omega)) rfl ?_
                refine RunL.ok (OpOk.assign rfl) rfl ?_
                refine RunL.nil ?_
                rw [ht3.cont] at t10
                rw [ht3.cont, ht3.len, List.take_length]
                dsimp only at t10 ⊢
                refine Run.jump ((ih (i + 1, D :: ds, _, (t4, t5, t6, t7), t8) ⟨by dsimp only; omega, t10⟩ (by dsimp only; omega))) ⟨rfl, rfl, rfl, rfl, rfl, rfl, trivial⟩ (Grew.of (Eq.trans (frc (frl (frl (frl (frl (frl (frl (frl rfl))))))) (frc rfl (frc rfl (frc rfl (frc rfl (frc rfl (frc rfl (frc (frl (frl (frl (frl (frl (frl (frl (frl rfl)))))))) (frc (frl (frl (frl (frl (frl (frl (frl (frl rfl)))))))) rfl))))))))) (congrArg (· * _) (congrArg (· * _) (congrArg (· * _) (congrArg (· * _) (congrArg (· * _) (congrArg (· * _) (congrArg (· * _) (congrArg (· * _) (congrArg (· * _) (asg (asg (asg (asg (asg (asg (asg (asg as1)))))))))))))))))) (Grew.refl _))
            · obtain rfl : i = 2 := by omega
              clear ih
              refine Run.seq ?_
              refine Run.seq ?_
              refine Run.region ?_
              refine RunL.ok (OpOk.move rfl) rfl ?_
              refine RunL.ok (OpOk.asF (OpOk.lss rfl rfl) (by omega)) rfl ?_
              refine RunL.nil ?_
              refine Run.condF rfl ?_
              refine Run.exit rfl ?_
              refine Run.seq ?_
              refine Run.region ?_
              refine RunL.store ti4 rfl rfl rfl (frl (frl (frl (frl (frl (frl (frl rfl))))))) (by exact Nat.le_of_ble_eq_true rfl) (.inl rfl) ?_
              refine RunL.nil ?_
              refine Run.mem (frc (frl rfl) rfl) ?_
              refine Run.shut ?_
              refine Run.retC1 (A' := _) Try.func8 rfl rfl rfl rfl Blk.pts rfl (Grew.refl _) ?_
              exact ⟨rfl, ⟨_, (asg (asg (asg (asg (asg (asg (asg (asg as1))))))))⟩⟩
end
end Go.Proofs.Yteopadjihklkmaa
