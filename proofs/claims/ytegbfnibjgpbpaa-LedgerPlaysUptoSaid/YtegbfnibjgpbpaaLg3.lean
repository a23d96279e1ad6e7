/- Right postings, by the program and by the document. -/
import Derived.Test.YtegbfnibjgpbpaaLg2
namespace Go.Proofs.Ytegbfnibjgpbpaa
open Go Go.Proofs
set_option maxRecDepth 100000
set_option maxHeartbeats 4000000
set_option linter.unusedSimpArgs false
def okS (n : Nat) (s : Sh) : Bool := decide (1 ≤ s.1) && decide (s.1 < (n : Int))
def rightB (n : Nat) (p : Po) : Bool := decide (1 ≤ p.1) && decide (p.1 < (n : Int)) && decide (1 ≤ p.2.1) && decide (0 < p.2.2.2.length) && p.2.2.2.all (okS n) && decide (sumO 0 (p.2.2.2.map Prod.snd) = some 0)
theorem all_next {n : Nat} {l : List Sh} {i : Nat} (h : i < l.length) : (l.take (i + 1)).all (okS n) = ((l.take i).all (okS n) && okS n (l.getD i default)) := by
  rw [take_next h, List.all_append]; simp
theorem all_fail {n : Nat} {l : List Sh} {i : Nat} (h : i < l.length) (hf : okS n (l.getD i default) = false) : l.all (okS n) = false := by
  cases hb : l.all (okS n) with
  | false => rfl
  | true =>
    rw [List.all_eq_true.1 hb _ (getD_mem h)] at hf
    cases hf
section
variable {w0 : World} {A : Asn} {p mb nb : Nat} {av pv : Value} {bal : List Int} {ks : List (Int × Int)} {ps : List Po}
theorem s62 {q : Po} (rd : Rd w0 A q.2.2.1.1 2 q.2.2.2.length (Fl encT97 q.2.2.2)) (hin : ∀ s ∈ q.2.2.2, inI s.2) (hm : q.2.2.2.length ≤ 8796093022208) :
    Spec Try.prog w0 62 [.pointer (some ⟨p, 0, none⟩), .agg (encT63 q).toArray] (A * pts p (.cells #[av, .map (some mb), pv] 109 (0, 0)) * own 3 1 av nb (I (bal)) * setA mb (ks) * own 63 3 pv (ps).length (Fl encT63 (ps)) * ownsP (ps)) (fun v' A' => ∃ J, v' = .bool (rightB nb q) ∧ A' = A * J * pts p (.cells #[av, .map (some mb), pv] 109 (0, 0)) * own 3 1 av nb (I (bal)) * setA mb (ks) * own 63 3 pv (ps).length (Fl encT63 (ps)) * ownsP (ps)) := by
  refine Spec.of_run [(0, .pointer (some ⟨p, 0, none⟩)), (1, .agg (encT63 q).toArray)] Try.func62 rfl (Nat.le_of_ble_eq_true rfl) (by repeat (first | exact trivial | refine ⟨rfl, ?_⟩)) ?_
  rcases Decidable.em (1 ≤ q.1 ∧ q.1 < nb ∧ 1 ≤ q.2.1 ∧ 0 < q.2.2.2.length) with hc | hc
  · obtain ⟨c1, c2, c3, c4⟩ := hc
    refine Run.seq ?_
    refine Run.region ?_
    refine RunL.box rfl rfl (fun bx1 => ?_)
    refine RunL.ok (OpOk.assign rfl) rfl ?_
    refine RunL.nil ?_
    refine Run.seq ?_
    refine Run.seq ?_
    refine Run.region ?_
    refine RunL.ok (OpOk.move rfl) rfl ?_
    refine RunL.ok (OpOk.fieldAddr fld63_0 rfl) rfl ?_
    refine RunL.ok (OpOk.load rfl rfl rfl (Blk.out Blk.pts _ _ (by first | rfl | assumption))) rfl ?_
    refine RunL.know (fun w s => (s.conv (frl rfl)).ownsP0) (fun alx2 => ?_)
    refine RunL.mem (frc (frl rfl) (frc (frl rfl) (frc (frl rfl) (frc (frl rfl) (frc (frl rfl) rfl))))) ?_
    refine RunL.call cal65 rfl (s65) rfl (fun vx3 Ax3 hx3 => ?_)
    obtain ⟨rfl, rfl⟩ := hx3
    refine RunL.ok (OpOk.not rfl) rfl ?_
    refine RunL.ok (OpOk.move rfl) rfl ?_
    refine RunL.splitNF (t := 12) rfl (by first | omega | with_reducible rfl | assumption) ?_
    refine RunL.on rfl rfl ?_
    refine RunL.ok (OpOk.fieldAddr fld63_1 rfl) rfl ?_
    refine RunL.on rfl rfl ?_
    refine RunL.ok (OpOk.load rfl rfl rfl (Blk.out Blk.pts.left.left.left.left.left _ _ (by first | rfl | assumption))) rfl ?_
    refine RunL.on rfl rfl ?_
    refine RunL.ok (OpOk.asF (OpOk.lss rfl rfl) (by omega)) rfl ?_
    refine RunL.ok (OpOk.pickF rfl rfl) rfl ?_
    refine RunL.ok (OpOk.move rfl) rfl ?_
    refine RunL.on rfl rfl ?_
    refine RunL.ok (OpOk.fieldAddr fld63_2 rfl) rfl ?_
    refine RunL.on rfl rfl ?_
    refine RunL.ok (OpOk.load rfl rfl rfl (Blk.out Blk.pts.left.left.left.left.left _ _ (by first | rfl | assumption))) rfl ?_
    refine RunL.on rfl rfl ?_
    refine RunL.ok (OpOk.lenR rfl rfl rd.left.left.left.left.left.left rfl) rfl ?_
    refine RunL.on rfl rfl ?_
    refine RunL.ok (OpOk.asF (OpOk.eql rfl rfl) (by omega)) rfl ?_
    refine RunL.ok (OpOk.pickF rfl rfl) rfl ?_
    refine RunL.nil ?_
    refine Run.condF rfl ?_
    refine Run.skip ?_
    refine Run.seq ?_
    refine Run.seq ?_
    refine Run.region ?_
    refine RunL.ok (OpOk.fieldAddr fld63_2 rfl) rfl ?_
    refine RunL.ok (OpOk.load rfl rfl rfl (Blk.out Blk.pts.left.left.left.left.left _ _ (by first | rfl | assumption))) rfl ?_
    refine RunL.ok (OpOk.lenR rfl rfl rd.left.left.left.left.left.left rfl) rfl ?_
    refine RunL.ok (OpOk.move rfl) rfl ?_
    refine RunL.nil ?_
    refine Run.block ?_
    refine Run.jump ((Run.loopJ (X := Nat × Asn) (fun x => [(26, .int .i64 (x.1 : Int)), (25, .int .i64 (q.2.2.2.length : Int)), (24, q.2.2.1.1), (3, .pointer (some ⟨bx1, 0, none⟩)), (0, .pointer (some ⟨p, 0, none⟩))]) (fun x => A * x.2 * pts bx1 (.cells (Value.agg (encT63 q).toArray).cells 63 (0, 0)) * pts p (.cells #[av, .map (some mb), pv] 109 (0, 0)) * own 3 1 av nb (I (bal)) * setA mb (ks) * own 63 3 pv (ps).length (Fl encT63 (ps)) * ownsP (ps)) (fun x => x.1 ≤ q.2.2.2.length ∧ (q.2.2.2.take x.1).all (okS nb) = true) (fun x => q.2.2.2.length - x.1) (0, _) ⟨Nat.zero_le _, rfl⟩ (fun x hx ih => ?_))) ⟨rfl, rfl, rfl, rfl, rfl, trivial⟩ (Grew.of (congrArg (· * _) (congrArg (· * _) (congrArg (· * _) (congrArg (· * _) (congrArg (· * _) (congrArg (· * _) as0)))))) (Grew.refl _))
    obtain ⟨i, J⟩ := x
    simp only at hx ih ⊢
    obtain ⟨hi, hall⟩ := hx
    rcases Nat.lt_or_ge i q.2.2.2.length with hlt | hge
    · rcases Decidable.em (1 ≤ (q.2.2.2.getD i default).1 ∧ (q.2.2.2.getD i default).1 < nb) with hk | hk
      · have e : (q.2.2.2.take (i + 1)).all (okS nb) = true := by
          rw [all_next hlt, hall, okS, decide_eq_true hk.1, decide_eq_true hk.2]; rfl
        refine Run.seq ?_
        refine Run.region ?_
        refine RunL.ok (OpOk.asT (OpOk.lss rfl rfl) (by omega)) rfl ?_
        refine RunL.nil ?_
        refine Run.seq ?_
        refine Run.condT rfl ?_
        refine Run.skip ?_
        refine Run.seq ?_
        refine Run.block ?_
        refine Run.seq ?_
        refine Run.region ?_
        refine RunL.ok (OpOk.idxN rfl ti97 rfl rd.left.left.left.left.left.left.left rfl (by omega)) rfl ?_
        refine RunL.ok (OpOk.loadFl default rfl rfl ti97 rfl rd.left.left.left.left.left.left.left (fun _ => rfl) rfl (by omega)) rfl ?_
        refine RunL.alloc ti97 rfl (fun by1 => ?_)
        refine RunL.storeAll ti97 rfl rfl rfl (ones rfl) rfl rfl ?_
        refine RunL.nil ?_
        refine Run.seq ?_
        refine Run.region ?_
        refine RunL.ok (OpOk.move rfl) rfl ?_
        refine RunL.ok (OpOk.fieldAddr fld97_0 rfl) rfl ?_
        refine RunL.ok (OpOk.load rfl rfl rfl (Blk.out Blk.pts _ _ (by first | rfl | assumption))) rfl ?_
        refine RunL.mem (frc (frl rfl) (frc (frl rfl) (frc (frl rfl) (frc (frl rfl) (frc (frl rfl) rfl))))) ?_
        refine RunL.call cal65 rfl (s65) rfl (fun vy2 Ay2 hy2 => ?_)
        obtain ⟨rfl, rfl⟩ := hy2
        refine RunL.ok (OpOk.not rfl) rfl ?_
        refine RunL.nil ?_
        refine Run.condNF rfl (by first | omega | with_reducible rfl | assumption) ?_
        refine Run.skip ?_
        refine Run.inBlock ?_
        refine Run.region ?_
        refine RunL.ok (OpOk.addN _ 1 rfl rfl rfl rfl (by omega)) rfl ?_
        refine RunL.ok (OpOk.move rfl) rfl ?_
        refine RunL.nil ?_
        refine Run.jump ((ih (i + 1, _) ⟨by dsimp only; omega, e⟩ (by dsimp only; omega))) ⟨rfl, rfl, rfl, rfl, rfl, trivial⟩ (Grew.of (Eq.trans (frc rfl (frc rfl (frc rfl (frc rfl (frc rfl (frc (frl rfl) rfl)))))) (congrArg (· * _) (congrArg (· * _) (congrArg (· * _) (congrArg (· * _) (congrArg (· * _) (congrArg (· * _) (asg as1)))))))) (Grew.refl _))
      · have e : q.2.2.2.all (okS nb) = false := all_fail hlt (by
          rw [okS, ← Bool.decide_and]
          exact decide_eq_false hk)
        have e2 : rightB nb q = false := by rw [rightB, e]; simp
        rw [e2]
        refine Run.seq ?_
        refine Run.region ?_
        refine RunL.ok (OpOk.asT (OpOk.lss rfl rfl) (by omega)) rfl ?_
        refine RunL.nil ?_
        refine Run.seq ?_
        refine Run.condT rfl ?_
        refine Run.skip ?_
        refine Run.seq ?_
        refine Run.block ?_
        refine Run.seq ?_
        refine Run.region ?_
        refine RunL.ok (OpOk.idxN rfl ti97 rfl rd.left.left.left.left.left.left.left rfl (by omega)) rfl ?_
        refine RunL.ok (OpOk.loadFl default rfl rfl ti97 rfl rd.left.left.left.left.left.left.left (fun _ => rfl) rfl (by omega)) rfl ?_
        refine RunL.alloc ti97 rfl (fun by1 => ?_)
        refine RunL.storeAll ti97 rfl rfl rfl (ones rfl) rfl rfl ?_
        refine RunL.nil ?_
        refine Run.seq ?_
        refine Run.region ?_
        refine RunL.ok (OpOk.move rfl) rfl ?_
        refine RunL.ok (OpOk.fieldAddr fld97_0 rfl) rfl ?_
        refine RunL.ok (OpOk.load rfl rfl rfl (Blk.out Blk.pts _ _ (by first | rfl | assumption))) rfl ?_
        refine RunL.mem (frc (frl rfl) (frc (frl rfl) (frc (frl rfl) (frc (frl rfl) (frc (frl rfl) rfl))))) ?_
        refine RunL.call cal65 rfl (s65) rfl (fun vy2 Ay2 hy2 => ?_)
        obtain ⟨rfl, rfl⟩ := hy2
        refine RunL.ok (OpOk.not rfl) rfl ?_
        refine RunL.nil ?_
        refine Run.condNT rfl (by first | omega | assumption) ?_
        refine Run.seq ?_
        refine Run.region ?_
        refine RunL.ok (OpOk.assign rfl) rfl ?_
        refine RunL.nil ?_
        refine Run.ret1 Try.func62 rfl rfl ?_
        exact ⟨_, rfl, (congrArg (· * _) (congrArg (· * _) (congrArg (· * _) (congrArg (· * _) (congrArg (· * _) (asg (asg as1)))))))⟩
    · obtain rfl : i = q.2.2.2.length := by omega
      clear ih
      rw [List.take_length] at hall
      have e2 : rightB nb q = decide (sumO 0 (q.2.2.2.map Prod.snd) = some 0) := by rw [rightB, hall, decide_eq_true c1, decide_eq_true c2, decide_eq_true c3, decide_eq_true c4]; rfl
      rw [e2]
      refine Run.seq ?_
      refine Run.region ?_
      refine RunL.ok (OpOk.asF (OpOk.lss rfl rfl) (by omega)) rfl ?_
      refine RunL.nil ?_
      refine Run.seq ?_
      refine Run.condF rfl ?_
      refine Run.exit rfl ?_
      refine Run.seq ?_
      refine Run.region ?_
      refine RunL.ok (OpOk.fieldAddr fld63_2 rfl) rfl ?_
      refine RunL.ok (OpOk.load rfl rfl rfl (Blk.out Blk.pts.left.left.left.left.left _ _ (by first | rfl | assumption))) rfl ?_
      refine RunL.call cal77 rfl (s77 rd.left.left.left.left.left.left.left (by assumption) (by assumption)) rfl (fun vy1 Ay1 hy1 => ?_)
      obtain ⟨y2, ⟨rfl, rfl⟩⟩ := hy1
      refine RunL.ok (OpOk.assign rfl) rfl ?_
      refine RunL.nil ?_
      refine Run.ret1 Try.func62 rfl rfl ?_
      exact ⟨_, rfl, (Eq.trans (frc (frl rfl) (frc (frl rfl) (frc (frl rfl) (frc (frl rfl) (frc (frl rfl) rfl))))) (congrArg (· * _) (congrArg (· * _) (congrArg (· * _) (congrArg (· * _) (congrArg (· * _) (asg (asg as1))))))))⟩
  · have e2 : rightB nb q = false := by
      rw [rightB, ← Bool.decide_and, ← Bool.decide_and, ← Bool.decide_and, decide_eq_false (fun h => hc ⟨h.1.1.1, h.1.1.2, h.1.2, h.2⟩)]
      rfl
    rw [e2]
    refine Run.seq ?_
    refine Run.region ?_
    refine RunL.box rfl rfl (fun bx1 => ?_)
    refine RunL.ok (OpOk.assign rfl) rfl ?_
    refine RunL.nil ?_
    refine Run.seq ?_
    refine Run.seq ?_
    refine Run.region ?_
    refine RunL.ok (OpOk.move rfl) rfl ?_
    refine RunL.ok (OpOk.fieldAddr fld63_0 rfl) rfl ?_
    refine RunL.ok (OpOk.load rfl rfl rfl (Blk.out Blk.pts _ _ (by first | rfl | assumption))) rfl ?_
    refine RunL.know (fun w s => (s.conv (frl rfl)).ownsP0) (fun alx2 => ?_)
    refine RunL.mem (frc (frl rfl) (frc (frl rfl) (frc (frl rfl) (frc (frl rfl) (frc (frl rfl) rfl))))) ?_
    refine RunL.call cal65 rfl (s65) rfl (fun vx3 Ax3 hx3 => ?_)
    obtain ⟨rfl, rfl⟩ := hx3
    refine RunL.ok (OpOk.not rfl) rfl ?_
    refine RunL.ok (OpOk.move rfl) rfl ?_
    refine RunL.splitN (t := 12) rfl (fun x4 => ?_) (fun x4 => ?_)
    · refine RunL.off rfl rfl rfl rfl ?_
      refine RunL.off rfl rfl rfl rfl ?_
      refine RunL.off rfl rfl rfl rfl ?_
      refine RunL.ok (OpOk.pickT rfl rfl) rfl ?_
      refine RunL.ok (OpOk.move rfl) rfl ?_
      refine RunL.off rfl rfl rfl rfl ?_
      refine RunL.off rfl rfl rfl rfl ?_
      refine RunL.off rfl rfl rfl rfl ?_
      refine RunL.off rfl rfl rfl rfl ?_
      refine RunL.ok (OpOk.pickT rfl rfl) rfl ?_
      refine RunL.nil ?_
      refine Run.condT rfl ?_
      refine Run.seq ?_
      refine Run.region ?_
      refine RunL.ok (OpOk.assign rfl) rfl ?_
      refine RunL.nil ?_
      refine Run.ret1 Try.func62 rfl rfl ?_
      exact ⟨_, rfl, (congrArg (· * _) (congrArg (· * _) (congrArg (· * _) (congrArg (· * _) (congrArg (· * _) as1)))))⟩
    refine RunL.on rfl rfl ?_
    refine RunL.ok (OpOk.fieldAddr fld63_1 rfl) rfl ?_
    refine RunL.on rfl rfl ?_
    refine RunL.ok (OpOk.load rfl rfl rfl (Blk.out Blk.pts.left.left.left.left.left _ _ (by first | rfl | assumption))) rfl ?_
    refine RunL.on rfl rfl ?_
    refine RunL.ok (OpOk.lss rfl rfl) rfl ?_
    refine RunL.ok (OpOk.pickF rfl rfl) rfl ?_
    refine RunL.ok (OpOk.move rfl) rfl ?_
    refine RunL.splitD (t := 17) rfl (fun x5 => ?_) (fun x5 => ?_)
    · refine RunL.off rfl rfl rfl rfl ?_
      refine RunL.off rfl rfl rfl rfl ?_
      refine RunL.off rfl rfl rfl rfl ?_
      refine RunL.off rfl rfl rfl rfl ?_
      refine RunL.ok (OpOk.pickT rfl rfl) rfl ?_
      refine RunL.nil ?_
      refine Run.condT rfl ?_
      refine Run.seq ?_
      refine Run.region ?_
      refine RunL.ok (OpOk.assign rfl) rfl ?_
      refine RunL.nil ?_
      refine Run.ret1 Try.func62 rfl rfl ?_
      exact ⟨_, rfl, (congrArg (· * _) (congrArg (· * _) (congrArg (· * _) (congrArg (· * _) (congrArg (· * _) as1)))))⟩
    refine RunL.on rfl rfl ?_
    refine RunL.ok (OpOk.fieldAddr fld63_2 rfl) rfl ?_
    refine RunL.on rfl rfl ?_
    refine RunL.ok (OpOk.load rfl rfl rfl (Blk.out Blk.pts.left.left.left.left.left _ _ (by first | rfl | assumption))) rfl ?_
    refine RunL.on rfl rfl ?_
    refine RunL.ok (OpOk.lenR rfl rfl rd.left.left.left.left.left.left rfl) rfl ?_
    refine RunL.on rfl rfl ?_
    refine RunL.ok (OpOk.asT (OpOk.eql rfl rfl) (by omega)) rfl ?_
    refine RunL.ok (OpOk.pickF rfl rfl) rfl ?_
    refine RunL.nil ?_
    refine Run.condT rfl ?_
    refine Run.seq ?_
    refine Run.region ?_
    refine RunL.ok (OpOk.assign rfl) rfl ?_
    refine RunL.nil ?_
    refine Run.ret1 Try.func62 rfl rfl ?_
    exact ⟨_, rfl, (congrArg (· * _) (congrArg (· * _) (congrArg (· * _) (congrArg (· * _) (congrArg (· * _) as1)))))⟩
theorem s74 {ops : Int} {n : Nat} {q : Po} (hn : (n : Int) = ops + 1) (rd : Rd w0 A q.2.2.1.1 2 q.2.2.2.length (Fl encT97 q.2.2.2)) (hin : ∀ s ∈ q.2.2.2, inI s.2) (hm : q.2.2.2.length ≤ 8796093022208) :
    Spec Try.prog w0 74 [.int .i64 ops, .agg (encT63 q).toArray] A (fun v' A' => ∃ J, v' = .bool (rightB n q) ∧ A' = A * J) := by
  have hin2 : ∀ z ∈ q.2.2.2.map Prod.snd, inI z := fun z hz => by
    obtain ⟨p, hp, rfl⟩ := List.mem_map.1 hz
    exact hin p hp
  refine Spec.of_run [(0, .int .i64 ops), (1, .agg (encT63 q).toArray)] Try.func74 rfl (Nat.le_of_ble_eq_true rfl) (by repeat (first | exact trivial | refine ⟨rfl, ?_⟩)) ?_
  rcases Decidable.em (1 ≤ q.1 ∧ q.1 < n ∧ 1 ≤ q.2.1 ∧ 0 < q.2.2.2.length) with hc | hc
  · obtain ⟨c1, c2, c3, c4⟩ := hc
    refine Run.seq ?_
    refine Run.region ?_
    refine RunL.box rfl rfl (fun bx1 => ?_)
    refine RunL.ok (OpOk.assign rfl) rfl ?_
    refine RunL.nil ?_
    refine Run.seq ?_
    refine Run.seq ?_
    refine Run.region ?_
    refine RunL.ok (OpOk.fieldAddr fld63_0 rfl) rfl ?_
    refine RunL.ok (OpOk.load rfl rfl rfl (Blk.out Blk.pts _ _ (by first | rfl | assumption))) rfl ?_
    refine RunL.ok (OpOk.asF (OpOk.lss rfl rfl) (by omega)) rfl ?_
    refine RunL.ok (OpOk.move rfl) rfl ?_
    refine RunL.on rfl rfl ?_
    refine RunL.ok (OpOk.fieldAddr fld63_0 rfl) rfl ?_
    refine RunL.on rfl rfl ?_
    refine RunL.ok (OpOk.load rfl rfl rfl (Blk.out Blk.pts _ _ (by first | rfl | assumption))) rfl ?_
    refine RunL.on rfl rfl ?_
    refine RunL.ok (OpOk.move rfl) rfl ?_
    refine RunL.on rfl rfl ?_
    refine RunL.ok (OpOk.asF (OpOk.gtr rfl rfl) (by omega)) rfl ?_
    refine RunL.ok (OpOk.pickF rfl rfl) rfl ?_
    refine RunL.ok (OpOk.move rfl) rfl ?_
    refine RunL.on rfl rfl ?_
    refine RunL.ok (OpOk.fieldAddr fld63_1 rfl) rfl ?_
    refine RunL.on rfl rfl ?_
    refine RunL.ok (OpOk.load rfl rfl rfl (Blk.out Blk.pts _ _ (by first | rfl | assumption))) rfl ?_
    refine RunL.on rfl rfl ?_
    refine RunL.ok (OpOk.asF (OpOk.lss rfl rfl) (by omega)) rfl ?_
    refine RunL.ok (OpOk.pickF rfl rfl) rfl ?_
    refine RunL.ok (OpOk.move rfl) rfl ?_
    refine RunL.on rfl rfl ?_
    refine RunL.ok (OpOk.fieldAddr fld63_2 rfl) rfl ?_
    refine RunL.on rfl rfl ?_
    refine RunL.ok (OpOk.load rfl rfl rfl (Blk.out Blk.pts _ _ (by first | rfl | assumption))) rfl ?_
    refine RunL.on rfl rfl ?_
    refine RunL.ok (OpOk.lenR rfl rfl rd.left rfl) rfl ?_
    refine RunL.on rfl rfl ?_
    refine RunL.ok (OpOk.asF (OpOk.eql rfl rfl) (by omega)) rfl ?_
    refine RunL.ok (OpOk.pickF rfl rfl) rfl ?_
    refine RunL.nil ?_
    refine Run.condF rfl ?_
    refine Run.skip ?_
    refine Run.seq ?_
    refine Run.region ?_
    refine RunL.ok (OpOk.assign rfl) rfl ?_
    refine RunL.nil ?_
    refine Run.seq ?_
    refine Run.seq ?_
    refine Run.region ?_
    refine RunL.ok (OpOk.assign rfl) rfl ?_
    refine RunL.nil ?_
    refine Run.block ?_
    refine Run.ent (Ent.ownNil' _ 3 1 (I []) rfl) ?_
    refine Run.jump ((Run.loopJ (X := Nat × Asn × Value) (fun x => [(6, .int .i64 (x.1 : Int)), (5, x.2.2), (3, .pointer (some ⟨bx1, 0, none⟩)), (0, .int .i64 ops)]) (fun x => A * x.2.1 * pts bx1 (.cells (Value.agg (encT63 q).toArray).cells 63 (0, 0)) * own 3 1 x.2.2 x.1 (I ((q.2.2.2.take x.1).map Prod.snd))) (fun x => x.1 ≤ q.2.2.2.length ∧ (q.2.2.2.take x.1).all (okS n) = true) (fun x => q.2.2.2.length - x.1) (0, _, .slice none 0 0) ⟨Nat.zero_le _, rfl⟩ (fun x hx ih => ?_))) ⟨rfl, rfl, rfl, rfl, trivial⟩ (Grew.of (Eq.trans (frc rfl rfl) (congrArg (· * _) (congrArg (· * _) as0))) (Grew.refl _))
    obtain ⟨i, J, v5⟩ := x
    simp only at hx ih ⊢
    obtain ⟨hi, hall⟩ := hx
    rcases Nat.lt_or_ge i q.2.2.2.length with hlt | hge
    · rcases Decidable.em (1 ≤ (q.2.2.2.getD i default).1 ∧ (q.2.2.2.getD i default).1 < n) with hk | hk
      · have e : (q.2.2.2.take (i + 1)).all (okS n) = true := by
          rw [all_next hlt, hall, okS, decide_eq_true hk.1, decide_eq_true hk.2]; rfl
        have hk1 := hk.1
        have hk2 := hk.2
        refine Run.seq ?_
        refine Run.seq ?_
        refine Run.region ?_
        refine RunL.ok (OpOk.move rfl) rfl ?_
        refine RunL.ok (OpOk.fieldAddr fld63_2 rfl) rfl ?_
        refine RunL.ok (OpOk.load rfl rfl rfl (Blk.out Blk.pts.left _ _ (by first | rfl | assumption))) rfl ?_
        refine RunL.ok (OpOk.lenR rfl rfl rd.left.left.left rfl) rfl ?_
        refine RunL.ok (OpOk.asT (OpOk.lss rfl rfl) (by omega)) rfl ?_
        refine RunL.nil ?_
        refine Run.condT rfl ?_
        refine Run.skip ?_
        refine Run.seq ?_
        refine Run.block ?_
        refine Run.seq ?_
        refine Run.seq ?_
        refine Run.region ?_
        refine RunL.ok (OpOk.fieldAddr fld63_2 rfl) rfl ?_
        refine RunL.ok (OpOk.load rfl rfl rfl (Blk.out Blk.pts.left _ _ (by first | rfl | assumption))) rfl ?_
        refine RunL.ok (OpOk.move rfl) rfl ?_
        refine RunL.ok (OpOk.idxN rfl ti97 rfl rd.left.left.left rfl (by omega)) rfl ?_
        refine RunL.ok (OpOk.fieldAddrA fld97_0 rfl) rfl ?_
        refine RunL.ok (OpOk.loadFl1 default rfl rfl rfl rd.left.left.left (fun _ => rfl) rfl (by omega) rfl) rfl ?_
        refine RunL.ok (OpOk.asF (OpOk.lss rfl rfl) (by omega)) rfl ?_
        refine RunL.ok (OpOk.move rfl) rfl ?_
        refine RunL.on rfl rfl ?_
        refine RunL.ok (OpOk.fieldAddr fld63_2 rfl) rfl ?_
        refine RunL.on rfl rfl ?_
        refine RunL.ok (OpOk.load rfl rfl rfl (Blk.out Blk.pts.left _ _ (by first | rfl | assumption))) rfl ?_
        refine RunL.on rfl rfl ?_
        refine RunL.ok (OpOk.move rfl) rfl ?_
        refine RunL.on rfl rfl ?_
        refine RunL.ok (OpOk.idxN rfl ti97 rfl rd.left.left.left rfl (by omega)) rfl ?_
        refine RunL.on rfl rfl ?_
        refine RunL.ok (OpOk.fieldAddrA fld97_0 rfl) rfl ?_
        refine RunL.on rfl rfl ?_
        refine RunL.ok (OpOk.loadFl1 default rfl rfl rfl rd.left.left.left (fun _ => rfl) rfl (by omega) rfl) rfl ?_
        refine RunL.on rfl rfl ?_
        refine RunL.ok (OpOk.move rfl) rfl ?_
        refine RunL.on rfl rfl ?_
        refine RunL.ok (OpOk.asF (OpOk.gtr rfl rfl) (by omega)) rfl ?_
        refine RunL.ok (OpOk.pickF rfl rfl) rfl ?_
        refine RunL.nil ?_
        refine Run.condF rfl ?_
        refine Run.skip ?_
        refine Run.region ?_
        refine RunL.ok (OpOk.move rfl) rfl ?_
        refine RunL.ok (OpOk.fieldAddr fld63_2 rfl) rfl ?_
        refine RunL.ok (OpOk.load rfl rfl rfl (Blk.out Blk.pts.left _ _ (by first | rfl | assumption))) rfl ?_
        refine RunL.ok (OpOk.move rfl) rfl ?_
        refine RunL.ok (OpOk.idxN rfl ti97 rfl rd.left.left.left rfl (by omega)) rfl ?_
        refine RunL.ok (OpOk.fieldAddrA fld97_1 rfl) rfl ?_
        refine RunL.ok (OpOk.loadFl1 default rfl rfl rfl rd.left.left.left (fun _ => rfl) rfl (by omega) rfl) rfl ?_
        refine RunL.litI (xs := [(q.snd.snd.snd.getD i default).snd]) rfl ti3 rfl rfl rfl (by decide) rfl (fun vy1 rdy1 => ?_)
        refine RunL.know (fun w s => (s.conv rfl).ownRd0) (fun rdy3 => ?_)
        refine RunL.appendI rfl ti3 rfl rfl rfl (frl rfl) (Rd.right rdy3) (by omega) rfl rfl (fun vy2 rdy2 => ?_)
        refine RunL.ok (OpOk.assign rfl) rfl ?_
        refine RunL.nil ?_
        refine Run.inBlock ?_
        refine Run.region ?_
        refine RunL.ok (OpOk.move rfl) rfl ?_
        refine RunL.ok (OpOk.addN _ 1 rfl rfl rfl rfl (by omega)) rfl ?_
        refine RunL.ok (OpOk.assign rfl) rfl ?_
        refine RunL.nil ?_
        rw [← amt_next hlt]
        refine Run.jump ((ih (i + 1, _, _) ⟨by dsimp only; omega, e⟩ (by dsimp only; omega))) ⟨rfl, rfl, rfl, rfl, trivial⟩ (Grew.of (Eq.trans (frc rfl (frc (frl rfl) rfl)) (congrArg (· * _) (congrArg (· * _) (asg as1)))) (Grew.refl _))
      · have e : q.2.2.2.all (okS n) = false := all_fail hlt (by
          rw [okS, ← Bool.decide_and]
          exact decide_eq_false hk)
        have e2 : rightB n q = false := by rw [rightB, e]; simp
        rw [e2]
        refine Run.seq ?_
        refine Run.seq ?_
        refine Run.region ?_
        refine RunL.ok (OpOk.move rfl) rfl ?_
        refine RunL.ok (OpOk.fieldAddr fld63_2 rfl) rfl ?_
        refine RunL.ok (OpOk.load rfl rfl rfl (Blk.out Blk.pts.left _ _ (by first | rfl | assumption))) rfl ?_
        refine RunL.ok (OpOk.lenR rfl rfl rd.left.left.left rfl) rfl ?_
        refine RunL.ok (OpOk.asT (OpOk.lss rfl rfl) (by omega)) rfl ?_
        refine RunL.nil ?_
        refine Run.condT rfl ?_
        refine Run.skip ?_
        refine Run.seq ?_
        refine Run.block ?_
        refine Run.seq ?_
        refine Run.seq ?_
        refine Run.region ?_
        refine RunL.ok (OpOk.fieldAddr fld63_2 rfl) rfl ?_
        refine RunL.ok (OpOk.load rfl rfl rfl (Blk.out Blk.pts.left _ _ (by first | rfl | assumption))) rfl ?_
        refine RunL.ok (OpOk.move rfl) rfl ?_
        refine RunL.ok (OpOk.idxN rfl ti97 rfl rd.left.left.left rfl (by omega)) rfl ?_
        refine RunL.ok (OpOk.fieldAddrA fld97_0 rfl) rfl ?_
        refine RunL.ok (OpOk.loadFl1 default rfl rfl rfl rd.left.left.left (fun _ => rfl) rfl (by omega) rfl) rfl ?_
        refine RunL.ok (OpOk.lss rfl rfl) rfl ?_
        refine RunL.ok (OpOk.move rfl) rfl ?_
        refine RunL.splitD (t := 43) rfl (fun y1 => ?_) (fun y1 => ?_)
        · refine RunL.off rfl rfl rfl rfl ?_
          refine RunL.off rfl rfl rfl rfl ?_
          refine RunL.off rfl rfl rfl rfl ?_
          refine RunL.off rfl rfl rfl rfl ?_
          refine RunL.off rfl rfl rfl rfl ?_
          refine RunL.off rfl rfl rfl rfl ?_
          refine RunL.off rfl rfl rfl rfl ?_
          refine RunL.off rfl rfl rfl rfl ?_
          refine RunL.ok (OpOk.pickT rfl rfl) rfl ?_
          refine RunL.nil ?_
          refine Run.condT rfl ?_
          refine Run.seq ?_
          refine Run.region ?_
          refine RunL.ok (OpOk.assign rfl) rfl ?_
          refine RunL.nil ?_
          refine Run.ret1 Try.func74 rfl rfl ?_
          exact ⟨_, rfl, (asg (asg as1))⟩
        refine RunL.on rfl rfl ?_
        refine RunL.ok (OpOk.fieldAddr fld63_2 rfl) rfl ?_
        refine RunL.on rfl rfl ?_
        refine RunL.ok (OpOk.load rfl rfl rfl (Blk.out Blk.pts.left _ _ (by first | rfl | assumption))) rfl ?_
        refine RunL.on rfl rfl ?_
        refine RunL.ok (OpOk.move rfl) rfl ?_
        refine RunL.on rfl rfl ?_
        refine RunL.ok (OpOk.idxN rfl ti97 rfl rd.left.left.left rfl (by omega)) rfl ?_
        refine RunL.on rfl rfl ?_
        refine RunL.ok (OpOk.fieldAddrA fld97_0 rfl) rfl ?_
        refine RunL.on rfl rfl ?_
        refine RunL.ok (OpOk.loadFl1 default rfl rfl rfl rd.left.left.left (fun _ => rfl) rfl (by omega) rfl) rfl ?_
        refine RunL.on rfl rfl ?_
        refine RunL.ok (OpOk.move rfl) rfl ?_
        refine RunL.on rfl rfl ?_
        refine RunL.ok (OpOk.asT (OpOk.gtr rfl rfl) (by omega)) rfl ?_
        refine RunL.ok (OpOk.pickF rfl rfl) rfl ?_
        refine RunL.nil ?_
        refine Run.condT rfl ?_
        refine Run.seq ?_
        refine Run.region ?_
        refine RunL.ok (OpOk.assign rfl) rfl ?_
        refine RunL.nil ?_
        refine Run.ret1 Try.func74 rfl rfl ?_
        exact ⟨_, rfl, (asg (asg as1))⟩
    · obtain rfl : i = q.2.2.2.length := by omega
      clear ih
      rw [List.take_length] at hall ⊢
      have e2 : rightB n q = decide (sumO 0 (q.2.2.2.map Prod.snd) = some 0) := by rw [rightB, hall, decide_eq_true c1, decide_eq_true c2, decide_eq_true c3, decide_eq_true c4]; rfl
      rw [e2]
      cases hs : sumO 0 (q.2.2.2.map Prod.snd) with
      | none =>
        refine Run.seq ?_
        refine Run.seq ?_
        refine Run.region ?_
        refine RunL.ok (OpOk.move rfl) rfl ?_
        refine RunL.ok (OpOk.fieldAddr fld63_2 rfl) rfl ?_
        refine RunL.ok (OpOk.load rfl rfl rfl (Blk.out Blk.pts.left _ _ (by first | rfl | assumption))) rfl ?_
        refine RunL.ok (OpOk.lenR rfl rfl rd.left.left.left rfl) rfl ?_
        refine RunL.ok (OpOk.asF (OpOk.lss rfl rfl) (by omega)) rfl ?_
        refine RunL.nil ?_
        refine Run.condF rfl ?_
        refine Run.exit rfl ?_
        refine Run.seq ?_
        refine Run.region ?_
        refine RunL.ok (OpOk.move rfl) rfl ?_
        refine RunL.know (fun w s => (s.conv rfl).ownRd0) (fun rdy1 => ?_)
        refine RunL.call cal75 rfl (s75b (Rd.right rdy1) (by assumption) (by assumption)) rfl (fun vy3 Ay3 hy3 => ?_)
        obtain ⟨rfl, rfl⟩ := hy3
        refine RunL.ok (OpOk.move rfl) rfl ?_
        refine RunL.ok (OpOk.ext20 rfl) rfl ?_
        refine RunL.ok (OpOk.ext21 rfl) rfl ?_
        refine RunL.ok (OpOk.assign rfl) rfl ?_
        refine RunL.ok (OpOk.assign rfl) rfl ?_
        refine RunL.nil ?_
        refine Run.seq ?_
        refine Run.region ?_
        refine RunL.ok (OpOk.move rfl) rfl ?_
        refine RunL.ok (OpOk.move rfl) rfl ?_
        refine RunL.off rfl rfl rfl rfl ?_
        refine RunL.off rfl rfl rfl rfl ?_
        refine RunL.ok (OpOk.pickF rfl rfl) rfl ?_
        refine RunL.ok (OpOk.assign rfl) rfl ?_
        refine RunL.nil ?_
        refine Run.ret1 Try.func74 rfl rfl ?_
        exact ⟨_, rfl, (asg (asg as1))⟩
      | some k =>
        rcases Decidable.em (k = 0) with h0 | h0
        · subst h0
          refine Run.seq ?_
          refine Run.seq ?_
          refine Run.region ?_
          refine RunL.ok (OpOk.move rfl) rfl ?_
          refine RunL.ok (OpOk.fieldAddr fld63_2 rfl) rfl ?_
          refine RunL.ok (OpOk.load rfl rfl rfl (Blk.out Blk.pts.left _ _ (by first | rfl | assumption))) rfl ?_
          refine RunL.ok (OpOk.lenR rfl rfl rd.left.left.left rfl) rfl ?_
          refine RunL.ok (OpOk.asF (OpOk.lss rfl rfl) (by omega)) rfl ?_
          refine RunL.nil ?_
          refine Run.condF rfl ?_
          refine Run.exit rfl ?_
          refine Run.seq ?_
          refine Run.region ?_
          refine RunL.ok (OpOk.move rfl) rfl ?_
          refine RunL.know (fun w s => (s.conv rfl).ownRd0) (fun rdy1 => ?_)
          refine RunL.call cal75 rfl (s75a (Rd.right rdy1) (by assumption) (by assumption)) rfl (fun vy2 Ay2 hy2 => ?_)
          obtain ⟨rfl, rfl⟩ := hy2
          refine RunL.ok (OpOk.move rfl) rfl ?_
          refine RunL.ok (OpOk.ext20 rfl) rfl ?_
          refine RunL.ok (OpOk.ext21 rfl) rfl ?_
          refine RunL.ok (OpOk.assign rfl) rfl ?_
          refine RunL.ok (OpOk.assign rfl) rfl ?_
          refine RunL.nil ?_
          refine Run.seq ?_
          refine Run.region ?_
          refine RunL.ok (OpOk.move rfl) rfl ?_
          refine RunL.ok (OpOk.move rfl) rfl ?_
          refine RunL.on rfl rfl ?_
          refine RunL.ok (OpOk.move rfl) rfl ?_
          refine RunL.on rfl rfl ?_
          refine RunL.ok (OpOk.asT (OpOk.eql rfl rfl) (by omega)) rfl ?_
          refine RunL.ok (OpOk.pickT rfl rfl) rfl ?_
          refine RunL.ok (OpOk.assign rfl) rfl ?_
          refine RunL.nil ?_
          refine Run.ret1 Try.func74 rfl rfl ?_
          exact ⟨_, rfl, (asg (asg as1))⟩
        · rw [decide_eq_false (fun h => h0 (Option.some.inj h) : ¬ (some k = some (0 : Int)))]
          refine Run.seq ?_
          refine Run.seq ?_
          refine Run.region ?_
          refine RunL.ok (OpOk.move rfl) rfl ?_
          refine RunL.ok (OpOk.fieldAddr fld63_2 rfl) rfl ?_
          refine RunL.ok (OpOk.load rfl rfl rfl (Blk.out Blk.pts.left _ _ (by first | rfl | assumption))) rfl ?_
          refine RunL.ok (OpOk.lenR rfl rfl rd.left.left.left rfl) rfl ?_
          refine RunL.ok (OpOk.asF (OpOk.lss rfl rfl) (by omega)) rfl ?_
          refine RunL.nil ?_
          refine Run.condF rfl ?_
          refine Run.exit rfl ?_
          refine Run.seq ?_
          refine Run.region ?_
          refine RunL.ok (OpOk.move rfl) rfl ?_
          refine RunL.know (fun w s => (s.conv rfl).ownRd0) (fun rdy1 => ?_)
          refine RunL.call cal75 rfl (s75a (Rd.right rdy1) (by assumption) (by assumption)) rfl (fun vy2 Ay2 hy2 => ?_)
          obtain ⟨rfl, rfl⟩ := hy2
          refine RunL.ok (OpOk.move rfl) rfl ?_
          refine RunL.ok (OpOk.ext20 rfl) rfl ?_
          refine RunL.ok (OpOk.ext21 rfl) rfl ?_
          refine RunL.ok (OpOk.assign rfl) rfl ?_
          refine RunL.ok (OpOk.assign rfl) rfl ?_
          refine RunL.nil ?_
          refine Run.seq ?_
          refine Run.region ?_
          refine RunL.ok (OpOk.move rfl) rfl ?_
          refine RunL.ok (OpOk.move rfl) rfl ?_
          refine RunL.on rfl rfl ?_
          refine RunL.ok (OpOk.move rfl) rfl ?_
          refine RunL.on rfl rfl ?_
          refine RunL.ok (OpOk.asF (OpOk.eql rfl rfl) (by omega)) rfl ?_
          refine RunL.ok (OpOk.pickT rfl rfl) rfl ?_
          refine RunL.ok (OpOk.assign rfl) rfl ?_
          refine RunL.nil ?_
          refine Run.ret1 Try.func74 rfl rfl ?_
          exact ⟨_, rfl, (asg (asg as1))⟩
  · have e2 : rightB n q = false := by
      rw [rightB, ← Bool.decide_and, ← Bool.decide_and, ← Bool.decide_and, decide_eq_false (fun h => hc ⟨h.1.1.1, h.1.1.2, h.1.2, h.2⟩)]
      rfl
    rw [e2]
    refine Run.seq ?_
    refine Run.region ?_
    refine RunL.box rfl rfl (fun bx1 => ?_)
    refine RunL.ok (OpOk.assign rfl) rfl ?_
    refine RunL.nil ?_
    refine Run.seq ?_
    refine Run.seq ?_
    refine Run.region ?_
    refine RunL.ok (OpOk.fieldAddr fld63_0 rfl) rfl ?_
    refine RunL.ok (OpOk.load rfl rfl rfl (Blk.out Blk.pts _ _ (by first | rfl | assumption))) rfl ?_
    refine RunL.ok (OpOk.lss rfl rfl) rfl ?_
    refine RunL.ok (OpOk.move rfl) rfl ?_
    refine RunL.splitD (t := 12) rfl (fun x2 => ?_) (fun x2 => ?_)
    · refine RunL.off rfl rfl rfl rfl ?_
      refine RunL.off rfl rfl rfl rfl ?_
      refine RunL.off rfl rfl rfl rfl ?_
      refine RunL.off rfl rfl rfl rfl ?_
      refine RunL.ok (OpOk.pickT rfl rfl) rfl ?_
      refine RunL.ok (OpOk.move rfl) rfl ?_
      refine RunL.off rfl rfl rfl rfl ?_
      refine RunL.off rfl rfl rfl rfl ?_
      refine RunL.off rfl rfl rfl rfl ?_
      refine RunL.ok (OpOk.pickT rfl rfl) rfl ?_
      refine RunL.ok (OpOk.move rfl) rfl ?_
      refine RunL.off rfl rfl rfl rfl ?_
      refine RunL.off rfl rfl rfl rfl ?_
      refine RunL.off rfl rfl rfl rfl ?_
      refine RunL.off rfl rfl rfl rfl ?_
      refine RunL.ok (OpOk.pickT rfl rfl) rfl ?_
      refine RunL.nil ?_
      refine Run.condT rfl ?_
      refine Run.seq ?_
      refine Run.region ?_
      refine RunL.ok (OpOk.assign rfl) rfl ?_
      refine RunL.nil ?_
      refine Run.ret1 Try.func74 rfl rfl ?_
      exact ⟨_, rfl, as1⟩
    refine RunL.on rfl rfl ?_
    refine RunL.ok (OpOk.fieldAddr fld63_0 rfl) rfl ?_
    refine RunL.on rfl rfl ?_
    refine RunL.ok (OpOk.load rfl rfl rfl (Blk.out Blk.pts _ _ (by first | rfl | assumption))) rfl ?_
    refine RunL.on rfl rfl ?_
    refine RunL.ok (OpOk.move rfl) rfl ?_
    refine RunL.on rfl rfl ?_
    refine RunL.ok (OpOk.gtr rfl rfl) rfl ?_
    refine RunL.ok (OpOk.pickF rfl rfl) rfl ?_
    refine RunL.ok (OpOk.move rfl) rfl ?_
    refine RunL.splitD (t := 18) rfl (fun x3 => ?_) (fun x3 => ?_)
    · refine RunL.off rfl rfl rfl rfl ?_
      refine RunL.off rfl rfl rfl rfl ?_
      refine RunL.off rfl rfl rfl rfl ?_
      refine RunL.ok (OpOk.pickT rfl rfl) rfl ?_
      refine RunL.ok (OpOk.move rfl) rfl ?_
      refine RunL.off rfl rfl rfl rfl ?_
      refine RunL.off rfl rfl rfl rfl ?_
      refine RunL.off rfl rfl rfl rfl ?_
      refine RunL.off rfl rfl rfl rfl ?_
      refine RunL.ok (OpOk.pickT rfl rfl) rfl ?_
      refine RunL.nil ?_
      refine Run.condT rfl ?_
      refine Run.seq ?_
      refine Run.region ?_
      refine RunL.ok (OpOk.assign rfl) rfl ?_
      refine RunL.nil ?_
      refine Run.ret1 Try.func74 rfl rfl ?_
      exact ⟨_, rfl, as1⟩
    refine RunL.on rfl rfl ?_
    refine RunL.ok (OpOk.fieldAddr fld63_1 rfl) rfl ?_
    refine RunL.on rfl rfl ?_
    refine RunL.ok (OpOk.load rfl rfl rfl (Blk.out Blk.pts _ _ (by first | rfl | assumption))) rfl ?_
    refine RunL.on rfl rfl ?_
    refine RunL.ok (OpOk.lss rfl rfl) rfl ?_
    refine RunL.ok (OpOk.pickF rfl rfl) rfl ?_
    refine RunL.ok (OpOk.move rfl) rfl ?_
    refine RunL.splitD (t := 23) rfl (fun x4 => ?_) (fun x4 => ?_)
    · refine RunL.off rfl rfl rfl rfl ?_
      refine RunL.off rfl rfl rfl rfl ?_
      refine RunL.off rfl rfl rfl rfl ?_
      refine RunL.off rfl rfl rfl rfl ?_
      refine RunL.ok (OpOk.pickT rfl rfl) rfl ?_
      refine RunL.nil ?_
      refine Run.condT rfl ?_
      refine Run.seq ?_
      refine Run.region ?_
      refine RunL.ok (OpOk.assign rfl) rfl ?_
      refine RunL.nil ?_
      refine Run.ret1 Try.func74 rfl rfl ?_
      exact ⟨_, rfl, as1⟩
    refine RunL.on rfl rfl ?_
    refine RunL.ok (OpOk.fieldAddr fld63_2 rfl) rfl ?_
    refine RunL.on rfl rfl ?_
    refine RunL.ok (OpOk.load rfl rfl rfl (Blk.out Blk.pts _ _ (by first | rfl | assumption))) rfl ?_
    refine RunL.on rfl rfl ?_
    refine RunL.ok (OpOk.lenR rfl rfl rd.left rfl) rfl ?_
    refine RunL.on rfl rfl ?_
    refine RunL.ok (OpOk.asT (OpOk.eql rfl rfl) (by omega)) rfl ?_
    refine RunL.ok (OpOk.pickF rfl rfl) rfl ?_
    refine RunL.nil ?_
    refine Run.condT rfl ?_
    refine Run.seq ?_
    refine Run.region ?_
    refine RunL.ok (OpOk.assign rfl) rfl ?_
    refine RunL.nil ?_
    refine Run.ret1 Try.func74 rfl rfl ?_
    exact ⟨_, rfl, as1⟩
end
end Go.Proofs.Ytegbfnibjgpbpaa
