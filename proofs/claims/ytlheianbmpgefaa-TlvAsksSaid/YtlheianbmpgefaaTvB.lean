/- Too deep? -/
import Derived.Test.YtlheianbmpgefaaTvA
import Derived.Test.YtlheianbmpgefaaDl
namespace Go.Proofs.Ytlheianbmpgefaa
open Go Go.Proofs
set_option maxRecDepth 100000
set_option maxHeartbeats 4000000
set_option linter.unusedSimpArgs false
/-- The contract of deep for all lists up to a depth. -/
def Cdeep (w0 : World) (n : Nat) : Prop := ∀ (A : Asn) (u : Value) (m : Nat) (xs : List Ee) (d : Nat), dpT (strL xs) ≤ n → d ≤ 4 → Rd w0 A u 3 m (Fl encT66 xs) → Alls (GE w0) A xs →
  Spec Try.prog w0 43 [u, .int .i64 (d : Int)] A (fun v' A' => ∃ J, v' = .bool (decide (4 < d + dpT (strL xs))) ∧ A' = A * J)
section
variable {w0 : World} {A : Asn} {n : Nat}
theorem s43 {u : Value} {m d : Nat} {xs : List Ee} (hrec : Cdeep w0 n) (hsz : dpT (strL xs) ≤ n) (hd : d ≤ 4) (rd : Rd w0 A u 3 m (Fl encT66 xs)) (al : Alls (GE w0) A xs) :
    Spec Try.prog w0 43 [u, .int .i64 (d : Int)] A (fun v' A' => ∃ J, v' = .bool (decide (4 < d + dpT (strL xs))) ∧ A' = A * J) := hrec A u m xs d hsz hd rd al
theorem s56 {b d : Nat} {t : Int} {bv ev : SV} {bs : List UInt8} {f : Fo} (hrec : Cdeep w0 n) (hsz : dpT (strL (top f)) ≤ n) (hd : d < 4) (rd : Rd w0 A ev.1 3 (top f).length (Fl encT66 (top f))) (al : Alls (GE w0) A (top f)) :
    Spec Try.prog w0 56 [.agg (encT66 (t, bv, bs, ev, f)).toArray, .pointer (some ⟨b, 0, none⟩)] (A * pts b (.cells #[.int .i64 (d : Int)] 3 (0, 0))) (fun v' A' => ∃ J, v' = .bool (decide (4 < d + 1 + dpT (strL (top f)))) ∧ A' = A * J * pts b (.cells #[.int .i64 (d : Int)] 3 (0, 0))) := by
  have hone : ∀ w ∈ (Value.agg (encT66 (t, bv, bs, ev, f)).toArray).cells.toList, w.oneCell' = true := fun w hw => OneC.one (enc := encT66) (t, bv, bs, ev, f) w hw
  refine Spec.of_run [(0, .agg (encT66 (t, bv, bs, ev, f)).toArray), (1, .pointer (some ⟨b, 0, none⟩))] Try.func56 rfl (Nat.le_of_ble_eq_true rfl) (by repeat (first | exact trivial | refine ⟨rfl, ?_⟩)) ?_
  refine Run.seq ?_
  refine Run.region ?_
  refine RunL.box rfl rfl (fun bx1 => ?_)
  refine RunL.ok (OpOk.assign rfl) rfl ?_
  refine RunL.nil ?_
  refine Run.seq ?_
  refine Run.region ?_
  refine RunL.ok (OpOk.fieldAddr fld66_2 rfl) rfl ?_
  refine RunL.ok (OpOk.load rfl rfl rfl (Blk.out Blk.pts _ _ (by first | rfl | assumption))) rfl ?_
  refine RunL.ok (OpOk.load rfl rfl rfl (Blk.out Blk.pts.left _ _ (by first | rfl | assumption))) rfl ?_
  refine RunL.ok (OpOk.addN _ 1 rfl rfl rfl rfl (by omega)) rfl ?_
  refine RunL.call cal43 rfl (s43 (by assumption) (by assumption) (by assumption) rd.left.left al.left.left) rfl (fun vx2 Ax2 hx2 => ?_)
  obtain ⟨x3, ⟨rfl, rfl⟩⟩ := hx2
  refine RunL.ok (OpOk.assign rfl) rfl ?_
  refine RunL.nil ?_
  refine Run.ret1 Try.func56 rfl rfl ?_
  exact ⟨_, rfl, (Eq.trans (frc (frl (frl rfl)) rfl) (congrArg (· * _) (asg as1)))⟩
theorem s58 {b d : Nat} {u : Value} {m : Nat} {xs : List Ee} (hrec : Cdeep w0 n) (hsz : dpT (strL xs) ≤ n + 1) (hd : d < 4) (rd : Rd w0 A u 3 m (Fl encT66 xs)) (al : Alls (GE w0) A xs) :
    Spec Try.prog w0 58 [u, .func (.func 56) #[] #[.pointer (some ⟨b, 0, none⟩)]] (A * pts b (.cells #[.int .i64 (d : Int)] 3 (0, 0))) (fun v' A' => ∃ k J, v' = .int .i64 k ∧ (0 ≤ k ↔ 4 < d + dpT (strL xs)) ∧ A' = A * J * pts b (.cells #[.int .i64 (d : Int)] 3 (0, 0))) := by
  have hl := rd.lenFl (fun _ => rfl) (by decide)
  subst hl
  have hmx := rd.max
  refine Spec.of_run [(0, u), (1, .func (.func 56) #[] #[.pointer (some ⟨b, 0, none⟩)])] Try.func58 rfl (Nat.le_of_ble_eq_true rfl) (by repeat (first | exact trivial | refine ⟨rfl, ?_⟩)) ?_
  refine Run.seq ?_
  refine Run.region ?_
  refine RunL.ok (OpOk.assign rfl) rfl ?_
  refine RunL.nil ?_
  refine Run.seq ?_
  refine Run.seq ?_
  refine Run.region ?_
  refine RunL.ok (OpOk.move rfl) rfl ?_
  refine RunL.ok (OpOk.lenR rfl rfl rd.left rfl) rfl ?_
  refine RunL.ok (OpOk.move rfl) rfl ?_
  refine RunL.nil ?_
  refine Run.block ?_
  refine Run.jump ((Run.loopJ (X := Nat × Asn) (fun x => [(8, .int .i64 (x.1 : Int)), (7, .int .i64 (xs.length : Int)), (0, u), (1, .func (.func 56) #[] #[.pointer (some ⟨b, 0, none⟩)])]) (fun x => A * x.2 * pts b (.cells #[.int .i64 (d : Int)] 3 (0, 0))) (fun x => x.1 ≤ xs.length ∧ (4 < d + dpT (strL xs) ↔ 4 < d + dpT (strL (xs.drop x.1)))) (fun x => xs.length - x.1) (0, _) ⟨Nat.zero_le _, Iff.rfl⟩ (fun x hx ih => ?_))) ⟨rfl, rfl, rfl, rfl, trivial⟩ (Grew.of (congrArg (· * _) as0) (Grew.refl _))
  obtain ⟨i, J⟩ := x
  simp only at hx ih ⊢
  obtain ⟨hi, hdr⟩ := hx
  rcases Nat.lt_or_ge i xs.length with hlt | hge
  · have hg := al.get hlt
    obtain ⟨o, hoe⟩ : ∃ o, xs.getD i default = o := ⟨_, rfl⟩
    rw [hoe] at hg
    obtain ⟨t, bv, bs, ev, f⟩ := o
    obtain ⟨_, hgr, hgf⟩ := hg
    have hga := GFo.alls hgf
    have hdp := dpT_at hlt hoe
    rw [strL_drop hlt hoe, dpT, ← strL_top] at hdr
    refine Run.seq ?_
    refine Run.region ?_
    refine RunL.ok (OpOk.asT (OpOk.lss rfl rfl) (by omega)) rfl ?_
    refine RunL.nil ?_
    refine Run.seq ?_
    refine Run.condT rfl ?_
    refine Run.skip ?_
    refine Run.seq ?_
    refine Run.block ?_
    refine Run.seq ?_
    refine Run.region ?_
    refine RunL.ok (OpOk.move rfl) rfl ?_
    refine RunL.ok (OpOk.assign rfl) rfl ?_
    refine RunL.nil ?_
    refine Run.seq ?_
    refine Run.region ?_
    refine RunL.ok (OpOk.move rfl) rfl ?_
    refine RunL.ok (OpOk.move rfl) rfl ?_
    refine RunL.ok (OpOk.move rfl) rfl ?_
    refine RunL.ok (OpOk.idxN rfl ti66 rfl rd.left.left rfl (by omega)) rfl ?_
    refine RunL.ok (OpOk.loadFlE (by assumption) rfl rfl ti66 rfl rd.left.left (fun _ => rfl) rfl (by omega)) rfl ?_
    refine RunL.callV cal56 rfl rfl (Spec.mem rfl (s56 (b := b) (d := d) (t := t) (bv := bv) (ev := ev) (bs := bs) (f := f) hrec (by omega) hd hgr.left hga.left)) rfl (fun u1 A1 h1 => ?_)
    obtain ⟨J1, rfl, rfl⟩ := h1
    refine RunL.nil ?_
    refine Run.condD rfl (fun z1 => ?_) (fun z1 => ?_)
    · refine Run.seq ?_
      refine Run.region ?_
      refine RunL.ok (OpOk.move rfl) rfl ?_
      refine RunL.ok (OpOk.assign rfl) rfl ?_
      refine RunL.nil ?_
      refine Run.ret1 Try.func58 rfl rfl ?_
      exact ⟨(i : Int), _, rfl, ⟨fun _ => by omega, fun _ => by omega⟩, by rw [← sep_assoc]⟩
    refine Run.skip ?_
    refine Run.inBlock ?_
    refine Run.region ?_
    refine RunL.ok (OpOk.addN _ 1 rfl rfl rfl rfl (by omega)) rfl ?_
    refine RunL.ok (OpOk.move rfl) rfl ?_
    refine RunL.nil ?_
    refine Run.jump ((ih (i + 1, _) ⟨by dsimp only; omega, by dsimp only; omega⟩ (by dsimp only; omega))) ⟨rfl, rfl, rfl, rfl, trivial⟩ (Grew.of (congrArg (· * _) (asg as1)) (Grew.refl _))
  · obtain rfl : i = xs.length := by omega
    clear ih
    rw [List.drop_length, strL, dpT] at hdr
    refine Run.seq ?_
    refine Run.region ?_
    refine RunL.ok (OpOk.asF (OpOk.lss rfl rfl) (by omega)) rfl ?_
    refine RunL.nil ?_
    refine Run.seq ?_
    refine Run.condF rfl ?_
    refine Run.exit rfl ?_
    refine Run.seq ?_
    refine Run.region ?_
    refine RunL.ok (OpOk.assign rfl) rfl ?_
    refine RunL.nil ?_
    refine Run.ret1 Try.func58 rfl rfl ?_
    exact ⟨-1, J, rfl, ⟨fun h => by omega, fun h => by omega⟩, rfl⟩
theorem s55 {b d : Nat} {u : Value} {m : Nat} {xs : List Ee} (hrec : Cdeep w0 n) (hsz : dpT (strL xs) ≤ n + 1) (hd : d < 4) (rd : Rd w0 A u 3 m (Fl encT66 xs)) (al : Alls (GE w0) A xs) :
    Spec Try.prog w0 55 [u, .func (.func 56) #[] #[.pointer (some ⟨b, 0, none⟩)]] (A * pts b (.cells #[.int .i64 (d : Int)] 3 (0, 0))) (fun v' A' => ∃ J, v' = .bool (decide (4 < d + dpT (strL xs))) ∧ A' = A * J * pts b (.cells #[.int .i64 (d : Int)] 3 (0, 0))) := by
  refine Spec.of_run [(0, u), (1, .func (.func 56) #[] #[.pointer (some ⟨b, 0, none⟩)])] Try.func55 rfl (Nat.le_of_ble_eq_true rfl) (by repeat (first | exact trivial | refine ⟨rfl, ?_⟩)) ?_
  refine Run.seq ?_
  refine Run.region ?_
  refine RunL.ok (OpOk.assign rfl) rfl ?_
  refine RunL.nil ?_
  refine Run.seq ?_
  refine Run.region ?_
  refine RunL.ok (OpOk.move rfl) rfl ?_
  refine RunL.ok (OpOk.move rfl) rfl ?_
  refine RunL.call cal58 rfl (s58 (by assumption) (by assumption) (by assumption) rd al) rfl (fun vx1 Ax1 hx1 => ?_)
  obtain ⟨x2, ⟨x3, ⟨rfl, ⟨x4, rfl⟩⟩⟩⟩ := hx1
  refine RunL.ok (OpOk.geq rfl rfl) rfl ?_
  refine RunL.ok (OpOk.assign rfl) rfl ?_
  refine RunL.nil ?_
  refine Run.ret1 Try.func55 rfl rfl ?_
  exact ⟨x3, congrArg Value.bool (decide_eq_decide.2 x4), rfl⟩
theorem s58a {u w : Value} (rd : Rd w0 A u 3 0 (Fl encT66 ([] : List Ee))) : Spec Try.prog w0 58 [u, w] A (fun v' A' => v' = .int .i64 (-1) ∧ A' = A) := by
  refine Spec.of_run [(0, u), (1, w)] Try.func58 rfl (Nat.le_of_ble_eq_true rfl) (by repeat (first | exact trivial | refine ⟨rfl, ?_⟩)) ?_
  refine Run.seq ?_
  refine Run.region ?_
  refine RunL.ok (OpOk.assign rfl) rfl ?_
  refine RunL.nil ?_
  refine Run.seq ?_
  refine Run.seq ?_
  refine Run.region ?_
  refine RunL.ok (OpOk.move rfl) rfl ?_
  refine RunL.ok (OpOk.lenR rfl rfl rd rfl) rfl ?_
  refine RunL.ok (OpOk.move rfl) rfl ?_
  refine RunL.nil ?_
  refine Run.block ?_
  refine Run.jump ((Run.loopJ (X := Unit) (fun _ => [(8, .int .i64 0), (7, .int .i64 0), (0, u), (1, w)]) (fun _ => A) (fun _ => True) (fun _ => 0) () trivial (fun x _ ih => ?_))) ⟨rfl, rfl, rfl, rfl, trivial⟩ ((Grew.refl _))
  clear ih
  refine Run.seq ?_
  refine Run.region ?_
  refine RunL.ok (OpOk.asF (OpOk.lss rfl rfl) (by omega)) rfl ?_
  refine RunL.nil ?_
  refine Run.seq ?_
  refine Run.condF rfl ?_
  refine Run.exit rfl ?_
  refine Run.seq ?_
  refine Run.region ?_
  refine RunL.ok (OpOk.assign rfl) rfl ?_
  refine RunL.nil ?_
  refine Run.ret1 Try.func58 rfl rfl ?_
  exact ⟨rfl, rfl⟩
theorem s55a {u w : Value} (rd : Rd w0 A u 3 0 (Fl encT66 ([] : List Ee))) : Spec Try.prog w0 55 [u, w] A (fun v' A' => v' = .bool false ∧ A' = A) := by
  refine Spec.of_run [(0, u), (1, w)] Try.func55 rfl (Nat.le_of_ble_eq_true rfl) (by repeat (first | exact trivial | refine ⟨rfl, ?_⟩)) ?_
  refine Run.seq ?_
  refine Run.region ?_
  refine RunL.ok (OpOk.assign rfl) rfl ?_
  refine RunL.nil ?_
  refine Run.seq ?_
  refine Run.region ?_
  refine RunL.ok (OpOk.move rfl) rfl ?_
  refine RunL.ok (OpOk.move rfl) rfl ?_
  refine RunL.call cal58 rfl (s58a rd) rfl (fun vx1 Ax1 hx1 => ?_)
  obtain ⟨rfl, rfl⟩ := hx1
  refine RunL.ok (OpOk.asF (OpOk.geq rfl rfl) (by omega)) rfl ?_
  refine RunL.ok (OpOk.assign rfl) rfl ?_
  refine RunL.nil ?_
  refine Run.ret1 Try.func55 rfl rfl ?_
  exact ⟨rfl, rfl⟩
theorem deepNil {u : Value} {d : Nat} (rd : Rd w0 A u 3 0 (Fl encT66 ([] : List Ee))) :
    Spec Try.prog w0 43 [u, .int .i64 (d : Int)] A (fun v' A' => ∃ J, v' = .bool false ∧ A' = A * J) := by
  refine Spec.of_run [(0, u), (1, .int .i64 (d : Int))] Try.func43 rfl (Nat.le_of_ble_eq_true rfl) (by repeat (first | exact trivial | refine ⟨rfl, ?_⟩)) ?_
  refine Run.seq ?_
  refine Run.region ?_
  refine RunL.box1 rfl rfl rfl (fun bx1 => ?_)
  refine RunL.ok (OpOk.assign rfl) rfl ?_
  refine RunL.nil ?_
  refine Run.seq ?_
  refine Run.seq ?_
  refine Run.region ?_
  refine RunL.ok (OpOk.move rfl) rfl ?_
  refine RunL.ok (OpOk.lenR rfl rfl rd.left rfl) rfl ?_
  refine RunL.ok (OpOk.asF (OpOk.gtr rfl rfl) (by omega)) rfl ?_
  refine RunL.ok (OpOk.move rfl) rfl ?_
  refine RunL.off rfl rfl rfl rfl ?_
  refine RunL.off rfl rfl rfl rfl ?_
  refine RunL.ok (OpOk.pickF rfl rfl) rfl ?_
  refine RunL.nil ?_
  refine Run.condF rfl ?_
  refine Run.skip ?_
  refine Run.seq ?_
  refine Run.region ?_
  refine RunL.ok (OpOk.move rfl) rfl ?_
  refine RunL.ok (OpOk.makeFunc rfl rfl) rfl ?_
  refine RunL.call cal55 rfl (s55a rd.left) rfl (fun vx2 Ax2 hx2 => ?_)
  obtain ⟨rfl, rfl⟩ := hx2
  refine RunL.ok (OpOk.assign rfl) rfl ?_
  refine RunL.nil ?_
  refine Run.ret1 Try.func43 rfl rfl ?_
  exact ⟨_, rfl, as1⟩
theorem deepFull {u : Value} {x : Ee} {r : List Ee} (rd : Rd w0 A u 3 (r.length + 1) (Fl encT66 (x :: r))) :
    Spec Try.prog w0 43 [u, .int .i64 4] A (fun v' A' => ∃ J, v' = .bool true ∧ A' = A * J) := by
  refine Spec.of_run [(0, u), (1, .int .i64 4)] Try.func43 rfl (Nat.le_of_ble_eq_true rfl) (by repeat (first | exact trivial | refine ⟨rfl, ?_⟩)) ?_
  refine Run.seq ?_
  refine Run.region ?_
  refine RunL.box1 rfl rfl rfl (fun bx1 => ?_)
  refine RunL.ok (OpOk.assign rfl) rfl ?_
  refine RunL.nil ?_
  refine Run.seq ?_
  refine Run.seq ?_
  refine Run.region ?_
  refine RunL.ok (OpOk.move rfl) rfl ?_
  refine RunL.ok (OpOk.lenR rfl rfl rd.left rfl) rfl ?_
  refine RunL.ok (OpOk.asT (OpOk.gtr rfl rfl) (by omega)) rfl ?_
  refine RunL.ok (OpOk.move rfl) rfl ?_
  refine RunL.on rfl rfl ?_
  refine RunL.ok (OpOk.load rfl rfl rfl (Blk.out Blk.pts _ _ (by first | rfl | assumption))) rfl ?_
  refine RunL.on rfl rfl ?_
  refine RunL.ok (OpOk.asT (OpOk.geq rfl rfl) (by omega)) rfl ?_
  refine RunL.ok (OpOk.pickT rfl rfl) rfl ?_
  refine RunL.nil ?_
  refine Run.condT rfl ?_
  refine Run.seq ?_
  refine Run.region ?_
  refine RunL.ok (OpOk.assign rfl) rfl ?_
  refine RunL.nil ?_
  refine Run.ret1 Try.func43 rfl rfl ?_
  exact ⟨_, rfl, as1⟩
theorem deepStep {u : Value} {d : Nat} {xs : List Ee} (hrec : Cdeep w0 n) (hsz : dpT (strL xs) ≤ n + 1) (hd : d < 4) (rd : Rd w0 A u 3 xs.length (Fl encT66 xs)) (al : Alls (GE w0) A xs) :
    Spec Try.prog w0 43 [u, .int .i64 (d : Int)] A (fun v' A' => ∃ J, v' = .bool (decide (4 < d + dpT (strL xs))) ∧ A' = A * J) := by
  refine Spec.of_run [(0, u), (1, .int .i64 (d : Int))] Try.func43 rfl (Nat.le_of_ble_eq_true rfl) (by repeat (first | exact trivial | refine ⟨rfl, ?_⟩)) ?_
  refine Run.seq ?_
  refine Run.region ?_
  refine RunL.box1 rfl rfl rfl (fun bx1 => ?_)
  refine RunL.ok (OpOk.assign rfl) rfl ?_
  refine RunL.nil ?_
  refine Run.seq ?_
  refine Run.seq ?_
  refine Run.region ?_
  refine RunL.ok (OpOk.move rfl) rfl ?_
  refine RunL.ok (OpOk.lenR rfl rfl rd.left rfl) rfl ?_
  refine RunL.ok (OpOk.gtr rfl rfl) rfl ?_
  refine RunL.ok (OpOk.move rfl) rfl ?_
  refine RunL.splitD (t := 8) rfl (fun x2 => ?_) (fun x2 => ?_)
  · refine RunL.on rfl rfl ?_
    refine RunL.ok (OpOk.load rfl rfl rfl (Blk.out Blk.pts _ _ (by first | rfl | assumption))) rfl ?_
    refine RunL.on rfl rfl ?_
    refine RunL.ok (OpOk.asF (OpOk.geq rfl rfl) (by omega)) rfl ?_
    refine RunL.ok (OpOk.pickT rfl rfl) rfl ?_
    refine RunL.nil ?_
    refine Run.condF rfl ?_
    refine Run.skip ?_
    refine Run.seq ?_
    refine Run.region ?_
    refine RunL.ok (OpOk.move rfl) rfl ?_
    refine RunL.ok (OpOk.makeFunc rfl rfl) rfl ?_
    refine RunL.call cal55 rfl (s55 (by assumption) (by assumption) (by assumption) rd al) rfl (fun vx4 Ax4 hx4 => ?_)
    obtain ⟨x5, ⟨rfl, rfl⟩⟩ := hx4
    refine RunL.ok (OpOk.assign rfl) rfl ?_
    refine RunL.nil ?_
    refine Run.ret1 Try.func43 rfl rfl ?_
    exact ⟨_, rfl, (asg as1)⟩
  refine RunL.off rfl rfl rfl rfl ?_
  refine RunL.off rfl rfl rfl rfl ?_
  refine RunL.ok (OpOk.pickF rfl rfl) rfl ?_
  refine RunL.nil ?_
  refine Run.condF rfl ?_
  refine Run.skip ?_
  refine Run.seq ?_
  refine Run.region ?_
  refine RunL.ok (OpOk.move rfl) rfl ?_
  refine RunL.ok (OpOk.makeFunc rfl rfl) rfl ?_
  refine RunL.call cal55 rfl (s55 (by assumption) (by assumption) (by assumption) rd al) rfl (fun vx7 Ax7 hx7 => ?_)
  obtain ⟨x8, ⟨rfl, rfl⟩⟩ := hx7
  refine RunL.ok (OpOk.assign rfl) rfl ?_
  refine RunL.nil ?_
  refine Run.ret1 Try.func43 rfl rfl ?_
  exact ⟨_, rfl, (asg as1)⟩
theorem deepAll : ∀ n, Cdeep w0 n := fun n => by
  induction n with
  | zero =>
    intro A u m xs d hsz hd rd al
    have hl := rd.lenFl (fun _ => rfl) (by decide)
    subst hl
    cases xs with
    | nil => exact (deepNil rd).mono fun v' A' ⟨J, h1, h2⟩ => ⟨J, by rw [h1, decide_eq_false (show ¬ 4 < d + dpT (strL []) by rw [strL, dpT]; omega)], h2⟩
    | cons x r =>
      obtain ⟨t, bv, bs, ev, f⟩ := x
      rw [strL, dpT] at hsz
      omega
  | succ n ih =>
    intro A u m xs d hsz hd rd al
    have hl := rd.lenFl (fun _ => rfl) (by decide)
    subst hl
    rcases Nat.lt_or_ge d 4 with h4 | h4
    · exact deepStep ih hsz h4 rd al
    · obtain rfl : d = 4 := by omega
      cases xs with
      | nil => exact (deepNil rd).mono fun v' A' ⟨J, h1, h2⟩ => ⟨J, by rw [h1, decide_eq_false (show ¬ 4 < 4 + dpT (strL []) by rw [strL, dpT]; omega)], h2⟩
      | cons x r =>
        obtain ⟨t, bv, bs, ev, f⟩ := x
        exact (deepFull rd).mono fun v' A' ⟨J, h1, h2⟩ => ⟨J, by rw [h1, decide_eq_true (show 4 < 4 + dpT (strL ((t, bv, bs, ev, f) :: r)) by rw [strL, dpT]; omega)], h2⟩
theorem deepA {u : Value} {m d : Nat} {xs : List Ee} (hd : d ≤ 4) (rd : Rd w0 A u 3 m (Fl encT66 xs)) (al : Alls (GE w0) A xs) :
    Spec Try.prog w0 43 [u, .int .i64 (d : Int)] A (fun v' A' => ∃ J, v' = .bool (decide (4 < d + dpT (strL xs))) ∧ A' = A * J) := deepAll _ A u m xs d (Nat.le_refl _) hd rd al
theorem s43b {u : Value} {m : Nat} {xs : List Ee} (rd : Rd w0 A u 3 m (Fl encT66 xs)) (al : Alls (GE w0) A xs) :
    Spec Try.prog w0 43 [u, .int .i64 0] A (fun v' A' => ∃ J, v' = .bool (decide (4 < dpT (strL xs))) ∧ A' = A * J) := by
  have h := deepA (d := 0) (by decide) rd al
  rw [Nat.zero_add] at h
  exact h
end
end Go.Proofs.Ytlheianbmpgefaa
