/- The law RouterPlays, walked. -/
import Derived.Test.YtegbfnibjgpbpaaRtK
import Derived.Test.YtegbfnibjgpbpaaCow
namespace Go.Proofs.Ytegbfnibjgpbpaa
open Go Go.Proofs
set_option maxRecDepth 100000
set_option maxHeartbeats 4000000
set_option linter.unusedSimpArgs false
/-- What a script's step says: kind, receiver, messages. -/
abbrev ROp := Int × Int × SV × List Ms
def encT74 : ROp → List Value := fun (k, t, v, _) => [.int .i64 k, .int .i64 t, v.1]
instance : OneC encT74 := ⟨fun ⟨k, t, v, l⟩ u hu => by
  simp only [encT74, List.mem_cons, List.not_mem_nil, or_false] at hu
  rcases hu with rfl | rfl | rfl
  · rfl
  · rfl
  · exact v.2⟩
structure ROpG (w0 : World) (o : ROp) : Prop where
  rd : Rd w0 (old w0) o.2.2.1.1 5 o.2.2.2.length (Fl encT82 o.2.2.2)
  al : Alls (GM w0) (old w0) o.2.2.2
  bd : ∀ m ∈ o.2.2.2, m.2.2.2.2.2.length ≤ 140737488351232
  nm : o.2.2.2.length ≤ 2513169434843
theorem bd_cm {l : List Ms} (h : ∀ m ∈ l, m.2.2.2.2.2.length ≤ 140737488351232) : ∀ c ∈ l.map cm, c.2.2.2.2.length ≤ 140737488351232 := fun c hc => by
  obtain ⟨m, hm, rfl⟩ := List.mem_map.1 hc
  exact h m hm
theorem cm_bd {l m : List Ms} (e : l.map cm = m.map cm) (h : ∀ x ∈ m, x.2.2.2.2.2.length ≤ 140737488351232) : ∀ x ∈ l, x.2.2.2.2.2.length ≤ 140737488351232 := fun x hx =>
  bd_cm h (cm x) (e ▸ List.mem_map_of_mem hx)
theorem wt_bd {l : List Ms} {to : Int} (h : ∀ x ∈ l, x.2.2.2.2.2.length ≤ 140737488351232) : ∀ x ∈ wt to l, x.2.2.2.2.2.length ≤ 140737488351232 := fun x hx => h x (List.mem_filter.1 hx).1
theorem wt_al {w0 : World} {D : Asn} {l : List Ms} {to : Int} (h : Alls (GM w0) D l) : Alls (GM w0) D (wt to l) := ⟨fun x hx => h.at_ x (List.mem_filter.1 hx).1⟩
section
variable {w0 : World} {A : Asn}
theorem routerPlays_spec {ops room : Int} {u : Value} {P : List ROp} (rd : Rd w0 (old w0) u 3 P.length (Fl encT74 P)) (hok : ∀ o ∈ P, ROpG w0 o) :
    Spec Try.prog w0 9 [.int .i64 ops, .int .i64 room, u] (old w0) (fun v' A' => v' = .bool true ∧ Grew (old w0) A') := by
  have hmx := rd.max
  rcases Decidable.em (ops < 1 ∨ 4 < ops ∨ room < 1 ∨ 16 < room) with hbad | hgood
  · refine Spec.of_run [(0, .int .i64 ops), (1, .int .i64 room), (2, u)] Try.func9 rfl (Nat.le_of_ble_eq_true rfl) (by repeat (first | exact trivial | refine ⟨rfl, ?_⟩)) ?_
    refine Run.seq ?_
    refine Run.region ?_
    refine RunL.ok (OpOk.assign rfl) rfl ?_
    refine RunL.nil ?_
    refine Run.seq ?_
    refine Run.seq ?_
    refine Run.region ?_
    refine RunL.call cal40 rfl (s40) rfl (fun vx1 Ax1 hx1 => ?_)
    obtain ⟨x2, ⟨rfl, rfl⟩⟩ := hx1
    refine RunL.ok (OpOk.not rfl) rfl ?_
    refine RunL.nil ?_
    refine Run.condF rfl ?_
    refine Run.skip ?_
    refine Run.seq ?_
    refine Run.region ?_
    refine RunL.ok (OpOk.move rfl) rfl ?_
    refine RunL.ok (OpOk.move rfl) rfl ?_
    refine RunL.call cal41 rfl (s41a (by assumption)) rfl (fun vx3 Ax3 hx3 => ?_)
    obtain ⟨rfl, rfl⟩ := hx3
    refine RunL.ok (OpOk.move rfl) rfl ?_
    refine RunL.ok (OpOk.ext20 rfl) rfl ?_
    refine RunL.ok (OpOk.ext21 rfl) rfl ?_
    refine RunL.ok (OpOk.assign rfl) rfl ?_
    refine RunL.ok (OpOk.assign rfl) rfl ?_
    refine RunL.nil ?_
    refine Run.seq ?_
    refine Run.seq ?_
    refine Run.region ?_
    refine RunL.ok (OpOk.move rfl) rfl ?_
    refine RunL.ok (OpOk.lss rfl rfl) rfl ?_
    refine RunL.ok (OpOk.move rfl) rfl ?_
    refine RunL.splitD (t := 35) rfl (fun x4 => ?_) (fun x4 => ?_)
    · refine RunL.off rfl rfl rfl rfl ?_
      refine RunL.off rfl rfl rfl rfl ?_
      refine RunL.ok (OpOk.pickT rfl rfl) rfl ?_
      refine RunL.ok (OpOk.move rfl) rfl ?_
      refine RunL.off rfl rfl rfl rfl ?_
      refine RunL.off rfl rfl rfl rfl ?_
      refine RunL.ok (OpOk.pickT rfl rfl) rfl ?_
      refine RunL.ok (OpOk.move rfl) rfl ?_
      refine RunL.off rfl rfl rfl rfl ?_
      refine RunL.off rfl rfl rfl rfl ?_
      refine RunL.ok (OpOk.pickT rfl rfl) rfl ?_
      refine RunL.nil ?_
      refine Run.condT rfl ?_
      refine Run.seq ?_
      refine Run.region ?_
      refine RunL.ok (OpOk.move rfl) rfl ?_
      refine RunL.ok (OpOk.eqlPN rfl rfl) rfl ?_
      refine RunL.ok (OpOk.move rfl) rfl ?_
      refine RunL.on rfl rfl ?_
      refine RunL.ok (OpOk.move rfl) rfl ?_
      refine RunL.on rfl rfl ?_
      refine RunL.ok (OpOk.asT (OpOk.eql rfl rfl) (by omega)) rfl ?_
      refine RunL.ok (OpOk.pickT rfl rfl) rfl ?_
      refine RunL.ok (OpOk.assign rfl) rfl ?_
      refine RunL.nil ?_
      refine Run.ret1 Try.func9 rfl rfl ?_
      exact ⟨rfl, ⟨_, as1⟩⟩
    refine RunL.on rfl rfl ?_
    refine RunL.ok (OpOk.move rfl) rfl ?_
    refine RunL.on rfl rfl ?_
    refine RunL.ok (OpOk.gtr rfl rfl) rfl ?_
    refine RunL.ok (OpOk.pickF rfl rfl) rfl ?_
    refine RunL.ok (OpOk.move rfl) rfl ?_
    refine RunL.splitD (t := 39) rfl (fun x5 => ?_) (fun x5 => ?_)
    · refine RunL.off rfl rfl rfl rfl ?_
      refine RunL.off rfl rfl rfl rfl ?_
      refine RunL.ok (OpOk.pickT rfl rfl) rfl ?_
      refine RunL.ok (OpOk.move rfl) rfl ?_
      refine RunL.off rfl rfl rfl rfl ?_
      refine RunL.off rfl rfl rfl rfl ?_
      refine RunL.ok (OpOk.pickT rfl rfl) rfl ?_
      refine RunL.nil ?_
      refine Run.condT rfl ?_
      refine Run.seq ?_
      refine Run.region ?_
      refine RunL.ok (OpOk.move rfl) rfl ?_
      refine RunL.ok (OpOk.eqlPN rfl rfl) rfl ?_
      refine RunL.ok (OpOk.move rfl) rfl ?_
      refine RunL.on rfl rfl ?_
      refine RunL.ok (OpOk.move rfl) rfl ?_
      refine RunL.on rfl rfl ?_
      refine RunL.ok (OpOk.asT (OpOk.eql rfl rfl) (by omega)) rfl ?_
      refine RunL.ok (OpOk.pickT rfl rfl) rfl ?_
      refine RunL.ok (OpOk.assign rfl) rfl ?_
      refine RunL.nil ?_
      refine Run.ret1 Try.func9 rfl rfl ?_
      exact ⟨rfl, ⟨_, as1⟩⟩
    refine RunL.on rfl rfl ?_
    refine RunL.ok (OpOk.move rfl) rfl ?_
    refine RunL.on rfl rfl ?_
    refine RunL.ok (OpOk.lss rfl rfl) rfl ?_
    refine RunL.ok (OpOk.pickF rfl rfl) rfl ?_
    refine RunL.ok (OpOk.move rfl) rfl ?_
    refine RunL.splitD (t := 43) rfl (fun x6 => ?_) (fun x6 => ?_)
    · refine RunL.off rfl rfl rfl rfl ?_
      refine RunL.off rfl rfl rfl rfl ?_
      refine RunL.ok (OpOk.pickT rfl rfl) rfl ?_
      refine RunL.nil ?_
      refine Run.condT rfl ?_
      refine Run.seq ?_
      refine Run.region ?_
      refine RunL.ok (OpOk.move rfl) rfl ?_
      refine RunL.ok (OpOk.eqlPN rfl rfl) rfl ?_
      refine RunL.ok (OpOk.move rfl) rfl ?_
      refine RunL.on rfl rfl ?_
      refine RunL.ok (OpOk.move rfl) rfl ?_
      refine RunL.on rfl rfl ?_
      refine RunL.ok (OpOk.asT (OpOk.eql rfl rfl) (by omega)) rfl ?_
      refine RunL.ok (OpOk.pickT rfl rfl) rfl ?_
      refine RunL.ok (OpOk.assign rfl) rfl ?_
      refine RunL.nil ?_
      refine Run.ret1 Try.func9 rfl rfl ?_
      exact ⟨rfl, ⟨_, as1⟩⟩
    refine RunL.on rfl rfl ?_
    refine RunL.ok (OpOk.move rfl) rfl ?_
    refine RunL.on rfl rfl ?_
    refine RunL.ok (OpOk.asT (OpOk.gtr rfl rfl) (by omega)) rfl ?_
    refine RunL.ok (OpOk.pickF rfl rfl) rfl ?_
    refine RunL.nil ?_
    refine Run.condT rfl ?_
    refine Run.seq ?_
    refine Run.region ?_
    refine RunL.ok (OpOk.move rfl) rfl ?_
    refine RunL.ok (OpOk.eqlPN rfl rfl) rfl ?_
    refine RunL.ok (OpOk.move rfl) rfl ?_
    refine RunL.on rfl rfl ?_
    refine RunL.ok (OpOk.move rfl) rfl ?_
    refine RunL.on rfl rfl ?_
    refine RunL.ok (OpOk.asT (OpOk.eql rfl rfl) (by omega)) rfl ?_
    refine RunL.ok (OpOk.pickT rfl rfl) rfl ?_
    refine RunL.ok (OpOk.assign rfl) rfl ?_
    refine RunL.nil ?_
    refine Run.ret1 Try.func9 rfl rfl ?_
    exact ⟨rfl, ⟨_, as1⟩⟩
  · obtain ⟨k, rfl⟩ := Int.eq_ofNat_of_zero_le (show 0 ≤ ops by omega)
    have hk1 : 1 ≤ k := by omega
    have hk4 : k ≤ 4 := by omega
    have hroom1 : 1 ≤ room := by omega
    have hroom4 : room ≤ 16 := by omega
    have hQ0 : (List.replicate (k + 1) q0).length = k + 1 := by simp
    have hrel0 := RelC.new (k + 1)
    have hrow0 := RowB.new room (by omega) (k + 1)
    refine Spec.of_run [(0, .int .i64 (k : Int)), (1, .int .i64 room), (2, u)] Try.func9 rfl (Nat.le_of_ble_eq_true rfl) (by repeat (first | exact trivial | refine ⟨rfl, ?_⟩)) ?_
    refine Run.seq ?_
    refine Run.region ?_
    refine RunL.ok (OpOk.assign rfl) rfl ?_
    refine RunL.nil ?_
    refine Run.seq ?_
    refine Run.seq ?_
    refine Run.region ?_
    refine RunL.call cal40 rfl (s40) rfl (fun vx1 Ax1 hx1 => ?_)
    obtain ⟨x2, ⟨rfl, rfl⟩⟩ := hx1
    refine RunL.ok (OpOk.not rfl) rfl ?_
    refine RunL.nil ?_
    refine Run.condF rfl ?_
    refine Run.skip ?_
    refine Run.seq ?_
    refine Run.region ?_
    refine RunL.ok (OpOk.move rfl) rfl ?_
    refine RunL.ok (OpOk.move rfl) rfl ?_
    refine RunL.call cal41 rfl (s41b (by assumption) (by assumption) (by assumption) (by assumption)) rfl (fun vx4 Ax4 hx4 => ?_)
    obtain ⟨x5, ⟨x6, ⟨rfl, rfl⟩⟩⟩ := hx4
    refine RunL.ok (OpOk.move rfl) rfl ?_
    refine RunL.ok (OpOk.ext20 rfl) rfl ?_
    refine RunL.ok (OpOk.ext21 rfl) rfl ?_
    refine RunL.ok (OpOk.assign rfl) rfl ?_
    refine RunL.ok (OpOk.assign rfl) rfl ?_
    refine RunL.nil ?_
    refine Run.seq ?_
    refine Run.seq ?_
    refine Run.region ?_
    refine RunL.ok (OpOk.move rfl) rfl ?_
    refine RunL.ok (OpOk.asF (OpOk.lss rfl rfl) (by omega)) rfl ?_
    refine RunL.ok (OpOk.move rfl) rfl ?_
    refine RunL.on rfl rfl ?_
    refine RunL.ok (OpOk.move rfl) rfl ?_
    refine RunL.on rfl rfl ?_
    refine RunL.ok (OpOk.asF (OpOk.gtr rfl rfl) (by omega)) rfl ?_
    refine RunL.ok (OpOk.pickF rfl rfl) rfl ?_
    refine RunL.ok (OpOk.move rfl) rfl ?_
    refine RunL.on rfl rfl ?_
    refine RunL.ok (OpOk.move rfl) rfl ?_
    refine RunL.on rfl rfl ?_
    refine RunL.ok (OpOk.asF (OpOk.lss rfl rfl) (by omega)) rfl ?_
    refine RunL.ok (OpOk.pickF rfl rfl) rfl ?_
    refine RunL.ok (OpOk.move rfl) rfl ?_
    refine RunL.on rfl rfl ?_
    refine RunL.ok (OpOk.move rfl) rfl ?_
    refine RunL.on rfl rfl ?_
    refine RunL.ok (OpOk.asF (OpOk.gtr rfl rfl) (by omega)) rfl ?_
    refine RunL.ok (OpOk.pickF rfl rfl) rfl ?_
    refine RunL.nil ?_
    refine Run.condF rfl ?_
    refine Run.skip ?_
    refine Run.seq ?_
    refine Run.seq ?_
    refine Run.region ?_
    refine RunL.ok (OpOk.move rfl) rfl ?_
    refine RunL.ok (OpOk.eqlPN rfl rfl) rfl ?_
    refine RunL.ok (OpOk.move rfl) rfl ?_
    refine RunL.on rfl rfl ?_
    refine RunL.ok (OpOk.move rfl) rfl ?_
    refine RunL.on rfl rfl ?_
    refine RunL.ok (OpOk.as (c := false) (OpOk.neq rfl rfl) (by rw [decide_eq_true (by omega)]; rfl)) rfl ?_
    refine RunL.ok (OpOk.pickF rfl rfl) rfl ?_
    refine RunL.nil ?_
    refine Run.condF rfl ?_
    refine Run.skip ?_
    refine Run.seq ?_
    refine Run.region ?_
    refine RunL.ok (OpOk.move rfl) rfl ?_
    refine RunL.ok (OpOk.move rfl) rfl ?_
    refine RunL.ok (OpOk.build (cells := #[.int (IntKind.i64) (↑k), .int (IntKind.i64) (room), .int (IntKind.i64) (0), .slice (none) (0) (0)]) rfl (fun w => run_build w 72 _ _ (by rfl))) rfl ?_
    refine RunL.box rfl rfl (fun bx7 => ?_)
    refine RunL.ok (OpOk.assign rfl) rfl ?_
    refine RunL.nil ?_
    refine Run.seq ?_
    refine Run.seq ?_
    refine Run.region ?_
    refine RunL.ok (OpOk.assign rfl) rfl ?_
    refine RunL.nil ?_
    refine Run.block ?_
    refine Run.ent (Ent.ownNil' _ 82 5 (Fl encT82 ([] : List Ms)) rfl) ?_
    refine Run.jump ((Run.loopJ (X := Nat × Asn × List Qu × Int × Value × List Ms) (fun x => [(10, .int .i64 (x.1 : Int)), (9, .pointer (some ⟨bx7, 0, none⟩)), (7, .pointer (some ⟨x5, 0, none⟩)), (0, .int .i64 (k : Int)), (2, u)]) (fun x => old w0 * x.2.1 * pts x5 (.cells #[x6, .int .i64 room, .int .i64 x.2.2.2.1] 119 (0, 0)) * own 123 1 x6 (k + 1) (Fl encT123 (x.2.2.1)) * ownsQ (x.2.2.1) * pts bx7 (.cells #[.int .i64 ((k : Int)), .int .i64 (room), .int .i64 (x.2.2.2.1), x.2.2.2.2.1] 72 (0, 0)) * own 82 5 x.2.2.2.2.1 (x.2.2.2.2.2).length (Fl encT82 (x.2.2.2.2.2))) (fun x => x.1 ≤ P.length ∧ x.1 ≤ 100 ∧ x.2.2.1.length = k + 1 ∧ RelC (cQ x.2.2.1) x.2.2.2.2.2 ∧ RowB room (cQ x.2.2.1) ∧ Alls (GM w0) (old w0) x.2.2.2.2.2 ∧ (∀ m ∈ x.2.2.2.2.2, m.2.2.2.2.2.length ≤ 140737488351232) ∧ 0 ≤ x.2.2.2.1 ∧ x.2.2.2.1 ≤ 2513169434844 * (x.1 : Int)) (fun x => P.length - x.1) (0, _, List.replicate (k + 1) q0, 0, .slice none 0 0, []) ⟨Nat.zero_le _, Nat.zero_le _, hQ0, hrel0, hrow0, Alls.nil, fun m hm => by (cases hm), Int.le_refl _, by simp⟩ (fun x hx ih => ?_))) ⟨rfl, rfl, rfl, rfl, rfl, trivial⟩ (Grew.of (Eq.trans (frc rfl (frc rfl rfl)) (congrArg (· * _) (congrArg (· * _) (congrArg (· * _) (congrArg (· * _) (congrArg (· * _) as1)))))) (Grew.refl _))
    obtain ⟨i, J, Q, ref, lv, L⟩ := x
    simp only at hx ih ⊢
    obtain ⟨hi, hi1, hQ, hrel, hrow, hal, hbd, hr0, hr1⟩ := hx
    rcases Nat.lt_or_ge i P.length with hlt | hge
    · rcases Nat.lt_or_ge i 100 with h100 | h100
      · have ho := hok _ (getD_mem hlt)
        obtain ⟨o, hoe⟩ : ∃ o, P.getD i default = o := ⟨_, rfl⟩
        rw [hoe] at ho
        obtain ⟨ok, ot, osv, ol⟩ := o
        have hord := ho.rd
        have hoal := ho.al
        have hobd := ho.bd
        have honm := ho.nm
        dsimp only at hord hoal hobd honm
        have hCl : (cQ Q).length = k + 1 := by rw [cQ_len]; exact hQ
        have hCl2 : ((cQ Q).length : Int) = (k : Int) + 1 := by rw [hCl]; omega
        have hsm0 := rel_small hrel hrow hroom4 (by omega)
        rcases Decidable.em (ok = 0) with hk0 | hk0
        · subst hk0
          refine Run.seq ?_
          refine Run.seq ?_
          refine Run.region ?_
          refine RunL.ok (OpOk.move rfl) rfl ?_
          refine RunL.ok (OpOk.move rfl) rfl ?_
          refine RunL.ok (OpOk.lenR rfl rfl rd.left.left.left.left.left.left rfl) rfl ?_
          refine RunL.ok (OpOk.asT (OpOk.lss rfl rfl) (by omega)) rfl ?_
          refine RunL.ok (OpOk.move rfl) rfl ?_
          refine RunL.on rfl rfl ?_
          refine RunL.ok (OpOk.move rfl) rfl ?_
          refine RunL.on rfl rfl ?_
          refine RunL.ok (OpOk.asT (OpOk.lss rfl rfl) (by omega)) rfl ?_
          refine RunL.ok (OpOk.pickT rfl rfl) rfl ?_
          refine RunL.nil ?_
          refine Run.condT rfl ?_
          refine Run.skip ?_
          refine Run.seq ?_
          refine Run.block ?_
          refine Run.seq ?_
          refine Run.region ?_
          refine RunL.ok (OpOk.move rfl) rfl ?_
          refine RunL.ok (OpOk.move rfl) rfl ?_
          refine RunL.ok (OpOk.idxN rfl ti74 rfl rd.left.left.left.left.left.left rfl (by omega)) rfl ?_
          refine RunL.ok (OpOk.loadFlE (by assumption) rfl rfl ti74 rfl rd.left.left.left.left.left.left (fun _ => rfl) rfl (by omega)) rfl ?_
          refine RunL.alloc ti74 rfl (fun by1 => ?_)
          refine RunL.storeAll ti74 rfl rfl rfl (fun w hw => OneC.one (enc := encT74) ((0, ot, osv, ol)) w hw) rfl rfl ?_
          refine RunL.nil ?_
          refine Run.seq ?_
          refine Run.seq ?_
          refine Run.region ?_
          refine RunL.ok (OpOk.fieldAddr fld74_0 rfl) rfl ?_
          refine RunL.ok (OpOk.load rfl rfl rfl (Blk.out Blk.pts _ _ (by first | rfl | assumption))) rfl ?_
          refine RunL.ok (OpOk.asT (OpOk.eql rfl rfl) (by omega)) rfl ?_
          refine RunL.nil ?_
          refine Run.condT rfl ?_
          refine Run.seq ?_
          refine Run.region ?_
          refine RunL.ok (OpOk.fieldAddr fld74_2 rfl) rfl ?_
          refine RunL.ok (OpOk.load rfl rfl rfl (Blk.out Blk.pts _ _ (by first | rfl | assumption))) rfl ?_
          refine RunL.call cal42 rfl (s42 hord.left.left.left.left.left.left.left hoal.left.left.left.left.left.left.left (by assumption) (by assumption)) rfl (fun vy2 Ay2 hy2 => ?_)
          obtain ⟨y3, ⟨y4, ⟨y5, rfl⟩⟩⟩ := hy2
          refine RunL.ok (OpOk.assign rfl) rfl ?_
          refine RunL.nil ?_
          refine Run.seq ?_
          refine Run.region ?_
          refine RunL.ok (OpOk.move rfl) rfl ?_
          refine RunL.ok (OpOk.move rfl) rfl ?_
          refine RunL.know (fun w s => (s.conv rfl).ownsM0) (fun aly6 => ?_)
          refine RunL.know (fun w s => (s.conv (frl rfl)).ownRd0) (fun rdy7 => ?_)
          refine RunL.mem (frc (frl (frl (frl (frl (frl (frl rfl)))))) (frc (frl (frl (frl (frl (frl (frl rfl)))))) (frc (frl (frl (frl (frl (frl (frl rfl)))))) rfl))) ?_
          have hybd := cm_bd y5 hobd
          have hyl : y3.length = ol.length := by simpa using congrArg List.length y5
          have hct : countC room (cQ Q) (y3.map cm) ≤ y3.length := by simpa using countC_le room (cQ Q) _ (y3.map cm) rfl
          obtain ⟨N, hN⟩ : ∃ N, N = countC room (cQ Q) (y3.map cm) := ⟨_, rfl⟩
          rw [← hN] at hct
          refine RunL.call cal43 rfl (s43 (Rd.right rdy7).left (Alls.right aly6) (by assumption) (by assumption) (by assumption) (by assumption) (by omega) (by omega)) rfl (fun vz1 Az1 hz1 => ?_)
          obtain ⟨z2, ⟨z3, ⟨rfl, ⟨z4, ⟨z5, rfl⟩⟩⟩⟩⟩ := hz1
          refine RunL.ok (OpOk.assign rfl) rfl ?_
          refine RunL.nil ?_
          refine Run.seq ?_
          refine Run.seq ?_
          refine Run.region ?_
          refine RunL.ok (OpOk.assign rfl) rfl ?_
          refine RunL.nil ?_
          refine Run.block ?_
          rw [← hN]
          refine Run.jump ((Run.loopJ (X := Nat × Asn × Int × Nat × Value × List Ms) (fun x => [(14, .int .i64 (x.1 : Int)), (13, .int .i64 ((N : Int) - (x.2.2.2.1 : Int))), (12, vy2), (11, .pointer (some ⟨by1, 0, none⟩)), (10, .int .i64 (i : Int)), (9, .pointer (some ⟨bx7, 0, none⟩)), (7, .pointer (some ⟨x5, 0, none⟩)), (0, .int .i64 (k : Int)), (2, u)]) (fun x => old w0 * x.2.1 * own 82 5 vy2 y3.length (Fl encT82 y3) * ownsM y3 * pts by1 (.cells (Value.agg (encT74 (0, ot, osv, ol)).toArray).cells 74 (0, 0)) * pts x5 (.cells #[x6, .int .i64 room, .int .i64 (ref + (y3.length : Int) - (N : Int))] 119 (0, 0)) * own 123 1 x6 (k + 1) (Fl encT123 (z2)) * ownsQ (z2) * pts bx7 (.cells #[.int .i64 ((k : Int)), .int .i64 (room), .int .i64 (x.2.2.1), x.2.2.2.2.1] 72 (0, 0)) * own 82 5 x.2.2.2.2.1 (x.2.2.2.2.2).length (Fl encT82 (x.2.2.2.2.2))) (fun x => x.1 ≤ ol.length ∧ x.2.2.2.1 = countC room (cQ Q) ((ol.take x.1).map cm) ∧ x.2.2.1 = ref + (x.1 : Int) - (x.2.2.2.1 : Int) ∧ x.2.2.2.1 ≤ x.1 ∧ RelC (offersC room (cQ Q) ((ol.take x.1).map cm)) x.2.2.2.2.2 ∧ Alls (GM w0) (old w0) x.2.2.2.2.2 ∧ (∀ m ∈ x.2.2.2.2.2, m.2.2.2.2.2.length ≤ 140737488351232)) (fun x => ol.length - x.1) (0, _, ref, 0, lv, L) ⟨Nat.zero_le _, rfl, by simp, Nat.le_refl _, hrel, hal, hbd⟩ (fun x hx ihk => ?_))) ⟨rfl, rfl, rfl, rfl, rfl, rfl, rfl, rfl, rfl, trivial⟩ (Grew.of (Eq.trans (frc (frl (frl (frl (frl (frl (frl (frl (frl rfl)))))))) (frc (frl (frl (frl (frl (frl (frl (frl (frl rfl)))))))) (frc rfl (frc rfl (frc rfl (frc (frl (frl (frl (frl rfl)))) (frc (frl rfl) (frc (frl rfl) rfl)))))))) (congrArg (· * _) (congrArg (· * _) (congrArg (· * _) (congrArg (· * _) (congrArg (· * _) (congrArg (· * _) (congrArg (· * _) (congrArg (· * _) (asg (asg as1))))))))))) (Grew.refl _))
          obtain ⟨q, J1, rf, c, lv1, L1⟩ := x
          simp only at hx ihk ⊢
          obtain ⟨hq, hc, hrf, hcq, hrel1, hal1, hbd1⟩ := hx
          have hrow1 := row_offers (room := room) ((ol.take q).map cm) hrow
          have hl1 : (offersC room (cQ Q) ((ol.take q).map cm)).length = k + 1 := by rw [offersC_len, hCl]
          have hsm1 := rel_small hrel1 hrow1 hroom4 (by omega)
          rcases Nat.lt_or_ge q ol.length with hql | hqg
          · have hs1 := offersC_snoc room (cQ Q) ((ol.take q).map cm) (cm (ol.getD q default))
            have hs2 := countC_snoc room (cQ Q) ((ol.take q).map cm) (cm (ol.getD q default))
            have et : (ol.take q).map cm ++ [cm (ol.getD q default)] = (ol.take (q + 1)).map cm := by rw [take_next hql, List.map_append]; rfl
            rw [et] at hs1 hs2
            rw [← hc] at hs2
            have hgm := hoal.at_ _ (getD_mem hql)
            have hgb := hobd _ (getD_mem hql)
            have hre := rel_offer (room := room) (m := ol.getD q default) hrel1
            rw [← hs1] at hre
            obtain ⟨o2, hoe2⟩ : ∃ o, ol.getD q default = o := ⟨_, rfl⟩
            rw [hoe2] at hs1 hs2 hgm hgb hre
            obtain ⟨mk, mf, mt, msv, mo, mb⟩ := o2
            have hwr := hrel1.row
            rcases Decidable.em (fits room (offersC room (cQ Q) ((ol.take q).map cm)) mt) with hf | hf
            · have hff := hf
              obtain ⟨hf0, hf1, hf2⟩ := hff
              have hw := hwr mt.toNat (by omega)
              rw [show ((mt.toNat : Nat) : Int) = mt by omega] at hw
              rw [hw, List.length_map] at hf2
              have hf1' : mt ≤ (k : Int) := by omega
              rw [if_pos hf] at hre
              have hs2' : countC room (cQ Q) ((ol.take (q + 1)).map cm) = c + 1 := by rw [hs2]; exact if_pos hf
              refine Run.seq ?_
              refine Run.seq ?_
              refine Run.region ?_
              refine RunL.ok (OpOk.move rfl) rfl ?_
              refine RunL.ok (OpOk.fieldAddr fld74_2 rfl) rfl ?_
              refine RunL.ok (OpOk.load rfl rfl rfl (Blk.out Blk.pts.left.left.left.left.left _ _ (by first | rfl | assumption))) rfl ?_
              refine RunL.ok (OpOk.lenR rfl rfl hord.left.left.left.left.left.left.left.left.left rfl) rfl ?_
              refine RunL.ok (OpOk.asT (OpOk.lss rfl rfl) (by omega)) rfl ?_
              refine RunL.nil ?_
              refine Run.condT rfl ?_
              refine Run.skip ?_
              refine Run.seq ?_
              refine Run.block ?_
              refine Run.seq ?_
              refine Run.region ?_
              refine RunL.ok (OpOk.move rfl) rfl ?_
              refine RunL.ok (OpOk.fieldAddr fld74_2 rfl) rfl ?_
              refine RunL.ok (OpOk.load rfl rfl rfl (Blk.out Blk.pts.left.left.left.left.left _ _ (by first | rfl | assumption))) rfl ?_
              refine RunL.ok (OpOk.move rfl) rfl ?_
              refine RunL.ok (OpOk.idxN rfl ti82 rfl hord.left.left.left.left.left.left.left.left.left rfl (by omega)) rfl ?_
              refine RunL.ok (OpOk.loadFlE (by assumption) rfl rfl ti82 rfl hord.left.left.left.left.left.left.left.left.left (fun _ => rfl) rfl (by omega)) rfl ?_
              refine RunL.call cal44 rfl (s44a (by omega) (by assumption) (by assumption) (by assumption)) rfl (fun vt1 At1 ht1 => ?_)
              obtain ⟨t2, ⟨t3, ⟨rfl, rfl⟩⟩⟩ := ht1
              refine RunL.nil ?_
              refine Run.condT rfl ?_
              refine Run.region ?_
              refine RunL.ok (OpOk.move rfl) rfl ?_
              refine RunL.ok (OpOk.sub rfl rfl (wrapI (by omega) (by omega))) rfl ?_
              refine RunL.ok (OpOk.assign rfl) rfl ?_
              refine RunL.nil ?_
              refine Run.inBlock ?_
              refine Run.region ?_
              refine RunL.ok (OpOk.move rfl) rfl ?_
              refine RunL.ok (OpOk.addN _ 1 rfl rfl rfl rfl (by omega)) rfl ?_
              refine RunL.ok (OpOk.assign rfl) rfl ?_
              refine RunL.nil ?_
              rw [show (N : Int) - (c : Int) - 1 = (N : Int) - ((c + 1 : Nat) : Int) by omega]
              refine Run.jump ((ihk (q + 1, _, rf, c + 1, _, L1 ++ [(mk, mf, mt, msv, mo, mb)]) ⟨by dsimp only; omega, hs2'.symm, by dsimp only; omega, by dsimp only; omega, hre, hal1.append (Alls.cons hgm Alls.nil), fun m hm => (List.mem_append.1 hm).elim (hbd1 m) (fun h => by rw [List.mem_singleton.1 h]; exact hgb)⟩ (by dsimp only; omega))) ⟨rfl, rfl, rfl, rfl, rfl, rfl, rfl, rfl, rfl, trivial⟩ (Grew.of (Eq.trans (frc rfl (frc rfl (frc (frl rfl) (frc (frl rfl) (frc (frl rfl) (frc (frl rfl) (frc (frl rfl) (frc (frl rfl) rfl)))))))) (congrArg (· * _) (congrArg (· * _) (congrArg (· * _) (congrArg (· * _) (congrArg (· * _) (congrArg (· * _) (congrArg (· * _) (congrArg (· * _) (asg as1)))))))))) (Grew.refl _))
            · have hfn : mt < 0 ∨ (k : Int) < mt ∨ room ≤ ((wt mt L1).length : Int) := by
                rcases Decidable.em (mt < 0 ∨ (k : Int) < mt) with h1 | h1
                · omega
                · have hw := hwr mt.toNat (by omega)
                  rw [show ((mt.toNat : Nat) : Int) = mt by omega] at hw
                  have : ¬ ((wt mt L1).length : Int) < room := fun h => hf ⟨by omega, by omega, by rw [hw, List.length_map]; exact h⟩
                  omega
              rw [if_neg hf] at hre
              have hs2' : countC room (cQ Q) ((ol.take (q + 1)).map cm) = c := by rw [hs2]; exact if_neg hf
              refine Run.seq ?_
              refine Run.seq ?_
              refine Run.region ?_
              refine RunL.ok (OpOk.move rfl) rfl ?_
              refine RunL.ok (OpOk.fieldAddr fld74_2 rfl) rfl ?_
              refine RunL.ok (OpOk.load rfl rfl rfl (Blk.out Blk.pts.left.left.left.left.left _ _ (by first | rfl | assumption))) rfl ?_
              refine RunL.ok (OpOk.lenR rfl rfl hord.left.left.left.left.left.left.left.left.left rfl) rfl ?_
              refine RunL.ok (OpOk.asT (OpOk.lss rfl rfl) (by omega)) rfl ?_
              refine RunL.nil ?_
              refine Run.condT rfl ?_
              refine Run.skip ?_
              refine Run.seq ?_
              refine Run.block ?_
              refine Run.seq ?_
              refine Run.region ?_
              refine RunL.ok (OpOk.move rfl) rfl ?_
              refine RunL.ok (OpOk.fieldAddr fld74_2 rfl) rfl ?_
              refine RunL.ok (OpOk.load rfl rfl rfl (Blk.out Blk.pts.left.left.left.left.left _ _ (by first | rfl | assumption))) rfl ?_
              refine RunL.ok (OpOk.move rfl) rfl ?_
              refine RunL.ok (OpOk.idxN rfl ti82 rfl hord.left.left.left.left.left.left.left.left.left rfl (by omega)) rfl ?_
              refine RunL.ok (OpOk.loadFlE (by assumption) rfl rfl ti82 rfl hord.left.left.left.left.left.left.left.left.left (fun _ => rfl) rfl (by omega)) rfl ?_
              refine RunL.call cal44 rfl (s44b (by omega) (by omega) (by omega) (by assumption)) rfl (fun vt2 At2 ht2 => ?_)
              obtain ⟨t3, ⟨rfl, rfl⟩⟩ := ht2
              refine RunL.nil ?_
              refine Run.condF rfl ?_
              refine Run.skip ?_
              refine Run.inBlock ?_
              refine Run.region ?_
              refine RunL.ok (OpOk.move rfl) rfl ?_
              refine RunL.ok (OpOk.addN _ 1 rfl rfl rfl rfl (by omega)) rfl ?_
              refine RunL.ok (OpOk.assign rfl) rfl ?_
              refine RunL.nil ?_
              refine Run.jump ((ihk (q + 1, _, rf + 1, c, _, L1) ⟨by dsimp only; omega, hs2'.symm, by dsimp only; omega, by dsimp only; omega, hre, hal1, hbd1⟩ (by dsimp only; omega))) ⟨rfl, rfl, rfl, rfl, rfl, rfl, rfl, rfl, rfl, trivial⟩ (Grew.of (Eq.trans (frc rfl (frc rfl (frc (frl rfl) (frc (frl rfl) (frc (frl rfl) (frc (frl rfl) (frc (frl rfl) (frc (frl rfl) rfl)))))))) (congrArg (· * _) (congrArg (· * _) (congrArg (· * _) (congrArg (· * _) (congrArg (· * _) (congrArg (· * _) (congrArg (· * _) (congrArg (· * _) (asg as1)))))))))) (Grew.refl _))
          · obtain rfl : q = ol.length := by omega
            clear ihk
            rw [List.take_length] at hc hrel1 hrow1
            obtain rfl : N = c := by rw [hN, hc, y5]
            rw [← y5, ← z5] at hrel1 hrow1
            rw [show ref + (y3.length : Int) - (N : Int) = rf by omega]
            refine Run.seq ?_
            refine Run.seq ?_
            refine Run.region ?_
            refine RunL.ok (OpOk.move rfl) rfl ?_
            refine RunL.ok (OpOk.fieldAddr fld74_2 rfl) rfl ?_
            refine RunL.ok (OpOk.load rfl rfl rfl (Blk.out Blk.pts.left.left.left.left.left _ _ (by first | rfl | assumption))) rfl ?_
            refine RunL.ok (OpOk.lenR rfl rfl hord.left.left.left.left.left.left.left.left.left rfl) rfl ?_
            refine RunL.ok (OpOk.asF (OpOk.lss rfl rfl) (by omega)) rfl ?_
            refine RunL.nil ?_
            refine Run.condF rfl ?_
            refine Run.exit rfl ?_
            refine Run.seq ?_
            refine Run.seq ?_
            refine Run.region ?_
            refine RunL.ok (OpOk.move rfl) rfl ?_
            refine RunL.ok (OpOk.as (c := false) (OpOk.neq rfl rfl) (by rw [decide_eq_true (by omega)]; rfl)) rfl ?_
            refine RunL.ok (OpOk.move rfl) rfl ?_
            refine RunL.on rfl rfl ?_
            refine RunL.ok (OpOk.move rfl) rfl ?_
            refine RunL.on rfl rfl ?_
            refine RunL.ok (OpOk.fieldAddr fld74_2 rfl) rfl ?_
            refine RunL.on rfl rfl ?_
            refine RunL.ok (OpOk.load rfl rfl rfl (Blk.out Blk.pts.left.left.left.left.left _ _ (by first | rfl | assumption))) rfl ?_
            refine RunL.on rfl rfl ?_
            refine RunL.call cal45 rfl (s45 (Rd.right rdy7).left.left.left.left.left.left.left (Alls.right aly6).left.left.left.left.left.left hord.left.left.left.left.left.left.left.left.left hoal.left.left.left.left.left.left.left.left.left) rfl (fun vt1 At1 ht1 => ?_)
            obtain ⟨t2, ⟨rfl, rfl⟩⟩ := ht1
            refine RunL.on rfl rfl ?_
            refine RunL.ok (OpOk.not rfl) rfl ?_
            refine RunL.ok (OpOk.pickF rfl rfl) rfl ?_
            refine RunL.nil ?_
            refine Run.condNF rfl (by first | omega | with_reducible rfl | assumption) ?_
            refine Run.skip ?_
            refine Run.seq ?_
            refine Run.region ?_
            refine RunL.ok (OpOk.assign rfl) rfl ?_
            refine RunL.nil ?_
            refine Run.block ?_
            rw [show ownsM y3 = ownsM (y3.drop 0) from rfl]
            refine Run.jump ((Run.loopJ (X := Nat × Asn) (fun x => [(15, .int .i64 (x.1 : Int)), (12, vy2), (10, .int .i64 (i : Int)), (9, .pointer (some ⟨bx7, 0, none⟩)), (7, .pointer (some ⟨x5, 0, none⟩)), (0, .int .i64 (k : Int)), (2, u)]) (fun x => old w0 * x.2 * own 82 5 vy2 y3.length (Fl encT82 y3) * ownsM (y3.drop x.1) * pts x5 (.cells #[x6, .int .i64 room, .int .i64 rf] 119 (0, 0)) * own 123 1 x6 (k + 1) (Fl encT123 (z2)) * ownsQ (z2) * pts bx7 (.cells #[.int .i64 ((k : Int)), .int .i64 (room), .int .i64 (rf), lv1] 72 (0, 0)) * own 82 5 lv1 (L1).length (Fl encT82 (L1))) (fun x => x.1 ≤ y3.length) (fun x => y3.length - x.1) (0, _) (Nat.zero_le _) (fun x hx ih2 => ?_))) ⟨rfl, rfl, rfl, rfl, rfl, rfl, rfl, trivial⟩ (Grew.of (Eq.trans (frc (frl rfl) (frc (frl rfl) (frc (frl rfl) (frc (frl rfl) (frc (frl rfl) (frc (frl (frl rfl)) (frc (frl (frl rfl)) rfl))))))) (congrArg (· * _) (congrArg (· * _) (congrArg (· * _) (congrArg (· * _) (congrArg (· * _) (congrArg (· * _) (congrArg (· * _) (asg (asg as1)))))))))) (Grew.refl _))
            obtain ⟨q, J2⟩ := x
            simp only at hx ih2 ⊢
            rcases Nat.lt_or_ge q y3.length with hq | hq
            · rw [ownsM_drop hq]
              have hmb := hybd _ (getD_mem hq)
              obtain ⟨o, hoe⟩ : ∃ o, y3.getD q default = o := ⟨_, rfl⟩
              rw [hoe] at hmb ⊢
              obtain ⟨mk, mf, mt, msv, mo, mb⟩ := o
              dsimp only at hmb
              rw [bodyM]
              dsimp only
              simp only [← sep_assoc]
              refine Run.seq ?_
              refine Run.seq ?_
              refine Run.region ?_
              refine RunL.ok (OpOk.move rfl) rfl ?_
              refine RunL.ok (OpOk.move rfl) rfl ?_
              refine RunL.ok (OpOk.lenR rfl rfl (Rd.right rdy7).left.left.left.left.left.left.left rfl) rfl ?_
              refine RunL.ok (OpOk.asT (OpOk.lss rfl rfl) (by omega)) rfl ?_
              refine RunL.nil ?_
              refine Run.condT rfl ?_
              refine Run.skip ?_
              refine Run.seq ?_
              refine Run.block ?_
              refine Run.seq ?_
              refine Run.region ?_
              refine RunL.ok (OpOk.assign rfl) rfl ?_
              refine RunL.nil ?_
              refine Run.block ?_
              refine Run.jump ((Run.loopJ (X := Nat × List UInt8) (fun x => [(16, .int .i64 (x.1 : Int)), (15, .int .i64 (q : Int)), (12, vy2), (10, .int .i64 (i : Int)), (9, .pointer (some ⟨bx7, 0, none⟩)), (7, .pointer (some ⟨x5, 0, none⟩)), (0, .int .i64 (k : Int)), (2, u)]) (fun x => old w0 * J2 * own 82 5 vy2 y3.length (Fl encT82 y3) * ownsM (y3.drop (q + 1)) * own 5 1 msv.1 mb.length (B x.2) * pts x5 (.cells #[x6, .int .i64 room, .int .i64 rf] 119 (0, 0)) * own 123 1 x6 (k + 1) (Fl encT123 (z2)) * ownsQ (z2) * pts bx7 (.cells #[.int .i64 ((k : Int)), .int .i64 (room), .int .i64 (rf), lv1] 72 (0, 0)) * own 82 5 lv1 (L1).length (Fl encT82 (L1))) (fun x => x.1 ≤ mb.length ∧ x.2.length = mb.length) (fun x => mb.length - x.1) (0, mb) ⟨Nat.zero_le _, rfl⟩ (fun x hx ih3 => ?_))) ⟨rfl, rfl, rfl, rfl, rfl, rfl, rfl, rfl, trivial⟩ ((Grew.refl _))
              obtain ⟨z, bs⟩ := x
              simp only at hx ih3 ⊢
              obtain ⟨hz, hbl⟩ := hx
              rcases Nat.lt_or_ge z mb.length with hzt | hzg
              · refine Run.seq ?_
                refine Run.seq ?_
                refine Run.region ?_
                refine RunL.ok (OpOk.move rfl) rfl ?_
                refine RunL.ok (OpOk.move rfl) rfl ?_
                refine RunL.ok (OpOk.move rfl) rfl ?_
                refine RunL.ok (OpOk.idxN rfl ti82 rfl (Rd.right rdy7).left.left.left.left.left.left.left rfl (by omega)) rfl ?_
                refine RunL.ok (OpOk.fieldAddrA fld82_3 rfl) rfl ?_
                refine RunL.ok (OpOk.loadFl1E hoe rfl rfl rfl (Rd.right rdy7).left.left.left.left.left.left.left (fun _ => rfl) rfl (by omega) rfl) rfl ?_
                refine RunL.know (fun w s => (s.conv (frl (frl (frl (frl (frl rfl)))))).ownRd0) (fun rdq1 => ?_)
                refine RunL.ok (OpOk.lenR rfl rfl (Rd.right rdq1).left.left.left.left.left rfl) rfl ?_
                refine RunL.ok (OpOk.asT (OpOk.lss rfl rfl) (by omega)) rfl ?_
                refine RunL.nil ?_
                refine Run.condT rfl ?_
                refine Run.skip ?_
                refine Run.seq ?_
                refine Run.block ?_
                refine Run.know (fun w s => (s.conv (frl (frl (frl rfl)))).ownRd0) (fun rdq2 => ?_)
                refine Run.know (fun w s => (s.conv rfl).ownRd0) (fun rdq3 => ?_)
                (apply Run.drawD [16] (by rfl) (sep_emp _).symm; case hchk => kernel_rfl)
                refine Sd.quiet 0 _ _ rfl rfl rfl rfl rfl (QOp.ok (fun X => OpOk.move rfl)) ?_
                refine Sd.quiet 1 _ _ rfl rfl rfl rfl rfl (QOp.ok (fun X => OpOk.move rfl)) ?_
                refine Sd.quiet 2 _ _ rfl rfl rfl rfl rfl (QOp.ok (fun X => OpOk.idxN rfl ti82 rfl (Rd.right rdy7).left.left.left.left.left.left.left.left.left rfl (by omega))) ?_
                refine Sd.quiet 3 _ _ rfl rfl rfl rfl rfl (QOp.ok (fun X => OpOk.fieldAddrA fld82_3 rfl)) ?_
                refine Sd.quiet 4 _ _ rfl rfl rfl rfl rfl (QOp.ok (fun X => OpOk.loadFl1E hoe rfl rfl rfl (Rd.right rdy7).left.left.left.left.left.left.left.left.left (fun _ => rfl) rfl (by omega) rfl)) ?_
                refine Sd.quiet 5 _ _ rfl rfl rfl rfl rfl (QOp.ok (fun X => OpOk.move rfl)) ?_
                refine Sd.quiet 6 _ _ rfl rfl rfl rfl rfl (QOp.ok (fun X => OpOk.move rfl)) ?_
                refine Sd.quiet 7 _ _ rfl rfl rfl rfl rfl (QOp.ok (fun X => OpOk.move rfl)) ?_
                refine Sd.quiet 8 _ _ rfl rfl rfl rfl rfl (QOp.ok (fun X => OpOk.idxN rfl ti82 rfl (Rd.right rdy7).left.left.left.left.left.left.left.left.left rfl (by omega))) ?_
                refine Sd.quiet 9 _ _ rfl rfl rfl rfl rfl (QOp.ok (fun X => OpOk.fieldAddrA fld82_3 rfl)) ?_
                refine Sd.quiet 10 _ _ rfl rfl rfl rfl rfl (QOp.ok (fun X => OpOk.loadFl1E hoe rfl rfl rfl (Rd.right rdy7).left.left.left.left.left.left.left.left.left (fun _ => rfl) rfl (by omega) rfl)) ?_
                refine Sd.quiet 11 _ _ rfl rfl rfl rfl rfl (QOp.ok (fun X => OpOk.move rfl)) ?_
                refine Sd.quiet 12 _ _ rfl rfl rfl rfl rfl (QOp.ok (fun X => OpOk.idx1N rfl ti5 rfl (Rd.right rdq1).left.left.left.left.left.left.left rfl (by omega))) ?_
                refine Sd.quiet 13 _ _ rfl rfl rfl rfl rfl (QOp.ok (fun X => OpOk.load rfl rfl rfl (Rd.getB (Rd.right rdq1).left.left.left.left.left.left.left (by omega)))) ?_
                refine Sd.quiet 14 _ _ rfl rfl rfl rfl rfl (QOp.ok (fun X => OpOk.xor rfl rfl (x255 _))) ?_
                refine Sd.quiet 15 _ _ rfl rfl rfl rfl rfl (QOp.ok (fun X => OpOk.idx1N rfl ti5 rfl (Rd.right rdq1).left.left.left.left.left.left.left rfl (by omega))) ?_
                (apply Sd.tail; case hall => kernel_rfl)
                refine RunL.mem (fl2 (sep_emp _) (sep_emp _)) ?_
                refine RunL.storeB _ ti5 rfl rfl rfl (frl (frl (frl (frl (frl rfl))))) (by omega) ?_
                refine RunL.nil ?_
                refine Run.inBlock ?_
                refine Run.region ?_
                refine RunL.ok (OpOk.move rfl) rfl ?_
                refine RunL.ok (OpOk.addN _ 1 rfl rfl rfl rfl (by omega)) rfl ?_
                refine RunL.ok (OpOk.assign rfl) rfl ?_
                refine RunL.nil ?_
                refine Run.jump ((ih3 (z + 1, _) ⟨by dsimp only; omega, by simp [hbl]⟩ (by dsimp only; omega))) ⟨rfl, rfl, rfl, rfl, rfl, rfl, rfl, rfl, trivial⟩ (Grew.of (frc (frl rfl) (frc (frl rfl) (frc (frl rfl) (frc (frl rfl) (frc (frl rfl) rfl))))) (Grew.refl _))
              · clear ih3
                refine Run.seq ?_
                refine Run.seq ?_
                refine Run.region ?_
                refine RunL.ok (OpOk.move rfl) rfl ?_
                refine RunL.ok (OpOk.move rfl) rfl ?_
                refine RunL.ok (OpOk.move rfl) rfl ?_
                refine RunL.ok (OpOk.idxN rfl ti82 rfl (Rd.right rdy7).left.left.left.left.left.left.left rfl (by omega)) rfl ?_
                refine RunL.ok (OpOk.fieldAddrA fld82_3 rfl) rfl ?_
                refine RunL.ok (OpOk.loadFl1E hoe rfl rfl rfl (Rd.right rdy7).left.left.left.left.left.left.left (fun _ => rfl) rfl (by omega) rfl) rfl ?_
                refine RunL.know (fun w s => (s.conv (frl (frl (frl (frl (frl rfl)))))).ownRd0) (fun rdq1 => ?_)
                refine RunL.ok (OpOk.lenR rfl rfl (Rd.right rdq1).left.left.left.left.left rfl) rfl ?_
                refine RunL.ok (OpOk.asF (OpOk.lss rfl rfl) (by omega)) rfl ?_
                refine RunL.nil ?_
                refine Run.condF rfl ?_
                refine Run.exit rfl ?_
                refine Run.inBlock ?_
                refine Run.region ?_
                refine RunL.ok (OpOk.move rfl) rfl ?_
                refine RunL.ok (OpOk.addN _ 1 rfl rfl rfl rfl (by omega)) rfl ?_
                refine RunL.ok (OpOk.assign rfl) rfl ?_
                refine RunL.nil ?_
                refine Run.jump ((ih2 (q + 1, _) (by dsimp only; omega) (by dsimp only; omega))) ⟨rfl, rfl, rfl, rfl, rfl, rfl, rfl, trivial⟩ (Grew.of (Eq.trans (frc rfl (frc rfl (frc rfl (frc rfl (frc rfl (frc (frl rfl) (frc (frl rfl) rfl))))))) (congrArg (· * _) (congrArg (· * _) (congrArg (· * _) (congrArg (· * _) (congrArg (· * _) (congrArg (· * _) (congrArg (· * _) (asg as1))))))))) (Grew.refl _))
            · clear ih2
              refine Run.seq ?_
              refine Run.seq ?_
              refine Run.region ?_
              refine RunL.ok (OpOk.move rfl) rfl ?_
              refine RunL.ok (OpOk.move rfl) rfl ?_
              refine RunL.ok (OpOk.lenR rfl rfl (Rd.right rdy7).left.left.left.left.left.left rfl) rfl ?_
              refine RunL.ok (OpOk.asF (OpOk.lss rfl rfl) (by omega)) rfl ?_
              refine RunL.nil ?_
              refine Run.condF rfl ?_
              refine Run.exit rfl ?_
              refine Run.seq ?_
              refine Run.seq ?_
              refine Run.region ?_
              refine RunL.ok (OpOk.assign rfl) rfl ?_
              refine RunL.nil ?_
              refine Run.block ?_
              have hsm := rel_small hrel1 hrow1 hroom4 (by rw [cQ_len]; omega)
              have hlenq := (cQ_lenQ z2).symm.trans (lenC_rel hrel1)
              refine Run.jump ((Run.loopJ (X := Int × Asn) (fun x => [(21, .int .i64 x.1), (10, .int .i64 (i : Int)), (9, .pointer (some ⟨bx7, 0, none⟩)), (7, .pointer (some ⟨x5, 0, none⟩)), (0, .int .i64 (k : Int)), (2, u)]) (fun x => old w0 * x.2 * pts x5 (.cells #[x6, .int .i64 room, .int .i64 rf] 119 (0, 0)) * own 123 1 x6 (k + 1) (Fl encT123 (z2)) * ownsQ (z2) * pts bx7 (.cells #[.int .i64 ((k : Int)), .int .i64 (room), .int .i64 (rf), lv1] 72 (0, 0)) * own 82 5 lv1 (L1).length (Fl encT82 (L1))) (fun x => -1 ≤ x.1 ∧ x.1 ≤ (k : Int) + 2) (fun x => ((k : Int) + 2 - x.1).toNat) (-1, _) ⟨by dsimp only; omega, by dsimp only; omega⟩ (fun x hx iht => ?_))) ⟨rfl, rfl, rfl, rfl, rfl, rfl, trivial⟩ (Grew.of (congrArg (· * _) (congrArg (· * _) (congrArg (· * _) (congrArg (· * _) (congrArg (· * _) (asg (asg as1))))))) (Grew.refl _))
              obtain ⟨to, JT⟩ := x
              simp only at hx iht ⊢
              obtain ⟨ht1, ht2⟩ := hx
              rcases Decidable.em (to ≤ (k : Int) + 1) with hto | hto
              · have hW := wait_rel hrel1 to
                have hWb := bd_cm (wt_bd (to := to) hbd1)
                have hWa := wt_al (to := to) hal1
                refine Run.seq ?_
                refine Run.seq ?_
                refine Run.region ?_
                refine RunL.ok (OpOk.move rfl) rfl ?_
                refine RunL.ok (OpOk.move rfl) rfl ?_
                refine RunL.ok (OpOk.addN _ 1 rfl rfl rfl rfl (by omega)) rfl ?_
                refine RunL.ok (OpOk.asT (OpOk.leq rfl rfl) (by omega)) rfl ?_
                refine RunL.nil ?_
                refine Run.condT rfl ?_
                refine Run.skip ?_
                refine Run.seq ?_
                refine Run.block ?_
                refine Run.seq ?_
                refine Run.region ?_
                refine RunL.ok (OpOk.move rfl) rfl ?_
                refine RunL.ok (OpOk.move rfl) rfl ?_
                refine RunL.mem (frc (frl (frl rfl)) (frc (frl (frl rfl)) (frc (frl (frl rfl)) rfl))) ?_
                refine RunL.call cal49 rfl (s49 (by assumption) (by assumption) (by assumption) (by assumption) (by assumption)) rfl (fun vw1 Aw1 hw1 => ?_)
                obtain ⟨w2, ⟨w3, ⟨w4, rfl⟩⟩⟩ := hw1
                refine RunL.ok (OpOk.assign rfl) rfl ?_
                refine RunL.nil ?_
                refine Run.seq ?_
                refine Run.seq ?_
                refine Run.region ?_
                refine RunL.ok (OpOk.move rfl) rfl ?_
                refine RunL.ok (OpOk.move rfl) rfl ?_
                refine RunL.ok (OpOk.move rfl) rfl ?_
                refine RunL.know (fun w s => (s.conv rfl).ownsM0) (fun alw5 => ?_)
                refine RunL.mem (frc (frl (frl (frl (frl (frl (frl rfl)))))) (frc (frl (frl (frl (frl (frl (frl rfl)))))) rfl)) ?_
                refine RunL.call cal50 rfl (s50 (by omega)) rfl (fun vw6 Aw6 hw6 => ?_)
                obtain ⟨w7, rfl⟩ := hw6
                refine RunL.know (fun w s => (s.conv (frl (frl (frl (frl (frl rfl)))))).ownRd0) (fun rdw8 => ?_)
                refine RunL.know (fun w s => (s.conv rfl).ownRd0) (fun rdw9 => ?_)
                refine RunL.call cal45 rfl (s45 (Rd.right rdw8).left.left.left.left.left (Alls.right alw5).left.left.left.left (Rd.right rdw9) hWa.left.left.left.left.left.left.left.left.left.left.left) rfl (fun vw10 Aw10 hw10 => ?_)
                obtain ⟨w11, ⟨rfl, rfl⟩⟩ := hw10
                refine RunL.ok (OpOk.not rfl) rfl ?_
                refine RunL.nil ?_
                refine Run.condNF rfl (by first | omega | with_reducible rfl | assumption) ?_
                refine Run.skip ?_
                refine Run.seq ?_
                refine Run.region ?_
                refine RunL.ok (OpOk.assign rfl) rfl ?_
                refine RunL.nil ?_
                refine Run.block ?_
                have hw2l : w2.length ≤ 80 := by
                  have h1 := congrArg List.length w4
                  have h2 := wt_le to L1
                  simp only [List.length_map] at h1
                  omega
                rw [show ownsM w2 = ownsM (w2.drop 0) from rfl]
                refine Run.jump ((Run.loopJ (X := Nat × Asn) (fun x => [(23, .int .i64 (x.1 : Int)), (22, vw1), (21, .int .i64 to), (10, .int .i64 (i : Int)), (9, .pointer (some ⟨bx7, 0, none⟩)), (7, .pointer (some ⟨x5, 0, none⟩)), (0, .int .i64 (k : Int)), (2, u)]) (fun x => old w0 * x.2 * own 82 5 vw1 w2.length (Fl encT82 w2) * ownsM (w2.drop x.1) * pts x5 (.cells #[x6, .int .i64 room, .int .i64 rf] 119 (0, 0)) * own 123 1 x6 (k + 1) (Fl encT123 (z2)) * ownsQ (z2) * pts bx7 (.cells #[.int .i64 ((k : Int)), .int .i64 (room), .int .i64 (rf), lv1] 72 (0, 0)) * own 82 5 lv1 (L1).length (Fl encT82 (L1))) (fun x => x.1 ≤ w2.length) (fun x => w2.length - x.1) (0, _) (Nat.zero_le _) (fun x hx ih2 => ?_))) ⟨rfl, rfl, rfl, rfl, rfl, rfl, rfl, rfl, trivial⟩ (Grew.of (Eq.trans (frc (frl (frl rfl)) (frc (frl (frl rfl)) (frc (frl (frl (frl (frl (frl rfl))))) (frc (frl (frl (frl (frl (frl rfl))))) (frc (frl (frl (frl (frl (frl rfl))))) (frc (frl (frl (frl rfl))) (frc (frl (frl (frl rfl))) rfl))))))) (congrArg (· * _) (congrArg (· * _) (congrArg (· * _) (congrArg (· * _) (congrArg (· * _) (congrArg (· * _) (congrArg (· * _) (asg (asg (asg (asg as1)))))))))))) (Grew.refl _))
                obtain ⟨q, J2⟩ := x
                simp only at hx ih2 ⊢
                rcases Nat.lt_or_ge q w2.length with hq | hq
                · rw [ownsM_drop hq]
                  have hmb := (cm_bd w4 (wt_bd hbd1)) _ (getD_mem hq)
                  obtain ⟨o, hoe⟩ : ∃ o, w2.getD q default = o := ⟨_, rfl⟩
                  rw [hoe] at hmb ⊢
                  obtain ⟨mk, mf, mt, msv, mo, mb⟩ := o
                  dsimp only at hmb
                  rw [bodyM]
                  dsimp only
                  simp only [← sep_assoc]
                  refine Run.seq ?_
                  refine Run.seq ?_
                  refine Run.region ?_
                  refine RunL.ok (OpOk.move rfl) rfl ?_
                  refine RunL.ok (OpOk.move rfl) rfl ?_
                  refine RunL.ok (OpOk.lenR rfl rfl (Rd.right rdw8).left.left.left.left.left.left.left rfl) rfl ?_
                  refine RunL.ok (OpOk.asT (OpOk.lss rfl rfl) (by omega)) rfl ?_
                  refine RunL.nil ?_
                  refine Run.condT rfl ?_
                  refine Run.skip ?_
                  refine Run.seq ?_
                  refine Run.block ?_
                  refine Run.seq ?_
                  refine Run.region ?_
                  refine RunL.ok (OpOk.assign rfl) rfl ?_
                  refine RunL.nil ?_
                  refine Run.block ?_
                  refine Run.jump ((Run.loopJ (X := Nat × List UInt8) (fun x => [(24, .int .i64 (x.1 : Int)), (23, .int .i64 (q : Int)), (22, vw1), (21, .int .i64 to), (10, .int .i64 (i : Int)), (9, .pointer (some ⟨bx7, 0, none⟩)), (7, .pointer (some ⟨x5, 0, none⟩)), (0, .int .i64 (k : Int)), (2, u)]) (fun x => old w0 * J2 * own 82 5 vw1 w2.length (Fl encT82 w2) * ownsM (w2.drop (q + 1)) * own 5 1 msv.1 mb.length (B x.2) * pts x5 (.cells #[x6, .int .i64 room, .int .i64 rf] 119 (0, 0)) * own 123 1 x6 (k + 1) (Fl encT123 (z2)) * ownsQ (z2) * pts bx7 (.cells #[.int .i64 ((k : Int)), .int .i64 (room), .int .i64 (rf), lv1] 72 (0, 0)) * own 82 5 lv1 (L1).length (Fl encT82 (L1))) (fun x => x.1 ≤ mb.length ∧ x.2.length = mb.length) (fun x => mb.length - x.1) (0, mb) ⟨Nat.zero_le _, rfl⟩ (fun x hx ih3 => ?_))) ⟨rfl, rfl, rfl, rfl, rfl, rfl, rfl, rfl, rfl, trivial⟩ ((Grew.refl _))
                  obtain ⟨z, bs⟩ := x
                  simp only at hx ih3 ⊢
                  obtain ⟨hz, hbl⟩ := hx
                  rcases Nat.lt_or_ge z mb.length with hzt | hzg
                  · refine Run.seq ?_
                    refine Run.seq ?_
                    refine Run.region ?_
                    refine RunL.ok (OpOk.move rfl) rfl ?_
                    refine RunL.ok (OpOk.move rfl) rfl ?_
                    refine RunL.ok (OpOk.move rfl) rfl ?_
                    refine RunL.ok (OpOk.idxN rfl ti82 rfl (Rd.right rdw8).left.left.left.left.left.left.left rfl (by omega)) rfl ?_
                    refine RunL.ok (OpOk.fieldAddrA fld82_3 rfl) rfl ?_
                    refine RunL.ok (OpOk.loadFl1E hoe rfl rfl rfl (Rd.right rdw8).left.left.left.left.left.left.left (fun _ => rfl) rfl (by omega) rfl) rfl ?_
                    refine RunL.know (fun w s => (s.conv (frl (frl (frl (frl (frl rfl)))))).ownRd0) (fun rdq1 => ?_)
                    refine RunL.ok (OpOk.lenR rfl rfl (Rd.right rdq1).left.left.left.left.left rfl) rfl ?_
                    refine RunL.ok (OpOk.asT (OpOk.lss rfl rfl) (by omega)) rfl ?_
                    refine RunL.nil ?_
                    refine Run.condT rfl ?_
                    refine Run.skip ?_
                    refine Run.seq ?_
                    refine Run.block ?_
                    refine Run.know (fun w s => (s.conv (frl (frl (frl rfl)))).ownRd0) (fun rdq2 => ?_)
                    refine Run.know (fun w s => (s.conv rfl).ownRd0) (fun rdq3 => ?_)
                    (apply Run.drawD [16] (by rfl) (sep_emp _).symm; case hchk => kernel_rfl)
                    refine Sd.quiet 0 _ _ rfl rfl rfl rfl rfl (QOp.ok (fun X => OpOk.move rfl)) ?_
                    refine Sd.quiet 1 _ _ rfl rfl rfl rfl rfl (QOp.ok (fun X => OpOk.move rfl)) ?_
                    refine Sd.quiet 2 _ _ rfl rfl rfl rfl rfl (QOp.ok (fun X => OpOk.idxN rfl ti82 rfl (Rd.right rdw8).left.left.left.left.left.left.left.left.left rfl (by omega))) ?_
                    refine Sd.quiet 3 _ _ rfl rfl rfl rfl rfl (QOp.ok (fun X => OpOk.fieldAddrA fld82_3 rfl)) ?_
                    refine Sd.quiet 4 _ _ rfl rfl rfl rfl rfl (QOp.ok (fun X => OpOk.loadFl1E hoe rfl rfl rfl (Rd.right rdw8).left.left.left.left.left.left.left.left.left (fun _ => rfl) rfl (by omega) rfl)) ?_
                    refine Sd.quiet 5 _ _ rfl rfl rfl rfl rfl (QOp.ok (fun X => OpOk.move rfl)) ?_
                    refine Sd.quiet 6 _ _ rfl rfl rfl rfl rfl (QOp.ok (fun X => OpOk.move rfl)) ?_
                    refine Sd.quiet 7 _ _ rfl rfl rfl rfl rfl (QOp.ok (fun X => OpOk.move rfl)) ?_
                    refine Sd.quiet 8 _ _ rfl rfl rfl rfl rfl (QOp.ok (fun X => OpOk.idxN rfl ti82 rfl (Rd.right rdw8).left.left.left.left.left.left.left.left.left rfl (by omega))) ?_
                    refine Sd.quiet 9 _ _ rfl rfl rfl rfl rfl (QOp.ok (fun X => OpOk.fieldAddrA fld82_3 rfl)) ?_
                    refine Sd.quiet 10 _ _ rfl rfl rfl rfl rfl (QOp.ok (fun X => OpOk.loadFl1E hoe rfl rfl rfl (Rd.right rdw8).left.left.left.left.left.left.left.left.left (fun _ => rfl) rfl (by omega) rfl)) ?_
                    refine Sd.quiet 11 _ _ rfl rfl rfl rfl rfl (QOp.ok (fun X => OpOk.move rfl)) ?_
                    refine Sd.quiet 12 _ _ rfl rfl rfl rfl rfl (QOp.ok (fun X => OpOk.idx1N rfl ti5 rfl (Rd.right rdq1).left.left.left.left.left.left.left rfl (by omega))) ?_
                    refine Sd.quiet 13 _ _ rfl rfl rfl rfl rfl (QOp.ok (fun X => OpOk.load rfl rfl rfl (Rd.getB (Rd.right rdq1).left.left.left.left.left.left.left (by omega)))) ?_
                    refine Sd.quiet 14 _ _ rfl rfl rfl rfl rfl (QOp.ok (fun X => OpOk.xor rfl rfl (x255 _))) ?_
                    refine Sd.quiet 15 _ _ rfl rfl rfl rfl rfl (QOp.ok (fun X => OpOk.idx1N rfl ti5 rfl (Rd.right rdq1).left.left.left.left.left.left.left rfl (by omega))) ?_
                    (apply Sd.tail; case hall => kernel_rfl)
                    refine RunL.mem (fl2 (sep_emp _) (sep_emp _)) ?_
                    refine RunL.storeB _ ti5 rfl rfl rfl (frl (frl (frl (frl (frl rfl))))) (by omega) ?_
                    refine RunL.nil ?_
                    refine Run.inBlock ?_
                    refine Run.region ?_
                    refine RunL.ok (OpOk.move rfl) rfl ?_
                    refine RunL.ok (OpOk.addN _ 1 rfl rfl rfl rfl (by omega)) rfl ?_
                    refine RunL.ok (OpOk.assign rfl) rfl ?_
                    refine RunL.nil ?_
                    refine Run.jump ((ih3 (z + 1, _) ⟨by dsimp only; omega, by simp [hbl]⟩ (by dsimp only; omega))) ⟨rfl, rfl, rfl, rfl, rfl, rfl, rfl, rfl, rfl, trivial⟩ (Grew.of (frc (frl rfl) (frc (frl rfl) (frc (frl rfl) (frc (frl rfl) (frc (frl rfl) rfl))))) (Grew.refl _))
                  · clear ih3
                    refine Run.seq ?_
                    refine Run.seq ?_
                    refine Run.region ?_
                    refine RunL.ok (OpOk.move rfl) rfl ?_
                    refine RunL.ok (OpOk.move rfl) rfl ?_
                    refine RunL.ok (OpOk.move rfl) rfl ?_
                    refine RunL.ok (OpOk.idxN rfl ti82 rfl (Rd.right rdw8).left.left.left.left.left.left.left rfl (by omega)) rfl ?_
                    refine RunL.ok (OpOk.fieldAddrA fld82_3 rfl) rfl ?_
                    refine RunL.ok (OpOk.loadFl1E hoe rfl rfl rfl (Rd.right rdw8).left.left.left.left.left.left.left (fun _ => rfl) rfl (by omega) rfl) rfl ?_
                    refine RunL.know (fun w s => (s.conv (frl (frl (frl (frl (frl rfl)))))).ownRd0) (fun rdq1 => ?_)
                    refine RunL.ok (OpOk.lenR rfl rfl (Rd.right rdq1).left.left.left.left.left rfl) rfl ?_
                    refine RunL.ok (OpOk.asF (OpOk.lss rfl rfl) (by omega)) rfl ?_
                    refine RunL.nil ?_
                    refine Run.condF rfl ?_
                    refine Run.exit rfl ?_
                    refine Run.inBlock ?_
                    refine Run.region ?_
                    refine RunL.ok (OpOk.move rfl) rfl ?_
                    refine RunL.ok (OpOk.addN _ 1 rfl rfl rfl rfl (by omega)) rfl ?_
                    refine RunL.ok (OpOk.assign rfl) rfl ?_
                    refine RunL.nil ?_
                    refine Run.jump ((ih2 (q + 1, _) (by dsimp only; omega) (by dsimp only; omega))) ⟨rfl, rfl, rfl, rfl, rfl, rfl, rfl, rfl, trivial⟩ (Grew.of (Eq.trans (frc rfl (frc rfl (frc rfl (frc rfl (frc rfl (frc (frl rfl) (frc (frl rfl) rfl))))))) (congrArg (· * _) (congrArg (· * _) (congrArg (· * _) (congrArg (· * _) (congrArg (· * _) (congrArg (· * _) (congrArg (· * _) (asg as1))))))))) (Grew.refl _))
                · clear ih2
                  refine Run.seq ?_
                  refine Run.seq ?_
                  refine Run.region ?_
                  refine RunL.ok (OpOk.move rfl) rfl ?_
                  refine RunL.ok (OpOk.move rfl) rfl ?_
                  refine RunL.ok (OpOk.lenR rfl rfl (Rd.right rdw8).left.left.left.left.left.left rfl) rfl ?_
                  refine RunL.ok (OpOk.asF (OpOk.lss rfl rfl) (by omega)) rfl ?_
                  refine RunL.nil ?_
                  refine Run.condF rfl ?_
                  refine Run.exit rfl ?_
                  refine Run.inBlock ?_
                  refine Run.region ?_
                  refine RunL.ok (OpOk.move rfl) rfl ?_
                  refine RunL.ok (OpOk.add rfl rfl (wrapI (by omega) (by omega))) rfl ?_
                  refine RunL.ok (OpOk.assign rfl) rfl ?_
                  refine RunL.nil ?_
                  refine Run.jump ((iht (to + 1, _) ⟨by dsimp only; omega, by dsimp only; omega⟩ (by dsimp only; omega))) ⟨rfl, rfl, rfl, rfl, rfl, rfl, trivial⟩ (Grew.of (congrArg (· * _) (congrArg (· * _) (congrArg (· * _) (congrArg (· * _) (congrArg (· * _) (asg (asg as1))))))) (Grew.refl _))
              · clear iht
                refine Run.seq ?_
                refine Run.seq ?_
                refine Run.region ?_
                refine RunL.ok (OpOk.move rfl) rfl ?_
                refine RunL.ok (OpOk.move rfl) rfl ?_
                refine RunL.ok (OpOk.addN _ 1 rfl rfl rfl rfl (by omega)) rfl ?_
                refine RunL.ok (OpOk.asF (OpOk.leq rfl rfl) (by omega)) rfl ?_
                refine RunL.nil ?_
                refine Run.condF rfl ?_
                refine Run.exit rfl ?_
                refine Run.seq ?_
                refine Run.know (fun w s => (s.conv (frl (frl (frl rfl)))).ownRd0) (fun rdw1 => ?_)
                refine Run.know (fun w s => (s.conv rfl).ownRd0) (fun rdw2 => ?_)
                (apply Run.drawD [] (by rfl) (Eq.trans (frc (frl (frl rfl)) (frc (frl (frl rfl)) (frc (frl (frl rfl)) rfl))) (asg (asg rfl))); case hchk => kernel_rfl)
                refine Sd.quiet 0 _ _ rfl rfl rfl rfl rfl (QOp.ok (fun X => OpOk.move rfl)) ?_
                refine Sd.quiet 2 _ _ rfl rfl rfl rfl rfl (QOp.ok (fun X => OpOk.move rfl)) ?_
                refine Sd.quiet 3 _ _ rfl rfl rfl rfl rfl (QOp.ok (fun X => OpOk.nilOk rfl)) ?_
                refine Sd.quiet 4 _ _ rfl rfl rfl rfl rfl (QOp.ok (fun X => OpOk.fieldAddr fld72_3 rfl)) ?_
                refine Sd.quiet 5 _ _ rfl rfl rfl rfl rfl (QOp.ok (fun X => OpOk.load rfl rfl rfl (Blk.out Blk.pts.left.left.left _ _ (by first | rfl | assumption)))) ?_
                refine Sd.quiet 6 _ _ rfl rfl rfl rfl rfl (QOp.ok (fun X => OpOk.lenR rfl rfl (Rd.right rdw2).left.left rfl)) ?_
                (refine Sd.exec 1 rfl rfl rfl rfl rfl ?hrest (by rfl) (fun Xw3 Kw3 hKw3 => ?_); case hrest => kernel_rfl)
                refine RunL.mem (fl2 (sep_emp _) (flS (flS rfl))) ?_
                refine RunL.call cal51 rfl (s51 (by assumption) (by omega) (by omega)) rfl (fun vw4 Aw4 hw4 => ?_)
                obtain ⟨rfl, rfl⟩ := hw4
                refine Sd.ret hKw3 (Eq.trans rfl (gp2 (asg (asg rfl)) (sep_emp _).symm)) ⟨emp, (sep_emp _).symm⟩ ?_
                refine Sd.quiet 7 _ _ rfl rfl rfl rfl rfl (QOp.ok (fun X => OpOk.as (c := false) (OpOk.neq rfl rfl) (by rw [decide_eq_true (by omega)]; rfl))) ?_
                refine Sd.quiet 8 _ _ rfl rfl rfl rfl rfl (QOp.ok (fun X => OpOk.move rfl)) ?_
                refine Sd.quiet 9 _ _ rfl rfl rfl rfl rfl (QOp.ok (fun X => OpOk.move rfl)) ?_
                refine Sd.quiet 11 _ _ rfl rfl rfl rfl rfl (QOp.ok (fun X => OpOk.move rfl)) ?_
                refine Sd.quiet 12 _ _ rfl rfl rfl rfl rfl (QOp.ok (fun X => OpOk.nilOk rfl)) ?_
                refine Sd.quiet 13 _ _ rfl rfl rfl rfl rfl (QOp.ok (fun X => OpOk.fieldAddr fld72_2 rfl)) ?_
                refine Sd.quiet 14 _ _ rfl rfl rfl rfl rfl (QOp.ok (fun X => OpOk.load rfl rfl rfl (Blk.out Blk.pts.left.left.left _ _ (by first | rfl | assumption)))) ?_
                (refine Sd.exec 10 rfl rfl rfl rfl rfl ?hrest (by rfl) (fun Xw5 Kw5 hKw5 => ?_); case hrest => kernel_rfl)
                refine RunL.mem (fl2 (sep_emp _) (flS (flS rfl))) ?_
                refine RunL.call cal52 rfl (s52) rfl (fun vw6 Aw6 hw6 => ?_)
                obtain ⟨rfl, rfl⟩ := hw6
                refine Sd.ret hKw5 (Eq.trans rfl (gp2 (sep_emp _).symm (asg (asg rfl)))) ⟨_, (emp_sep _).symm⟩ ?_
                refine Sd.quiet 15 _ _ rfl rfl rfl rfl rfl (QOp.ok (fun X => OpOk.as (c := false) (OpOk.neq rfl rfl) (by rw [decide_eq_true (by omega)]; rfl))) ?_
                refine Sd.quiet 16 _ _ rfl rfl rfl rfl rfl (QOp.ok (fun X => OpOk.pickF rfl rfl)) ?_
                (apply Sd.tail; case hall => kernel_rfl)
                refine RunL.mem (fl2 (flS (flS rfl)) (sep_emp _)) ?_
                refine RunL.nil ?_
                refine Run.condF rfl ?_
                refine Run.skip ?_
                refine Run.inBlock ?_
                refine Run.region ?_
                refine RunL.ok (OpOk.move rfl) rfl ?_
                refine RunL.ok (OpOk.addN _ 1 rfl rfl rfl rfl (by omega)) rfl ?_
                refine RunL.ok (OpOk.assign rfl) rfl ?_
                refine RunL.nil ?_
                refine Run.jump ((ih (i + 1, _, z2, rf, lv1, L1) ⟨by dsimp only; omega, by dsimp only; omega, z4, hrel1, hrow1, hal1, hbd1, by dsimp only; omega, by dsimp only; omega⟩ (by dsimp only; omega))) ⟨rfl, rfl, rfl, rfl, rfl, trivial⟩ (Grew.of (Eq.trans (frc (frl (frl (frl rfl))) (frc (frl (frl (frl rfl))) rfl)) (congrArg (· * _) (congrArg (· * _) (congrArg (· * _) (congrArg (· * _) (congrArg (· * _) as1)))))) (Grew.refl _))
        · rcases hnx : nextC (cQ Q) ot with ⟨⟨xk, xf, xt, xo, xb⟩, e, C2⟩
          have hrow2 := row_next hnx hrow
          have hC2 := nextC_len hnx
          have haf := hal.at_
          refine Run.seq ?_
          refine Run.seq ?_
          refine Run.region ?_
          refine RunL.ok (OpOk.move rfl) rfl ?_
          refine RunL.ok (OpOk.move rfl) rfl ?_
          refine RunL.ok (OpOk.lenR rfl rfl rd.left.left.left.left.left.left rfl) rfl ?_
          refine RunL.ok (OpOk.asT (OpOk.lss rfl rfl) (by omega)) rfl ?_
          refine RunL.ok (OpOk.move rfl) rfl ?_
          refine RunL.on rfl rfl ?_
          refine RunL.ok (OpOk.move rfl) rfl ?_
          refine RunL.on rfl rfl ?_
          refine RunL.ok (OpOk.asT (OpOk.lss rfl rfl) (by omega)) rfl ?_
          refine RunL.ok (OpOk.pickT rfl rfl) rfl ?_
          refine RunL.nil ?_
          refine Run.condT rfl ?_
          refine Run.skip ?_
          refine Run.seq ?_
          refine Run.block ?_
          refine Run.seq ?_
          refine Run.region ?_
          refine RunL.ok (OpOk.move rfl) rfl ?_
          refine RunL.ok (OpOk.move rfl) rfl ?_
          refine RunL.ok (OpOk.idxN rfl ti74 rfl rd.left.left.left.left.left.left rfl (by omega)) rfl ?_
          refine RunL.ok (OpOk.loadFlE (by assumption) rfl rfl ti74 rfl rd.left.left.left.left.left.left (fun _ => rfl) rfl (by omega)) rfl ?_
          refine RunL.alloc ti74 rfl (fun by1 => ?_)
          refine RunL.storeAll ti74 rfl rfl rfl (fun w hw => OneC.one (enc := encT74) ((ok, ot, osv, ol)) w hw) rfl rfl ?_
          refine RunL.nil ?_
          refine Run.seq ?_
          refine Run.seq ?_
          refine Run.region ?_
          refine RunL.ok (OpOk.fieldAddr fld74_0 rfl) rfl ?_
          refine RunL.ok (OpOk.load rfl rfl rfl (Blk.out Blk.pts _ _ (by first | rfl | assumption))) rfl ?_
          refine RunL.ok (OpOk.asF (OpOk.eql rfl rfl) (by omega)) rfl ?_
          refine RunL.nil ?_
          refine Run.condF rfl ?_
          refine Run.seq ?_
          refine Run.region ?_
          refine RunL.ok (OpOk.move rfl) rfl ?_
          refine RunL.ok (OpOk.fieldAddr fld74_1 rfl) rfl ?_
          refine RunL.ok (OpOk.load rfl rfl rfl (Blk.out Blk.pts _ _ (by first | rfl | assumption))) rfl ?_
          refine RunL.mem (frc (frl (frl (frl rfl))) (frc (frl (frl (frl rfl))) (frc (frl (frl (frl rfl))) rfl))) ?_
          refine RunL.call cal46 rfl (s46 (by assumption) (by assumption) (by assumption) (by assumption)) rfl (fun vy2 Ay2 hy2 => ?_)
          obtain ⟨y3, ⟨y4, ⟨y5, ⟨rfl, ⟨y6, ⟨y7, rfl⟩⟩⟩⟩⟩⟩ := hy2
          refine RunL.ok (OpOk.move rfl) rfl ?_
          refine RunL.ok (OpOk.ext20 rfl) rfl ?_
          refine RunL.ok (OpOk.ext21 rfl) rfl ?_
          refine RunL.alloc ti82 rfl (fun by8 => ?_)
          refine RunL.storeAll ti82 rfl rfl rfl (fun w hw => OneC.one (enc := encT82) ((xk, xf, xt, y3, xo, xb)) w hw) rfl rfl ?_
          refine RunL.ok (OpOk.assign rfl) rfl ?_
          refine RunL.nil ?_
          refine Run.seq ?_
          refine Run.region ?_
          refine RunL.ok (OpOk.move rfl) rfl ?_
          refine RunL.ok (OpOk.fieldAddr fld74_1 rfl) rfl ?_
          refine RunL.ok (OpOk.load rfl rfl rfl (Blk.out Blk.pts.left.left.left.left.left.left _ _ (by first | rfl | assumption))) rfl ?_
          refine RunL.mem (frc (frl (frl (frl (frl (frl (frl (frl rfl))))))) (frc (frl (frl (frl (frl (frl (frl (frl rfl))))))) rfl)) ?_
          refine RunL.call cal47 rfl (s47 (by assumption) (by assumption) (by assumption) (by omega) (by assumption)) rfl (fun vy9 Ay9 hy9 => ?_)
          obtain ⟨y10, ⟨y11, ⟨y12, ⟨y13, ⟨rfl, ⟨y14, ⟨y15, ⟨rdy16, ⟨y17, rfl⟩⟩⟩⟩⟩⟩⟩⟩⟩ := hy9
          refine RunL.ok (OpOk.move rfl) rfl ?_
          refine RunL.ok (OpOk.ext20 rfl) rfl ?_
          refine RunL.ok (OpOk.ext21 rfl) rfl ?_
          refine RunL.alloc ti82 rfl (fun by18 => ?_)
          refine RunL.storeAll ti82 rfl rfl rfl (fun w hw => OneC.one (enc := encT82) ((xk, xf, xt, y10, xo, xb)) w hw) rfl rfl ?_
          refine RunL.ok (OpOk.assign rfl) rfl ?_
          refine RunL.nil ?_
          refine Run.seq ?_
          refine Run.region ?_
          refine RunL.ok (OpOk.move rfl) rfl ?_
          refine RunL.ok (OpOk.move rfl) rfl ?_
          refine RunL.ok (OpOk.as (c := false) (OpOk.neq rfl rfl) (by rw [decide_eq_true (by omega)]; rfl)) rfl ?_
          refine RunL.ok (OpOk.move rfl) rfl ?_
          refine RunL.on rfl rfl ?_
          refine RunL.ok (OpOk.loadS rfl rfl ti82 rfl Blk.pts.left.left.left.left rfl) rfl ?_
          refine RunL.on rfl rfl ?_
          refine RunL.ok (OpOk.loadS rfl rfl ti82 rfl Blk.pts rfl) rfl ?_
          refine RunL.on rfl rfl ?_
          refine RunL.know (fun w s => (s.conv (frl (frl (frl (frl (frl (frl (frl (frl rfl))))))))).ownRd0) (fun rdy19 => ?_)
          refine RunL.call cal48 rfl (s48 (Rd.right rdy19).left.left.left.left.left.left.left.left rdy16.left.left.left.left.left.left.left.left.left.left.left.left) rfl (fun vy20 Ay20 hy20 => ?_)
          obtain ⟨y21, ⟨rfl, rfl⟩⟩ := hy20
          refine RunL.on rfl rfl ?_
          refine RunL.ok (OpOk.not rfl) rfl ?_
          refine RunL.ok (OpOk.pickF rfl rfl) rfl ?_
          refine RunL.nil ?_
          refine Run.condNF rfl (by first | omega | with_reducible rfl | assumption) ?_
          refine Run.skip ?_
          refine Run.seq ?_
          refine Run.seq ?_
          refine Run.region ?_
          refine RunL.ok (OpOk.assign rfl) rfl ?_
          refine RunL.nil ?_
          refine Run.block ?_
          rw [← y7] at y14 hrow2
          have hbd2 : ∀ m ∈ y12, m.2.2.2.2.2.length ≤ 140737488351232 := fun m hm => hbd m (y17 m hm)
          have hsm := rel_small y14 hrow2 hroom4 (by rw [cQ_len]; omega)
          have hlenq := (cQ_lenQ y4).symm.trans (lenC_rel y14)
          refine Run.jump ((Run.loopJ (X := Int × Asn) (fun x => [(21, .int .i64 x.1), (10, .int .i64 (i : Int)), (9, .pointer (some ⟨bx7, 0, none⟩)), (7, .pointer (some ⟨x5, 0, none⟩)), (0, .int .i64 (k : Int)), (2, u)]) (fun x => old w0 * x.2 * pts x5 (.cells #[x6, .int .i64 room, .int .i64 ref] 119 (0, 0)) * own 123 1 x6 (k + 1) (Fl encT123 (y4)) * ownsQ (y4) * pts bx7 (.cells #[.int .i64 ((k : Int)), .int .i64 (room), .int .i64 (ref), y11] 72 (0, 0)) * own 82 5 y11 (y12).length (Fl encT82 (y12))) (fun x => -1 ≤ x.1 ∧ x.1 ≤ (k : Int) + 2) (fun x => ((k : Int) + 2 - x.1).toNat) (-1, _) ⟨by dsimp only; omega, by dsimp only; omega⟩ (fun x hx iht => ?_))) ⟨rfl, rfl, rfl, rfl, rfl, rfl, trivial⟩ (Grew.of (Eq.trans (frc (frl (frl rfl)) (frc (frl (frl rfl)) (frc (frl (frl (frl (frl rfl)))) (frc (frl (frl (frl (frl rfl)))) (frc (frl (frl (frl (frl rfl)))) rfl))))) (congrArg (· * _) (congrArg (· * _) (congrArg (· * _) (congrArg (· * _) (congrArg (· * _) (asg (asg (asg (asg (asg (asg (asg as1))))))))))))) (Grew.refl _))
          obtain ⟨to, JT⟩ := x
          simp only at hx iht ⊢
          obtain ⟨ht1, ht2⟩ := hx
          rcases Decidable.em (to ≤ (k : Int) + 1) with hto | hto
          · have hW := wait_rel y14 to
            have hWb := bd_cm (wt_bd (to := to) hbd2)
            have hWa := wt_al (to := to) y15
            refine Run.seq ?_
            refine Run.seq ?_
            refine Run.region ?_
            refine RunL.ok (OpOk.move rfl) rfl ?_
            refine RunL.ok (OpOk.move rfl) rfl ?_
            refine RunL.ok (OpOk.addN _ 1 rfl rfl rfl rfl (by omega)) rfl ?_
            refine RunL.ok (OpOk.asT (OpOk.leq rfl rfl) (by omega)) rfl ?_
            refine RunL.nil ?_
            refine Run.condT rfl ?_
            refine Run.skip ?_
            refine Run.seq ?_
            refine Run.block ?_
            refine Run.seq ?_
            refine Run.region ?_
            refine RunL.ok (OpOk.move rfl) rfl ?_
            refine RunL.ok (OpOk.move rfl) rfl ?_
            refine RunL.mem (frc (frl (frl rfl)) (frc (frl (frl rfl)) (frc (frl (frl rfl)) rfl))) ?_
            refine RunL.call cal49 rfl (s49 (by assumption) (by assumption) (by assumption) (by assumption) (by assumption)) rfl (fun vw1 Aw1 hw1 => ?_)
            obtain ⟨w2, ⟨w3, ⟨w4, rfl⟩⟩⟩ := hw1
            refine RunL.ok (OpOk.assign rfl) rfl ?_
            refine RunL.nil ?_
            refine Run.seq ?_
            refine Run.seq ?_
            refine Run.region ?_
            refine RunL.ok (OpOk.move rfl) rfl ?_
            refine RunL.ok (OpOk.move rfl) rfl ?_
            refine RunL.ok (OpOk.move rfl) rfl ?_
            refine RunL.know (fun w s => (s.conv rfl).ownsM0) (fun alw5 => ?_)
            refine RunL.mem (frc (frl (frl (frl (frl (frl (frl rfl)))))) (frc (frl (frl (frl (frl (frl (frl rfl)))))) rfl)) ?_
            refine RunL.call cal50 rfl (s50 (by omega)) rfl (fun vw6 Aw6 hw6 => ?_)
            obtain ⟨w7, rfl⟩ := hw6
            refine RunL.know (fun w s => (s.conv (frl (frl (frl (frl (frl rfl)))))).ownRd0) (fun rdw8 => ?_)
            refine RunL.know (fun w s => (s.conv rfl).ownRd0) (fun rdw9 => ?_)
            refine RunL.call cal45 rfl (s45 (Rd.right rdw8).left.left.left.left.left (Alls.right alw5).left.left.left.left (Rd.right rdw9) hWa.left.left.left.left.left.left.left.left.left.left.left) rfl (fun vw10 Aw10 hw10 => ?_)
            obtain ⟨w11, ⟨rfl, rfl⟩⟩ := hw10
            refine RunL.ok (OpOk.not rfl) rfl ?_
            refine RunL.nil ?_
            refine Run.condNF rfl (by first | omega | with_reducible rfl | assumption) ?_
            refine Run.skip ?_
            refine Run.seq ?_
            refine Run.region ?_
            refine RunL.ok (OpOk.assign rfl) rfl ?_
            refine RunL.nil ?_
            refine Run.block ?_
            have hw2l : w2.length ≤ 80 := by
              have h1 := congrArg List.length w4
              have h2 := wt_le to y12
              simp only [List.length_map] at h1
              omega
            rw [show ownsM w2 = ownsM (w2.drop 0) from rfl]
            refine Run.jump ((Run.loopJ (X := Nat × Asn) (fun x => [(23, .int .i64 (x.1 : Int)), (22, vw1), (21, .int .i64 to), (10, .int .i64 (i : Int)), (9, .pointer (some ⟨bx7, 0, none⟩)), (7, .pointer (some ⟨x5, 0, none⟩)), (0, .int .i64 (k : Int)), (2, u)]) (fun x => old w0 * x.2 * own 82 5 vw1 w2.length (Fl encT82 w2) * ownsM (w2.drop x.1) * pts x5 (.cells #[x6, .int .i64 room, .int .i64 ref] 119 (0, 0)) * own 123 1 x6 (k + 1) (Fl encT123 (y4)) * ownsQ (y4) * pts bx7 (.cells #[.int .i64 ((k : Int)), .int .i64 (room), .int .i64 (ref), y11] 72 (0, 0)) * own 82 5 y11 (y12).length (Fl encT82 (y12))) (fun x => x.1 ≤ w2.length) (fun x => w2.length - x.1) (0, _) (Nat.zero_le _) (fun x hx ih2 => ?_))) ⟨rfl, rfl, rfl, rfl, rfl, rfl, rfl, rfl, trivial⟩ (Grew.of (Eq.trans (frc (frl (frl rfl)) (frc (frl (frl rfl)) (frc (frl (frl (frl (frl (frl rfl))))) (frc (frl (frl (frl (frl (frl rfl))))) (frc (frl (frl (frl (frl (frl rfl))))) (frc (frl (frl (frl rfl))) (frc (frl (frl (frl rfl))) rfl))))))) (congrArg (· * _) (congrArg (· * _) (congrArg (· * _) (congrArg (· * _) (congrArg (· * _) (congrArg (· * _) (congrArg (· * _) (asg (asg (asg (asg as1)))))))))))) (Grew.refl _))
            obtain ⟨q, J2⟩ := x
            simp only at hx ih2 ⊢
            rcases Nat.lt_or_ge q w2.length with hq | hq
            · rw [ownsM_drop hq]
              have hmb := (cm_bd w4 (wt_bd hbd2)) _ (getD_mem hq)
              obtain ⟨o, hoe⟩ : ∃ o, w2.getD q default = o := ⟨_, rfl⟩
              rw [hoe] at hmb ⊢
              obtain ⟨mk, mf, mt, msv, mo, mb⟩ := o
              dsimp only at hmb
              rw [bodyM]
              dsimp only
              simp only [← sep_assoc]
              refine Run.seq ?_
              refine Run.seq ?_
              refine Run.region ?_
              refine RunL.ok (OpOk.move rfl) rfl ?_
              refine RunL.ok (OpOk.move rfl) rfl ?_
              refine RunL.ok (OpOk.lenR rfl rfl (Rd.right rdw8).left.left.left.left.left.left.left rfl) rfl ?_
              refine RunL.ok (OpOk.asT (OpOk.lss rfl rfl) (by omega)) rfl ?_
              refine RunL.nil ?_
              refine Run.condT rfl ?_
              refine Run.skip ?_
              refine Run.seq ?_
              refine Run.block ?_
              refine Run.seq ?_
              refine Run.region ?_
              refine RunL.ok (OpOk.assign rfl) rfl ?_
              refine RunL.nil ?_
              refine Run.block ?_
              refine Run.jump ((Run.loopJ (X := Nat × List UInt8) (fun x => [(24, .int .i64 (x.1 : Int)), (23, .int .i64 (q : Int)), (22, vw1), (21, .int .i64 to), (10, .int .i64 (i : Int)), (9, .pointer (some ⟨bx7, 0, none⟩)), (7, .pointer (some ⟨x5, 0, none⟩)), (0, .int .i64 (k : Int)), (2, u)]) (fun x => old w0 * J2 * own 82 5 vw1 w2.length (Fl encT82 w2) * ownsM (w2.drop (q + 1)) * own 5 1 msv.1 mb.length (B x.2) * pts x5 (.cells #[x6, .int .i64 room, .int .i64 ref] 119 (0, 0)) * own 123 1 x6 (k + 1) (Fl encT123 (y4)) * ownsQ (y4) * pts bx7 (.cells #[.int .i64 ((k : Int)), .int .i64 (room), .int .i64 (ref), y11] 72 (0, 0)) * own 82 5 y11 (y12).length (Fl encT82 (y12))) (fun x => x.1 ≤ mb.length ∧ x.2.length = mb.length) (fun x => mb.length - x.1) (0, mb) ⟨Nat.zero_le _, rfl⟩ (fun x hx ih3 => ?_))) ⟨rfl, rfl, rfl, rfl, rfl, rfl, rfl, rfl, rfl, trivial⟩ ((Grew.refl _))
              obtain ⟨z, bs⟩ := x
              simp only at hx ih3 ⊢
              obtain ⟨hz, hbl⟩ := hx
              rcases Nat.lt_or_ge z mb.length with hzt | hzg
              · refine Run.seq ?_
                refine Run.seq ?_
                refine Run.region ?_
                refine RunL.ok (OpOk.move rfl) rfl ?_
                refine RunL.ok (OpOk.move rfl) rfl ?_
                refine RunL.ok (OpOk.move rfl) rfl ?_
                refine RunL.ok (OpOk.idxN rfl ti82 rfl (Rd.right rdw8).left.left.left.left.left.left.left rfl (by omega)) rfl ?_
                refine RunL.ok (OpOk.fieldAddrA fld82_3 rfl) rfl ?_
                refine RunL.ok (OpOk.loadFl1E hoe rfl rfl rfl (Rd.right rdw8).left.left.left.left.left.left.left (fun _ => rfl) rfl (by omega) rfl) rfl ?_
                refine RunL.know (fun w s => (s.conv (frl (frl (frl (frl (frl rfl)))))).ownRd0) (fun rdq1 => ?_)
                refine RunL.ok (OpOk.lenR rfl rfl (Rd.right rdq1).left.left.left.left.left rfl) rfl ?_
                refine RunL.ok (OpOk.asT (OpOk.lss rfl rfl) (by omega)) rfl ?_
                refine RunL.nil ?_
                refine Run.condT rfl ?_
                refine Run.skip ?_
                refine Run.seq ?_
                refine Run.block ?_
                refine Run.know (fun w s => (s.conv (frl (frl (frl rfl)))).ownRd0) (fun rdq2 => ?_)
                refine Run.know (fun w s => (s.conv rfl).ownRd0) (fun rdq3 => ?_)
                (apply Run.drawD [16] (by rfl) (sep_emp _).symm; case hchk => kernel_rfl)
                refine Sd.quiet 0 _ _ rfl rfl rfl rfl rfl (QOp.ok (fun X => OpOk.move rfl)) ?_
                refine Sd.quiet 1 _ _ rfl rfl rfl rfl rfl (QOp.ok (fun X => OpOk.move rfl)) ?_
                refine Sd.quiet 2 _ _ rfl rfl rfl rfl rfl (QOp.ok (fun X => OpOk.idxN rfl ti82 rfl (Rd.right rdw8).left.left.left.left.left.left.left.left.left rfl (by omega))) ?_
                refine Sd.quiet 3 _ _ rfl rfl rfl rfl rfl (QOp.ok (fun X => OpOk.fieldAddrA fld82_3 rfl)) ?_
                refine Sd.quiet 4 _ _ rfl rfl rfl rfl rfl (QOp.ok (fun X => OpOk.loadFl1E hoe rfl rfl rfl (Rd.right rdw8).left.left.left.left.left.left.left.left.left (fun _ => rfl) rfl (by omega) rfl)) ?_
                refine Sd.quiet 5 _ _ rfl rfl rfl rfl rfl (QOp.ok (fun X => OpOk.move rfl)) ?_
                refine Sd.quiet 6 _ _ rfl rfl rfl rfl rfl (QOp.ok (fun X => OpOk.move rfl)) ?_
                refine Sd.quiet 7 _ _ rfl rfl rfl rfl rfl (QOp.ok (fun X => OpOk.move rfl)) ?_
                refine Sd.quiet 8 _ _ rfl rfl rfl rfl rfl (QOp.ok (fun X => OpOk.idxN rfl ti82 rfl (Rd.right rdw8).left.left.left.left.left.left.left.left.left rfl (by omega))) ?_
                refine Sd.quiet 9 _ _ rfl rfl rfl rfl rfl (QOp.ok (fun X => OpOk.fieldAddrA fld82_3 rfl)) ?_
                refine Sd.quiet 10 _ _ rfl rfl rfl rfl rfl (QOp.ok (fun X => OpOk.loadFl1E hoe rfl rfl rfl (Rd.right rdw8).left.left.left.left.left.left.left.left.left (fun _ => rfl) rfl (by omega) rfl)) ?_
                refine Sd.quiet 11 _ _ rfl rfl rfl rfl rfl (QOp.ok (fun X => OpOk.move rfl)) ?_
                refine Sd.quiet 12 _ _ rfl rfl rfl rfl rfl (QOp.ok (fun X => OpOk.idx1N rfl ti5 rfl (Rd.right rdq1).left.left.left.left.left.left.left rfl (by omega))) ?_
                refine Sd.quiet 13 _ _ rfl rfl rfl rfl rfl (QOp.ok (fun X => OpOk.load rfl rfl rfl (Rd.getB (Rd.right rdq1).left.left.left.left.left.left.left (by omega)))) ?_
                refine Sd.quiet 14 _ _ rfl rfl rfl rfl rfl (QOp.ok (fun X => OpOk.xor rfl rfl (x255 _))) ?_
                refine Sd.quiet 15 _ _ rfl rfl rfl rfl rfl (QOp.ok (fun X => OpOk.idx1N rfl ti5 rfl (Rd.right rdq1).left.left.left.left.left.left.left rfl (by omega))) ?_
                (apply Sd.tail; case hall => kernel_rfl)
                refine RunL.mem (fl2 (sep_emp _) (sep_emp _)) ?_
                refine RunL.storeB _ ti5 rfl rfl rfl (frl (frl (frl (frl (frl rfl))))) (by omega) ?_
                refine RunL.nil ?_
                refine Run.inBlock ?_
                refine Run.region ?_
                refine RunL.ok (OpOk.move rfl) rfl ?_
                refine RunL.ok (OpOk.addN _ 1 rfl rfl rfl rfl (by omega)) rfl ?_
                refine RunL.ok (OpOk.assign rfl) rfl ?_
                refine RunL.nil ?_
                refine Run.jump ((ih3 (z + 1, _) ⟨by dsimp only; omega, by simp [hbl]⟩ (by dsimp only; omega))) ⟨rfl, rfl, rfl, rfl, rfl, rfl, rfl, rfl, rfl, trivial⟩ (Grew.of (frc (frl rfl) (frc (frl rfl) (frc (frl rfl) (frc (frl rfl) (frc (frl rfl) rfl))))) (Grew.refl _))
              · clear ih3
                refine Run.seq ?_
                refine Run.seq ?_
                refine Run.region ?_
                refine RunL.ok (OpOk.move rfl) rfl ?_
                refine RunL.ok (OpOk.move rfl) rfl ?_
                refine RunL.ok (OpOk.move rfl) rfl ?_
                refine RunL.ok (OpOk.idxN rfl ti82 rfl (Rd.right rdw8).left.left.left.left.left.left.left rfl (by omega)) rfl ?_
                refine RunL.ok (OpOk.fieldAddrA fld82_3 rfl) rfl ?_
                refine RunL.ok (OpOk.loadFl1E hoe rfl rfl rfl (Rd.right rdw8).left.left.left.left.left.left.left (fun _ => rfl) rfl (by omega) rfl) rfl ?_
                refine RunL.know (fun w s => (s.conv (frl (frl (frl (frl (frl rfl)))))).ownRd0) (fun rdq1 => ?_)
                refine RunL.ok (OpOk.lenR rfl rfl (Rd.right rdq1).left.left.left.left.left rfl) rfl ?_
                refine RunL.ok (OpOk.asF (OpOk.lss rfl rfl) (by omega)) rfl ?_
                refine RunL.nil ?_
                refine Run.condF rfl ?_
                refine Run.exit rfl ?_
                refine Run.inBlock ?_
                refine Run.region ?_
                refine RunL.ok (OpOk.move rfl) rfl ?_
                refine RunL.ok (OpOk.addN _ 1 rfl rfl rfl rfl (by omega)) rfl ?_
                refine RunL.ok (OpOk.assign rfl) rfl ?_
                refine RunL.nil ?_
                refine Run.jump ((ih2 (q + 1, _) (by dsimp only; omega) (by dsimp only; omega))) ⟨rfl, rfl, rfl, rfl, rfl, rfl, rfl, rfl, trivial⟩ (Grew.of (Eq.trans (frc rfl (frc rfl (frc rfl (frc rfl (frc rfl (frc (frl rfl) (frc (frl rfl) rfl))))))) (congrArg (· * _) (congrArg (· * _) (congrArg (· * _) (congrArg (· * _) (congrArg (· * _) (congrArg (· * _) (congrArg (· * _) (asg as1))))))))) (Grew.refl _))
            · clear ih2
              refine Run.seq ?_
              refine Run.seq ?_
              refine Run.region ?_
              refine RunL.ok (OpOk.move rfl) rfl ?_
              refine RunL.ok (OpOk.move rfl) rfl ?_
              refine RunL.ok (OpOk.lenR rfl rfl (Rd.right rdw8).left.left.left.left.left.left rfl) rfl ?_
              refine RunL.ok (OpOk.asF (OpOk.lss rfl rfl) (by omega)) rfl ?_
              refine RunL.nil ?_
              refine Run.condF rfl ?_
              refine Run.exit rfl ?_
              refine Run.inBlock ?_
              refine Run.region ?_
              refine RunL.ok (OpOk.move rfl) rfl ?_
              refine RunL.ok (OpOk.add rfl rfl (wrapI (by omega) (by omega))) rfl ?_
              refine RunL.ok (OpOk.assign rfl) rfl ?_
              refine RunL.nil ?_
              refine Run.jump ((iht (to + 1, _) ⟨by dsimp only; omega, by dsimp only; omega⟩ (by dsimp only; omega))) ⟨rfl, rfl, rfl, rfl, rfl, rfl, trivial⟩ (Grew.of (congrArg (· * _) (congrArg (· * _) (congrArg (· * _) (congrArg (· * _) (congrArg (· * _) (asg (asg as1))))))) (Grew.refl _))
          · clear iht
            refine Run.seq ?_
            refine Run.seq ?_
            refine Run.region ?_
            refine RunL.ok (OpOk.move rfl) rfl ?_
            refine RunL.ok (OpOk.move rfl) rfl ?_
            refine RunL.ok (OpOk.addN _ 1 rfl rfl rfl rfl (by omega)) rfl ?_
            refine RunL.ok (OpOk.asF (OpOk.leq rfl rfl) (by omega)) rfl ?_
            refine RunL.nil ?_
            refine Run.condF rfl ?_
            refine Run.exit rfl ?_
            refine Run.seq ?_
            refine Run.know (fun w s => (s.conv (frl (frl (frl rfl)))).ownRd0) (fun rdw1 => ?_)
            refine Run.know (fun w s => (s.conv rfl).ownRd0) (fun rdw2 => ?_)
            (apply Run.drawD [] (by rfl) (Eq.trans (frc (frl (frl rfl)) (frc (frl (frl rfl)) (frc (frl (frl rfl)) rfl))) (asg (asg rfl))); case hchk => kernel_rfl)
            refine Sd.quiet 0 _ _ rfl rfl rfl rfl rfl (QOp.ok (fun X => OpOk.move rfl)) ?_
            refine Sd.quiet 2 _ _ rfl rfl rfl rfl rfl (QOp.ok (fun X => OpOk.move rfl)) ?_
            refine Sd.quiet 3 _ _ rfl rfl rfl rfl rfl (QOp.ok (fun X => OpOk.nilOk rfl)) ?_
            refine Sd.quiet 4 _ _ rfl rfl rfl rfl rfl (QOp.ok (fun X => OpOk.fieldAddr fld72_3 rfl)) ?_
            refine Sd.quiet 5 _ _ rfl rfl rfl rfl rfl (QOp.ok (fun X => OpOk.load rfl rfl rfl (Blk.out Blk.pts.left.left.left _ _ (by first | rfl | assumption)))) ?_
            refine Sd.quiet 6 _ _ rfl rfl rfl rfl rfl (QOp.ok (fun X => OpOk.lenR rfl rfl (Rd.right rdw2).left.left rfl)) ?_
            (refine Sd.exec 1 rfl rfl rfl rfl rfl ?hrest (by rfl) (fun Xw3 Kw3 hKw3 => ?_); case hrest => kernel_rfl)
            refine RunL.mem (fl2 (sep_emp _) (flS (flS rfl))) ?_
            refine RunL.call cal51 rfl (s51 (by assumption) (by omega) (by omega)) rfl (fun vw4 Aw4 hw4 => ?_)
            obtain ⟨rfl, rfl⟩ := hw4
            refine Sd.ret hKw3 (Eq.trans rfl (gp2 (asg (asg rfl)) (sep_emp _).symm)) ⟨emp, (sep_emp _).symm⟩ ?_
            refine Sd.quiet 7 _ _ rfl rfl rfl rfl rfl (QOp.ok (fun X => OpOk.as (c := false) (OpOk.neq rfl rfl) (by rw [decide_eq_true (by omega)]; rfl))) ?_
            refine Sd.quiet 8 _ _ rfl rfl rfl rfl rfl (QOp.ok (fun X => OpOk.move rfl)) ?_
            refine Sd.quiet 9 _ _ rfl rfl rfl rfl rfl (QOp.ok (fun X => OpOk.move rfl)) ?_
            refine Sd.quiet 11 _ _ rfl rfl rfl rfl rfl (QOp.ok (fun X => OpOk.move rfl)) ?_
            refine Sd.quiet 12 _ _ rfl rfl rfl rfl rfl (QOp.ok (fun X => OpOk.nilOk rfl)) ?_
            refine Sd.quiet 13 _ _ rfl rfl rfl rfl rfl (QOp.ok (fun X => OpOk.fieldAddr fld72_2 rfl)) ?_
            refine Sd.quiet 14 _ _ rfl rfl rfl rfl rfl (QOp.ok (fun X => OpOk.load rfl rfl rfl (Blk.out Blk.pts.left.left.left _ _ (by first | rfl | assumption)))) ?_
            (refine Sd.exec 10 rfl rfl rfl rfl rfl ?hrest (by rfl) (fun Xw5 Kw5 hKw5 => ?_); case hrest => kernel_rfl)
            refine RunL.mem (fl2 (sep_emp _) (flS (flS rfl))) ?_
            refine RunL.call cal52 rfl (s52) rfl (fun vw6 Aw6 hw6 => ?_)
            obtain ⟨rfl, rfl⟩ := hw6
            refine Sd.ret hKw5 (Eq.trans rfl (gp2 (sep_emp _).symm (asg (asg rfl)))) ⟨_, (emp_sep _).symm⟩ ?_
            refine Sd.quiet 15 _ _ rfl rfl rfl rfl rfl (QOp.ok (fun X => OpOk.as (c := false) (OpOk.neq rfl rfl) (by rw [decide_eq_true (by omega)]; rfl))) ?_
            refine Sd.quiet 16 _ _ rfl rfl rfl rfl rfl (QOp.ok (fun X => OpOk.pickF rfl rfl)) ?_
            (apply Sd.tail; case hall => kernel_rfl)
            refine RunL.mem (fl2 (flS (flS rfl)) (sep_emp _)) ?_
            refine RunL.nil ?_
            refine Run.condF rfl ?_
            refine Run.skip ?_
            refine Run.inBlock ?_
            refine Run.region ?_
            refine RunL.ok (OpOk.move rfl) rfl ?_
            refine RunL.ok (OpOk.addN _ 1 rfl rfl rfl rfl (by omega)) rfl ?_
            refine RunL.ok (OpOk.assign rfl) rfl ?_
            refine RunL.nil ?_
            refine Run.jump ((ih (i + 1, _, y4, ref, y11, y12) ⟨by dsimp only; omega, by dsimp only; omega, y6, y14, hrow2, y15, hbd2, by dsimp only; omega, by dsimp only; omega⟩ (by dsimp only; omega))) ⟨rfl, rfl, rfl, rfl, rfl, trivial⟩ (Grew.of (Eq.trans (frc (frl (frl (frl rfl))) (frc (frl (frl (frl rfl))) rfl)) (congrArg (· * _) (congrArg (· * _) (congrArg (· * _) (congrArg (· * _) (congrArg (· * _) as1)))))) (Grew.refl _))
      · clear ih
        refine Run.seq ?_
        refine Run.seq ?_
        refine Run.region ?_
        refine RunL.ok (OpOk.move rfl) rfl ?_
        refine RunL.ok (OpOk.move rfl) rfl ?_
        refine RunL.ok (OpOk.lenR rfl rfl rd.left.left.left.left.left.left rfl) rfl ?_
        refine RunL.ok (OpOk.asT (OpOk.lss rfl rfl) (by omega)) rfl ?_
        refine RunL.ok (OpOk.move rfl) rfl ?_
        refine RunL.on rfl rfl ?_
        refine RunL.ok (OpOk.move rfl) rfl ?_
        refine RunL.on rfl rfl ?_
        refine RunL.ok (OpOk.asF (OpOk.lss rfl rfl) (by omega)) rfl ?_
        refine RunL.ok (OpOk.pickT rfl rfl) rfl ?_
        refine RunL.nil ?_
        refine Run.condF rfl ?_
        refine Run.exit rfl ?_
        refine Run.seq ?_
        refine Run.region ?_
        refine RunL.ok (OpOk.assign rfl) rfl ?_
        refine RunL.nil ?_
        refine Run.ret1 Try.func9 rfl rfl ?_
        exact ⟨rfl, ⟨_, (asg (asg (asg (asg (asg as1)))))⟩⟩
    · clear ih
      refine Run.seq ?_
      refine Run.seq ?_
      refine Run.region ?_
      refine RunL.ok (OpOk.move rfl) rfl ?_
      refine RunL.ok (OpOk.move rfl) rfl ?_
      refine RunL.ok (OpOk.lenR rfl rfl rd.left.left.left.left.left.left rfl) rfl ?_
      refine RunL.ok (OpOk.asF (OpOk.lss rfl rfl) (by omega)) rfl ?_
      refine RunL.ok (OpOk.move rfl) rfl ?_
      refine RunL.off rfl rfl rfl rfl ?_
      refine RunL.off rfl rfl rfl rfl ?_
      refine RunL.ok (OpOk.pickF rfl rfl) rfl ?_
      refine RunL.nil ?_
      refine Run.condF rfl ?_
      refine Run.exit rfl ?_
      refine Run.seq ?_
      refine Run.region ?_
      refine RunL.ok (OpOk.assign rfl) rfl ?_
      refine RunL.nil ?_
      refine Run.ret1 Try.func9 rfl rfl ?_
      exact ⟨rfl, ⟨_, (asg (asg (asg (asg (asg as1)))))⟩⟩
end
end Go.Proofs.Ytegbfnibjgpbpaa
