/- The law that files grow, walked. -/
import Derived.Test.YtlmehpjcmdipmaaFiB
namespace Go.Proofs.Ytlmehpjcmdipmaa
open Go Go.Proofs
set_option maxRecDepth 100000
set_option maxHeartbeats 4000000
abbrev FOp := Int × Int × Value × List (Value × List UInt8)
def encO (o : FOp) : List Value := [.int .i64 o.1, .int .i64 o.2.1, o.2.2.1]
structure FOk (w0 : World) (o : FOp) : Prop where
  rd : Rd w0 (old w0) o.2.2.1 1 o.2.2.2.length (Fl encV o.2.2.2)
  al : Alls (GB w0) (old w0) o.2.2.2
  sz : (flatB o.2.2.2).length ≤ 1048576
  nm : o.2.2.2.length ≤ 1048576
  lo : -9223372036854775808 ≤ o.2.1
  hi : o.2.1 ≤ 9223372036854775807
/-- What is behind a beginning. -/
theorem more_facts {bs m all : List UInt8} (hm : m = all.take m.length) :
    List.take (bs.length - 0) (List.drop 0 (bs ++ m)) = bs ∧
    List.take ((bs ++ m).length - bs.length) (List.drop bs.length (bs ++ m)) = List.take ((List.take ((bs ++ m).length - bs.length) (List.drop bs.length (bs ++ m))).length - 0) (List.drop 0 all) ∧
    (List.take ((bs ++ m).length - bs.length) (List.drop bs.length (bs ++ m))).length = m.length ∧ (bs ++ m).length = bs.length + m.length := by
  have e : List.take ((bs ++ m).length - bs.length) (List.drop bs.length (bs ++ m)) = m := by
    rw [List.drop_append_of_le_length (Nat.le_refl _), List.drop_length, List.nil_append, List.length_append, Nat.add_sub_cancel_left, List.take_length]
  rw [e]
  exact ⟨by simp, by simpa using hm, rfl, List.length_append⟩
theorem fileGrows_spec {w0 : World} {s : Int} {u : Value} {ops : List FOp} (rd : Rd w0 (old w0) u 3 ops.length (Fl encO ops)) (hok : ∀ o ∈ ops, FOk w0 o) (hs2 : s ≤ 9223372036854775807) :
    Spec Try.prog w0 8 [.int .i64 s, u] (old w0) (fun v' A' => v' = .bool true ∧ Grew (old w0) A') := by
  have hmax := rd.max
  refine Spec.of_run [(0, .int .i64 s), (1, u)] Try.func8 rfl (Nat.le_of_ble_eq_true rfl) (by repeat (first | exact trivial | refine ⟨rfl, ?_⟩)) ?_
  rcases Int.lt_or_le s 0 with hs | hs
  · refine Run.seq ?_
    refine Run.region ?_
    refine RunL.ok (OpOk.assign rfl) rfl ?_
    refine RunL.nil ?_
    refine Run.seq ?_
    refine Run.seq ?_
    refine Run.region ?_
    refine RunL.call cal28 rfl (s28) rfl (fun vx1 Ax1 hx1 => ?_)
    obtain ⟨x2, ⟨rfl, rfl⟩⟩ := hx1
    refine RunL.ok (OpOk.not rfl) rfl ?_
    refine RunL.nil ?_
    refine Run.condF rfl ?_
    refine Run.skip ?_
    refine Run.seq ?_
    refine Run.region ?_
    refine RunL.ok (OpOk.move rfl) rfl ?_
    refine RunL.call cal29 rfl (s29a (by assumption)) rfl (fun vx3 Ax3 hx3 => ?_)
    obtain ⟨rfl, rfl⟩ := hx3
    refine RunL.ok (OpOk.move rfl) rfl ?_
    refine RunL.ok (OpOk.ext20 rfl) rfl ?_
    refine RunL.ok (OpOk.ext21 rfl) rfl ?_
    refine RunL.ok (OpOk.assign rfl) rfl ?_
    refine RunL.ok (OpOk.assign rfl) rfl ?_
    refine RunL.nil ?_
    refine Run.seq ?_
    refine Run.seq ?_
    refine Run.region ?_
    refine RunL.ok (OpOk.move rfl) rfl ?_
    refine RunL.ok (OpOk.eqlPN rfl rfl) rfl ?_
    refine RunL.ok (OpOk.move rfl) rfl ?_
    refine RunL.off rfl rfl rfl rfl ?_
    refine RunL.off rfl rfl rfl rfl ?_
    refine RunL.ok (OpOk.pickT rfl rfl) rfl ?_
    refine RunL.nil ?_
    refine Run.condT rfl ?_
    refine Run.seq ?_
    refine Run.region ?_
    refine RunL.ok (OpOk.move rfl) rfl ?_
    refine RunL.ok (OpOk.asT (OpOk.lss rfl rfl) (by omega)) rfl ?_
    refine RunL.ok (OpOk.assign rfl) rfl ?_
    refine RunL.nil ?_
    refine Run.ret1 Try.func8 rfl rfl ?_
    exact ⟨rfl, ⟨_, as1⟩⟩
  · refine Run.seq ?_
    refine Run.region ?_
    refine RunL.ok (OpOk.assign rfl) rfl ?_
    refine RunL.nil ?_
    refine Run.seq ?_
    refine Run.seq ?_
    refine Run.region ?_
    refine RunL.call cal28 rfl (s28) rfl (fun vx1 Ax1 hx1 => ?_)
    obtain ⟨x2, ⟨rfl, rfl⟩⟩ := hx1
    refine RunL.ok (OpOk.not rfl) rfl ?_
    refine RunL.nil ?_
    refine Run.condF rfl ?_
    refine Run.skip ?_
    refine Run.seq ?_
    refine Run.region ?_
    refine RunL.ok (OpOk.move rfl) rfl ?_
    refine RunL.call cal29 rfl (s29b (by assumption)) rfl (fun vx4 Ax4 hx4 => ?_)
    obtain ⟨x5, ⟨x6, ⟨rfl, rfl⟩⟩⟩ := hx4
    refine RunL.ok (OpOk.move rfl) rfl ?_
    refine RunL.ok (OpOk.ext20 rfl) rfl ?_
    refine RunL.ok (OpOk.ext21 rfl) rfl ?_
    refine RunL.ok (OpOk.assign rfl) rfl ?_
    refine RunL.ok (OpOk.assign rfl) rfl ?_
    refine RunL.nil ?_
    refine Run.seq ?_
    refine Run.seq ?_
    refine Run.region ?_
    refine RunL.ok (OpOk.move rfl) rfl ?_
    refine RunL.ok (OpOk.eqlPN rfl rfl) rfl ?_
    refine RunL.ok (OpOk.move rfl) rfl ?_
    refine RunL.on rfl rfl ?_
    refine RunL.ok (OpOk.move rfl) rfl ?_
    refine RunL.on rfl rfl ?_
    refine RunL.ok (OpOk.as (c := false) (OpOk.neq rfl rfl) (by rw [decide_eq_true (by omega)]; rfl)) rfl ?_
    refine RunL.ok (OpOk.pickF rfl rfl) rfl ?_
    refine RunL.nil ?_
    refine Run.condF rfl ?_
    refine Run.skip ?_
    refine Run.seq ?_
    refine Run.seq ?_
    refine Run.region ?_
    refine RunL.ok (OpOk.assign rfl) rfl ?_
    refine RunL.nil ?_
    refine Run.block ?_
    refine Run.jump ((Run.loopJ (X := Nat × Asn × Value × Int × List UInt8) (fun x => [(7, .int .i64 (x.1 : Int)), (5, .pointer (some ⟨x5, 0, none⟩)), (0, .int .i64 s), (1, u)]) (fun x => old w0 * x.2.1 * pts x5 (.cells #[.int .i64 (s), .int .i64 (x.2.2.2.1), x.2.2.1] 100 (0, 0)) * own 5 1 x.2.2.1 (x.2.2.2.2).length (B (x.2.2.2.2))) (fun x => x.1 ≤ ops.length ∧ x.1 ≤ 300 ∧ x.2.2.2.2.length ≤ 1048576 * x.1 ∧ (x.2.2.2.2.length : Int) ≤ s ∧ x.2.2.2.1 ≤ 9223372036854775807) (fun x => ops.length - x.1) (0, x2, x6, -1, []) ⟨Nat.zero_le _, Nat.zero_le _, Nat.zero_le _, hs, show (-1 : Int) ≤ _ by decide⟩ (fun x hx ih => ?_))) ⟨rfl, rfl, rfl, rfl, trivial⟩ ((Grew.refl _))
    obtain ⟨i, J, v, w, bs⟩ := x
    simp only at hx ih ⊢
    obtain ⟨hi, hi3, hbl, hbs, hw2⟩ := hx
    rcases Nat.lt_or_ge i ops.length with hlt | hge
    · have hmem := getD_mem hlt
      have rd3 := (hok _ hmem).rd
      have al3 := (hok _ hmem).al
      have hsz := (hok _ hmem).sz
      have hlo := (hok _ hmem).lo
      have hhi := (hok _ hmem).hi
      have hmx3 := rd3.max
      refine Run.seq ?_
      refine Run.seq ?_
      refine Run.region ?_
      refine RunL.ok (OpOk.move rfl) rfl ?_
      refine RunL.ok (OpOk.move rfl) rfl ?_
      refine RunL.ok (OpOk.lenR rfl rfl rd.left.left.left rfl) rfl ?_
      refine RunL.ok (OpOk.asT (OpOk.lss rfl rfl) (by omega)) rfl ?_
      refine RunL.ok (OpOk.move rfl) rfl ?_
      refine RunL.on rfl rfl ?_
      refine RunL.ok (OpOk.move rfl) rfl ?_
      refine RunL.on rfl rfl ?_
      refine RunL.ok (OpOk.lss rfl rfl) rfl ?_
      refine RunL.ok (OpOk.pickT rfl rfl) rfl ?_
      refine RunL.nil ?_
      refine Run.condD rfl (fun y1 => ?_) (fun y1 => ?_)
      · refine Run.skip ?_
        refine Run.seq ?_
        refine Run.block ?_
        refine Run.seq ?_
        refine Run.seq ?_
        refine Run.region ?_
        refine RunL.ok (OpOk.move rfl) rfl ?_
        refine RunL.ok (OpOk.move rfl) rfl ?_
        refine RunL.ok (OpOk.idxN rfl ti68 rfl rd.left.left.left rfl (by omega)) rfl ?_
        refine RunL.ok (OpOk.fieldAddrA fld68_0 rfl) rfl ?_
        refine RunL.ok (OpOk.loadFl1 default rfl rfl rfl rd.left.left.left (fun _ => rfl) rfl (by omega) rfl) rfl ?_
        refine RunL.ok (OpOk.eql rfl rfl) rfl ?_
        refine RunL.nil ?_
        refine Run.condD rfl (fun y2 => ?_) (fun y2 => ?_)
        · refine Run.seq ?_
          refine Run.region ?_
          refine RunL.ok (OpOk.move rfl) rfl ?_
          refine RunL.ok (OpOk.move rfl) rfl ?_
          refine RunL.ok (OpOk.move rfl) rfl ?_
          refine RunL.ok (OpOk.idxN rfl ti68 rfl rd.left.left.left rfl (by omega)) rfl ?_
          refine RunL.ok (OpOk.fieldAddrA fld68_1 rfl) rfl ?_
          refine RunL.ok (OpOk.loadFl1 default rfl rfl rfl rd.left.left.left (fun _ => rfl) rfl (by omega) rfl) rfl ?_
          refine RunL.call cal30 rfl (s30) rfl (fun vy3 Ay3 hy3 => ?_)
          obtain ⟨rfl, rfl⟩ := hy3
          refine RunL.nil ?_
          refine Run.exit rfl ?_
          refine Run.region ?_
          refine RunL.ok (OpOk.move rfl) rfl ?_
          refine RunL.ok (OpOk.addN _ 1 rfl rfl rfl rfl (by omega)) rfl ?_
          refine RunL.ok (OpOk.assign rfl) rfl ?_
          refine RunL.nil ?_
          have hmx : max (ops.getD i default).2.1 (-1) ≤ 9223372036854775807 := by omega
          refine Run.jump ((ih (i + 1, J, _, max (ops.getD i default).2.1 (-1), bs) ⟨by simp; omega, by simp; omega, by show bs.length ≤ 1048576 * (i + 1); omega, hbs, hmx⟩ (by simp; omega))) ⟨rfl, rfl, rfl, rfl, trivial⟩ ((Grew.refl _))
        refine Run.skip ?_
        refine Run.seq ?_
        refine Run.region ?_
        refine RunL.ok (OpOk.move rfl) rfl ?_
        refine RunL.call cal31 rfl (s31 (by omega)) rfl (fun vy4 Ay4 hy4 => ?_)
        obtain rfl := hy4
        refine RunL.know (fun w s => (s.conv rfl).ownRd0) (fun rdy5 => ?_)
        refine RunL.ok (OpOk.strOf rfl rfl rfl rfl (Rd.right rdy5)) rfl ?_
        refine RunL.ok (OpOk.assign rfl) rfl ?_
        refine RunL.nil ?_
        refine Run.seq ?_
        refine Run.region ?_
        refine RunL.ok (OpOk.assign rfl) rfl ?_
        refine RunL.nil ?_
        refine Run.seq ?_
        refine Run.seq ?_
        refine Run.region ?_
        refine RunL.ok (OpOk.assign rfl) rfl ?_
        refine RunL.nil ?_
        refine Run.block ?_
        refine Run.jump ((Run.loopJ (X := Nat) (fun k => [(10, .int .i64 (k : Int)), (9, S (flatB ((ops.getD i default).2.2.2.take k))), (8, S bs), (7, .int .i64 (i : Int)), (5, .pointer (some ⟨x5, 0, none⟩)), (0, .int .i64 s), (1, u)]) (fun _ => old w0 * J * own 5 1 vy4 bs.length (B bs) * pts x5 (.cells #[.int .i64 (s), .int .i64 (w), v] 100 (0, 0)) * own 5 1 v (bs).length (B (bs))) (fun k => k ≤ (ops.getD i default).2.2.2.length) (fun k => (ops.getD i default).2.2.2.length - k) 0 (Nat.zero_le _) (fun k hk ih2 => ?_))) ⟨rfl, rfl, rfl, rfl, rfl, rfl, rfl, trivial⟩ (Grew.of (frc (frl rfl) (frc (frl rfl) rfl)) (Grew.refl _))
        rcases Nat.lt_or_ge k (ops.getD i default).2.2.2.length with hk1 | hk1
        · have hf := flatB_le (ops.getD i default).2.2.2 k
          have hf2 := flatB_le (ops.getD i default).2.2.2 (k + 1)
          have hft := congrArg List.length (flatB_take hk1)
          rw [List.length_append] at hft
          have rdi : Rd w0 (old w0) ((ops.getD i default).2.2.2.getD k default).1 1 ((ops.getD i default).2.2.2.getD k default).2.length (B ((ops.getD i default).2.2.2.getD k default).2) := al3.get hk1
          have hv := Fl_V (ops.getD i default).2.2.2 k hk1
          refine Run.seq ?_
          refine Run.seq ?_
          refine Run.region ?_
          refine RunL.ok (OpOk.move rfl) rfl ?_
          refine RunL.ok (OpOk.move rfl) rfl ?_
          refine RunL.ok (OpOk.move rfl) rfl ?_
          refine RunL.ok (OpOk.idxN rfl ti68 rfl rd.left.left.left.left rfl (by omega)) rfl ?_
          refine RunL.ok (OpOk.fieldAddrA fld68_2 rfl) rfl ?_
          refine RunL.ok (OpOk.loadFl1 default rfl rfl rfl rd.left.left.left.left (fun _ => rfl) rfl (by omega) rfl) rfl ?_
          refine RunL.ok (OpOk.lenR rfl rfl rd3.left.left.left.left rfl) rfl ?_
          refine RunL.ok (OpOk.asT (OpOk.lss rfl rfl) (by omega)) rfl ?_
          refine RunL.nil ?_
          refine Run.condT rfl ?_
          refine Run.skip ?_
          refine Run.seq ?_
          refine Run.block ?_
          refine Run.region ?_
          refine RunL.ok (OpOk.move rfl) rfl ?_
          refine RunL.ok (OpOk.move rfl) rfl ?_
          refine RunL.ok (OpOk.move rfl) rfl ?_
          refine RunL.ok (OpOk.idxN rfl ti68 rfl rd.left.left.left.left rfl (by omega)) rfl ?_
          refine RunL.ok (OpOk.fieldAddrA fld68_2 rfl) rfl ?_
          refine RunL.ok (OpOk.loadFl1 default rfl rfl rfl rd.left.left.left.left (fun _ => rfl) rfl (by omega) rfl) rfl ?_
          refine RunL.ok (OpOk.move rfl) rfl ?_
          refine RunL.ok (OpOk.idx1N rfl ti37 rfl rd3.left.left.left.left rfl (by omega)) rfl ?_
          refine RunL.ok (OpOk.load rfl rfl rfl (Rd.cell rd3.left.left.left.left (by first | assumption | rfl))) rfl ?_
          refine RunL.ok (OpOk.strOf rfl rfl rfl rfl rdi.left.left.left.left) rfl ?_
          refine RunL.ok (OpOk.addSS rfl rfl (by omega)) rfl ?_
          refine RunL.ok (OpOk.assign rfl) rfl ?_
          refine RunL.nil ?_
          refine Run.inBlock ?_
          refine Run.region ?_
          refine RunL.ok (OpOk.move rfl) rfl ?_
          refine RunL.ok (OpOk.addN _ 1 rfl rfl rfl rfl (by omega)) rfl ?_
          refine RunL.ok (OpOk.assign rfl) rfl ?_
          refine RunL.nil ?_
          rw [← flatB_take hk1]
          refine Run.jump ((ih2 (k + 1) (by omega) (by omega))) ⟨rfl, rfl, rfl, rfl, rfl, rfl, rfl, trivial⟩ ((Grew.refl _))
        · obtain rfl : k = (ops.getD i default).2.2.2.length := by omega
          rw [List.take_length]
          clear ih2
          rcases Int.lt_or_le (s - bs.length) (flatB (ops.getD i default).2.2.2).length with hf | hf
          · have F1 : List.take (bs.length - 0) (List.drop 0 bs) = bs := by simp
            have F5 : List.take (bs.length - bs.length) (List.drop bs.length bs) = [] := by simp
            have F4 : (List.take (bs.length - bs.length) (List.drop bs.length bs)).length = 0 := by rw [F5]; rfl
            have F3 : List.take (bs.length - bs.length) (List.drop bs.length bs) = List.take ((List.take (bs.length - bs.length) (List.drop bs.length bs)).length - 0) (List.drop 0 (flatB (ops.getD i default).2.2.2)) := by rw [F5]; simp
            refine Run.seq ?_
            refine Run.seq ?_
            refine Run.region ?_
            refine RunL.ok (OpOk.move rfl) rfl ?_
            refine RunL.ok (OpOk.move rfl) rfl ?_
            refine RunL.ok (OpOk.move rfl) rfl ?_
            refine RunL.ok (OpOk.idxN rfl ti68 rfl rd.left.left.left.left rfl (by omega)) rfl ?_
            refine RunL.ok (OpOk.fieldAddrA fld68_2 rfl) rfl ?_
            refine RunL.ok (OpOk.loadFl1 default rfl rfl rfl rd.left.left.left.left (fun _ => rfl) rfl (by omega) rfl) rfl ?_
            refine RunL.ok (OpOk.lenR rfl rfl rd3.left.left.left.left rfl) rfl ?_
            refine RunL.ok (OpOk.asF (OpOk.lss rfl rfl) (by omega)) rfl ?_
            refine RunL.nil ?_
            refine Run.condF rfl ?_
            refine Run.exit rfl ?_
            refine Run.seq ?_
            refine Run.region ?_
            refine RunL.ok (OpOk.move rfl) rfl ?_
            refine RunL.ok (OpOk.move rfl) rfl ?_
            refine RunL.ok (OpOk.move rfl) rfl ?_
            refine RunL.ok (OpOk.idxN rfl ti68 rfl rd.left.left.left.left rfl (by omega)) rfl ?_
            refine RunL.ok (OpOk.fieldAddrA fld68_2 rfl) rfl ?_
            refine RunL.ok (OpOk.loadFl1 default rfl rfl rfl rd.left.left.left.left (fun _ => rfl) rfl (by omega) rfl) rfl ?_
            refine RunL.call cal32 rfl (s32a rd3.left.left al3.left.left (by assumption) (by assumption) (by assumption) (by assumption) (by omega)) rfl (fun vz1 Az1 hz1 => ?_)
            obtain ⟨z2, ⟨z3, ⟨rfl, rfl⟩⟩⟩ := hz1
            refine RunL.ok (OpOk.assign rfl) rfl ?_
            refine RunL.nil ?_
            refine Run.seq ?_
            refine Run.region ?_
            refine RunL.ok (OpOk.move rfl) rfl ?_
            refine RunL.call cal31 rfl (s31 (by omega)) rfl (fun vz4 Az4 hz4 => ?_)
            obtain rfl := hz4
            refine RunL.know (fun w s => (s.conv rfl).ownRd0) (fun rdz5 => ?_)
            refine RunL.ok (OpOk.strOf rfl rfl rfl rfl (Rd.right rdz5)) rfl ?_
            refine RunL.ok (OpOk.assign rfl) rfl ?_
            refine RunL.nil ?_
            refine Run.seq ?_
            refine Run.seq ?_
            refine Run.region ?_
            refine RunL.ok (OpOk.move rfl) rfl ?_
            refine RunL.ok (OpOk.lenSS rfl rfl rfl) rfl ?_
            refine RunL.ok (OpOk.move rfl) rfl ?_
            refine RunL.ok (OpOk.lenSS rfl rfl rfl) rfl ?_
            refine RunL.ok (OpOk.asF (OpOk.lss rfl rfl) (by omega)) rfl ?_
            refine RunL.ok (OpOk.move rfl) rfl ?_
            refine RunL.on rfl rfl ?_
            refine RunL.ok (OpOk.move rfl) rfl ?_
            refine RunL.on rfl rfl ?_
            refine RunL.ok (OpOk.move rfl) rfl ?_
            refine RunL.on rfl rfl ?_
            refine RunL.ok (OpOk.lenSS rfl rfl rfl) rfl ?_
            refine RunL.on rfl rfl ?_
            refine RunL.ok (OpOk.cutSS rfl rfl rfl ⟨_, rfl⟩ (by omega) (by omega)) rfl ?_
            refine RunL.on rfl rfl ?_
            refine RunL.ok (OpOk.move rfl) rfl ?_
            refine RunL.on rfl rfl ?_
            refine RunL.ok (OpOk.as (c := false) (OpOk.neqSS rfl rfl) (by rw [decide_eq_true (by omega)]; rfl)) rfl ?_
            refine RunL.ok (OpOk.pickF rfl rfl) rfl ?_
            refine RunL.ok (OpOk.move rfl) rfl ?_
            refine RunL.on rfl rfl ?_
            refine RunL.ok (OpOk.move rfl) rfl ?_
            refine RunL.on rfl rfl ?_
            refine RunL.ok (OpOk.lenSS rfl rfl rfl) rfl ?_
            refine RunL.on rfl rfl ?_
            refine RunL.ok (OpOk.move rfl) rfl ?_
            refine RunL.on rfl rfl ?_
            refine RunL.ok (OpOk.asF (OpOk.gtr rfl rfl) (by omega)) rfl ?_
            refine RunL.ok (OpOk.pickF rfl rfl) rfl ?_
            refine RunL.nil ?_
            refine Run.condF rfl ?_
            refine Run.skip ?_
            refine Run.seq ?_
            refine Run.region ?_
            refine RunL.ok (OpOk.move rfl) rfl ?_
            refine RunL.ok (OpOk.move rfl) rfl ?_
            refine RunL.ok (OpOk.lenSS rfl rfl rfl) rfl ?_
            refine RunL.ok (OpOk.cutSS rfl rfl ⟨_, rfl⟩ rfl (by omega) (by omega)) rfl ?_
            refine RunL.ok (OpOk.assign rfl) rfl ?_
            refine RunL.nil ?_
            refine Run.seq ?_
            refine Run.region ?_
            refine RunL.ok (OpOk.move rfl) rfl ?_
            refine RunL.ok (OpOk.lenSS rfl rfl rfl) rfl ?_
            refine RunL.ok (OpOk.move rfl) rfl ?_
            refine RunL.ok (OpOk.lenSS rfl rfl rfl) rfl ?_
            refine RunL.ok (OpOk.asF (OpOk.gtr rfl rfl) (by omega)) rfl ?_
            refine RunL.ok (OpOk.move rfl) rfl ?_
            refine RunL.on rfl rfl ?_
            refine RunL.ok (OpOk.move rfl) rfl ?_
            refine RunL.on rfl rfl ?_
            refine RunL.ok (OpOk.move rfl) rfl ?_
            refine RunL.on rfl rfl ?_
            refine RunL.ok (OpOk.move rfl) rfl ?_
            refine RunL.on rfl rfl ?_
            refine RunL.ok (OpOk.lenSS rfl rfl rfl) rfl ?_
            refine RunL.on rfl rfl ?_
            refine RunL.ok (OpOk.cutSS rfl rfl rfl ⟨_, rfl⟩ (by omega) (by omega)) rfl ?_
            refine RunL.on rfl rfl ?_
            refine RunL.ok (OpOk.as (c := false) (OpOk.neqSS rfl rfl) (by rw [decide_eq_true (by omega)]; rfl)) rfl ?_
            refine RunL.ok (OpOk.pickF rfl rfl) rfl ?_
            refine RunL.ok (OpOk.move rfl) rfl ?_
            refine RunL.on rfl rfl ?_
            refine RunL.ok (OpOk.move rfl) rfl ?_
            refine RunL.on rfl rfl ?_
            refine RunL.ok (OpOk.asF (OpOk.eql rfl rfl) (by omega)) rfl ?_
            refine RunL.on rfl rfl ?_
            refine RunL.ok (OpOk.move rfl) rfl ?_
            refine RunL.on rfl rfl ?_
            refine RunL.ok (OpOk.lenSS rfl rfl rfl) rfl ?_
            refine RunL.on rfl rfl ?_
            refine RunL.ok (OpOk.move rfl) rfl ?_
            refine RunL.on rfl rfl ?_
            refine RunL.ok (OpOk.lenSS rfl rfl rfl) rfl ?_
            refine RunL.on rfl rfl ?_
            refine RunL.ok (OpOk.asF (OpOk.eql rfl rfl) (by omega)) rfl ?_
            refine RunL.on rfl rfl ?_
            refine RunL.ok (OpOk.neqB rfl rfl rfl) rfl ?_
            refine RunL.on rfl rfl ?_
            refine RunL.ok (OpOk.move rfl) rfl ?_
            refine RunL.off rfl rfl rfl rfl ?_
            refine RunL.off rfl rfl rfl rfl ?_
            refine RunL.on rfl rfl ?_
            refine RunL.ok (OpOk.pickF rfl rfl) rfl ?_
            refine RunL.ok (OpOk.pickF rfl rfl) rfl ?_
            refine RunL.ok (OpOk.move rfl) rfl ?_
            refine RunL.on rfl rfl ?_
            refine RunL.ok (OpOk.move rfl) rfl ?_
            refine RunL.on rfl rfl ?_
            refine RunL.ok (OpOk.asT (OpOk.eql rfl rfl) (by omega)) rfl ?_
            refine RunL.on rfl rfl ?_
            refine RunL.ok (OpOk.move rfl) rfl ?_
            refine RunL.on rfl rfl ?_
            refine RunL.ok (OpOk.move rfl) rfl ?_
            refine RunL.on rfl rfl ?_
            refine RunL.ok (OpOk.as (c := false) (OpOk.neqSS rfl rfl) (by rw [decide_eq_true (by omega)]; rfl)) rfl ?_
            refine RunL.on rfl rfl ?_
            refine RunL.ok (OpOk.pickT rfl rfl) rfl ?_
            refine RunL.ok (OpOk.pickF rfl rfl) rfl ?_
            refine RunL.nil ?_
            refine Run.condF rfl ?_
            refine Run.skip ?_
            refine Run.inBlock ?_
            refine Run.region ?_
            refine RunL.ok (OpOk.move rfl) rfl ?_
            refine RunL.ok (OpOk.addN _ 1 rfl rfl rfl rfl (by omega)) rfl ?_
            refine RunL.ok (OpOk.assign rfl) rfl ?_
            refine RunL.nil ?_
            refine Run.jump ((ih (i + 1, _, _, w, bs) ⟨by simp; omega, by simp; omega, by show bs.length ≤ 1048576 * (i + 1); omega, hbs, hw2⟩ (by simp; omega))) ⟨rfl, rfl, rfl, rfl, trivial⟩ (Grew.of (Eq.trans (frc (frl rfl) (frc (frl rfl) rfl)) (congrArg (· * _) (congrArg (· * _) (asg (asg (asg as1)))))) (Grew.refl _))
          · rcases Int.lt_or_le w 0 with hw | hw
            · obtain ⟨F1, F3, F4, F6⟩ := more_facts (bs := bs) (all := flatB (ops.getD i default).2.2.2) (m := flatB (ops.getD i default).2.2.2) (by simp)
              refine Run.seq ?_
              refine Run.seq ?_
              refine Run.region ?_
              refine RunL.ok (OpOk.move rfl) rfl ?_
              refine RunL.ok (OpOk.move rfl) rfl ?_
              refine RunL.ok (OpOk.move rfl) rfl ?_
              refine RunL.ok (OpOk.idxN rfl ti68 rfl rd.left.left.left.left rfl (by omega)) rfl ?_
              refine RunL.ok (OpOk.fieldAddrA fld68_2 rfl) rfl ?_
              refine RunL.ok (OpOk.loadFl1 default rfl rfl rfl rd.left.left.left.left (fun _ => rfl) rfl (by omega) rfl) rfl ?_
              refine RunL.ok (OpOk.lenR rfl rfl rd3.left.left.left.left rfl) rfl ?_
              refine RunL.ok (OpOk.asF (OpOk.lss rfl rfl) (by omega)) rfl ?_
              refine RunL.nil ?_
              refine Run.condF rfl ?_
              refine Run.exit rfl ?_
              refine Run.seq ?_
              refine Run.region ?_
              refine RunL.ok (OpOk.move rfl) rfl ?_
              refine RunL.ok (OpOk.move rfl) rfl ?_
              refine RunL.ok (OpOk.move rfl) rfl ?_
              refine RunL.ok (OpOk.idxN rfl ti68 rfl rd.left.left.left.left rfl (by omega)) rfl ?_
              refine RunL.ok (OpOk.fieldAddrA fld68_2 rfl) rfl ?_
              refine RunL.ok (OpOk.loadFl1 default rfl rfl rfl rd.left.left.left.left (fun _ => rfl) rfl (by omega) rfl) rfl ?_
              refine RunL.call cal32 rfl (s32b rd3.left.left al3.left.left (by assumption) (by assumption) (by assumption) (by assumption) (by omega)) rfl (fun vz2 Az2 hz2 => ?_)
              obtain ⟨z3, ⟨z4, ⟨rfl, rfl⟩⟩⟩ := hz2
              refine RunL.ok (OpOk.assign rfl) rfl ?_
              refine RunL.nil ?_
              refine Run.seq ?_
              refine Run.region ?_
              refine RunL.ok (OpOk.move rfl) rfl ?_
              refine RunL.call cal31 rfl (s31 (by omega)) rfl (fun vz5 Az5 hz5 => ?_)
              obtain rfl := hz5
              refine RunL.know (fun w s => (s.conv rfl).ownRd0) (fun rdz6 => ?_)
              refine RunL.ok (OpOk.strOf rfl rfl rfl rfl (Rd.right rdz6)) rfl ?_
              refine RunL.ok (OpOk.assign rfl) rfl ?_
              refine RunL.nil ?_
              refine Run.seq ?_
              refine Run.seq ?_
              refine Run.region ?_
              refine RunL.ok (OpOk.move rfl) rfl ?_
              refine RunL.ok (OpOk.lenSS rfl rfl rfl) rfl ?_
              refine RunL.ok (OpOk.move rfl) rfl ?_
              refine RunL.ok (OpOk.lenSS rfl rfl rfl) rfl ?_
              refine RunL.ok (OpOk.asF (OpOk.lss rfl rfl) (by omega)) rfl ?_
              refine RunL.ok (OpOk.move rfl) rfl ?_
              refine RunL.on rfl rfl ?_
              refine RunL.ok (OpOk.move rfl) rfl ?_
              refine RunL.on rfl rfl ?_
              refine RunL.ok (OpOk.move rfl) rfl ?_
              refine RunL.on rfl rfl ?_
              refine RunL.ok (OpOk.lenSS rfl rfl rfl) rfl ?_
              refine RunL.on rfl rfl ?_
              refine RunL.ok (OpOk.cutSS rfl rfl rfl ⟨_, rfl⟩ (by omega) (by omega)) rfl ?_
              refine RunL.on rfl rfl ?_
              refine RunL.ok (OpOk.move rfl) rfl ?_
              refine RunL.on rfl rfl ?_
              refine RunL.ok (OpOk.as (c := false) (OpOk.neqSS rfl rfl) (by rw [decide_eq_true (by omega)]; rfl)) rfl ?_
              refine RunL.ok (OpOk.pickF rfl rfl) rfl ?_
              refine RunL.ok (OpOk.move rfl) rfl ?_
              refine RunL.on rfl rfl ?_
              refine RunL.ok (OpOk.move rfl) rfl ?_
              refine RunL.on rfl rfl ?_
              refine RunL.ok (OpOk.lenSS rfl rfl rfl) rfl ?_
              refine RunL.on rfl rfl ?_
              refine RunL.ok (OpOk.move rfl) rfl ?_
              refine RunL.on rfl rfl ?_
              refine RunL.ok (OpOk.asF (OpOk.gtr rfl rfl) (by omega)) rfl ?_
              refine RunL.ok (OpOk.pickF rfl rfl) rfl ?_
              refine RunL.nil ?_
              refine Run.condF rfl ?_
              refine Run.skip ?_
              refine Run.seq ?_
              refine Run.region ?_
              refine RunL.ok (OpOk.move rfl) rfl ?_
              refine RunL.ok (OpOk.move rfl) rfl ?_
              refine RunL.ok (OpOk.lenSS rfl rfl rfl) rfl ?_
              refine RunL.ok (OpOk.cutSS rfl rfl ⟨_, rfl⟩ rfl (by omega) (by omega)) rfl ?_
              refine RunL.ok (OpOk.assign rfl) rfl ?_
              refine RunL.nil ?_
              refine Run.seq ?_
              refine Run.region ?_
              refine RunL.ok (OpOk.move rfl) rfl ?_
              refine RunL.ok (OpOk.lenSS rfl rfl rfl) rfl ?_
              refine RunL.ok (OpOk.move rfl) rfl ?_
              refine RunL.ok (OpOk.lenSS rfl rfl rfl) rfl ?_
              refine RunL.ok (OpOk.asF (OpOk.gtr rfl rfl) (by omega)) rfl ?_
              refine RunL.ok (OpOk.move rfl) rfl ?_
              refine RunL.on rfl rfl ?_
              refine RunL.ok (OpOk.move rfl) rfl ?_
              refine RunL.on rfl rfl ?_
              refine RunL.ok (OpOk.move rfl) rfl ?_
              refine RunL.on rfl rfl ?_
              refine RunL.ok (OpOk.move rfl) rfl ?_
              refine RunL.on rfl rfl ?_
              refine RunL.ok (OpOk.lenSS rfl rfl rfl) rfl ?_
              refine RunL.on rfl rfl ?_
              refine RunL.ok (OpOk.cutSS rfl rfl rfl ⟨_, rfl⟩ (by omega) (by omega)) rfl ?_
              refine RunL.on rfl rfl ?_
              refine RunL.ok (OpOk.as (c := false) (OpOk.neqSS rfl rfl) (by rw [decide_eq_true (by omega)]; rfl)) rfl ?_
              refine RunL.ok (OpOk.pickF rfl rfl) rfl ?_
              refine RunL.ok (OpOk.move rfl) rfl ?_
              refine RunL.on rfl rfl ?_
              refine RunL.ok (OpOk.move rfl) rfl ?_
              refine RunL.on rfl rfl ?_
              refine RunL.ok (OpOk.asT (OpOk.eql rfl rfl) (by omega)) rfl ?_
              refine RunL.on rfl rfl ?_
              refine RunL.ok (OpOk.move rfl) rfl ?_
              refine RunL.on rfl rfl ?_
              refine RunL.ok (OpOk.lenSS rfl rfl rfl) rfl ?_
              refine RunL.on rfl rfl ?_
              refine RunL.ok (OpOk.move rfl) rfl ?_
              refine RunL.on rfl rfl ?_
              refine RunL.ok (OpOk.lenSS rfl rfl rfl) rfl ?_
              refine RunL.on rfl rfl ?_
              refine RunL.ok (OpOk.asT (OpOk.eql rfl rfl) (by omega)) rfl ?_
              refine RunL.on rfl rfl ?_
              refine RunL.ok (OpOk.neqB rfl rfl rfl) rfl ?_
              refine RunL.on rfl rfl ?_
              refine RunL.ok (OpOk.move rfl) rfl ?_
              refine RunL.off rfl rfl rfl rfl ?_
              refine RunL.off rfl rfl rfl rfl ?_
              refine RunL.on rfl rfl ?_
              refine RunL.ok (OpOk.pickF rfl rfl) rfl ?_
              refine RunL.ok (OpOk.pickF rfl rfl) rfl ?_
              refine RunL.ok (OpOk.move rfl) rfl ?_
              refine RunL.on rfl rfl ?_
              refine RunL.ok (OpOk.move rfl) rfl ?_
              refine RunL.on rfl rfl ?_
              refine RunL.ok (OpOk.asF (OpOk.eql rfl rfl) (by omega)) rfl ?_
              refine RunL.on rfl rfl ?_
              refine RunL.ok (OpOk.move rfl) rfl ?_
              refine RunL.off rfl rfl rfl rfl ?_
              refine RunL.off rfl rfl rfl rfl ?_
              refine RunL.on rfl rfl ?_
              refine RunL.ok (OpOk.pickF rfl rfl) rfl ?_
              refine RunL.ok (OpOk.pickF rfl rfl) rfl ?_
              refine RunL.nil ?_
              refine Run.condF rfl ?_
              refine Run.skip ?_
              refine Run.inBlock ?_
              refine Run.region ?_
              refine RunL.ok (OpOk.move rfl) rfl ?_
              refine RunL.ok (OpOk.addN _ 1 rfl rfl rfl rfl (by omega)) rfl ?_
              refine RunL.ok (OpOk.assign rfl) rfl ?_
              refine RunL.nil ?_
              refine Run.jump ((ih (i + 1, _, _, w, _) ⟨by simp; omega, by simp; omega, by show (bs ++ flatB (ops.getD i default).2.2.2).length ≤ 1048576 * (i + 1); omega, by show ((bs ++ flatB (ops.getD i default).2.2.2).length : Int) ≤ s; omega, hw2⟩ (by simp; omega))) ⟨rfl, rfl, rfl, rfl, trivial⟩ (Grew.of (Eq.trans (frc (frl rfl) (frc (frl rfl) rfl)) (congrArg (· * _) (congrArg (· * _) (asg (asg (asg as1)))))) (Grew.refl _))
            · rcases Int.lt_or_le w (flatB (ops.getD i default).2.2.2).length with hn | hn
              · have hl : ((flatB (ops.getD i default).2.2.2).take w.toNat).length = w.toNat := by rw [List.length_take]; omega
                obtain ⟨F1, F3, F4, F6⟩ := more_facts (bs := bs) (all := flatB (ops.getD i default).2.2.2) (m := (flatB (ops.getD i default).2.2.2).take w.toNat) (by rw [hl])
                refine Run.seq ?_
                refine Run.seq ?_
                refine Run.region ?_
                refine RunL.ok (OpOk.move rfl) rfl ?_
                refine RunL.ok (OpOk.move rfl) rfl ?_
                refine RunL.ok (OpOk.move rfl) rfl ?_
                refine RunL.ok (OpOk.idxN rfl ti68 rfl rd.left.left.left.left rfl (by omega)) rfl ?_
                refine RunL.ok (OpOk.fieldAddrA fld68_2 rfl) rfl ?_
                refine RunL.ok (OpOk.loadFl1 default rfl rfl rfl rd.left.left.left.left (fun _ => rfl) rfl (by omega) rfl) rfl ?_
                refine RunL.ok (OpOk.lenR rfl rfl rd3.left.left.left.left rfl) rfl ?_
                refine RunL.ok (OpOk.asF (OpOk.lss rfl rfl) (by omega)) rfl ?_
                refine RunL.nil ?_
                refine Run.condF rfl ?_
                refine Run.exit rfl ?_
                refine Run.seq ?_
                refine Run.region ?_
                refine RunL.ok (OpOk.move rfl) rfl ?_
                refine RunL.ok (OpOk.move rfl) rfl ?_
                refine RunL.ok (OpOk.move rfl) rfl ?_
                refine RunL.ok (OpOk.idxN rfl ti68 rfl rd.left.left.left.left rfl (by omega)) rfl ?_
                refine RunL.ok (OpOk.fieldAddrA fld68_2 rfl) rfl ?_
                refine RunL.ok (OpOk.loadFl1 default rfl rfl rfl rd.left.left.left.left (fun _ => rfl) rfl (by omega) rfl) rfl ?_
                refine RunL.call cal32 rfl (s32d rd3.left.left al3.left.left (by assumption) (by assumption) (by assumption) (by assumption) (by assumption) (by omega)) rfl (fun vz4 Az4 hz4 => ?_)
                obtain ⟨z5, ⟨z6, ⟨rfl, rfl⟩⟩⟩ := hz4
                refine RunL.ok (OpOk.assign rfl) rfl ?_
                refine RunL.nil ?_
                refine Run.seq ?_
                refine Run.region ?_
                refine RunL.ok (OpOk.move rfl) rfl ?_
                refine RunL.call cal31 rfl (s31 (by omega)) rfl (fun vz7 Az7 hz7 => ?_)
                obtain rfl := hz7
                refine RunL.know (fun w s => (s.conv rfl).ownRd0) (fun rdz8 => ?_)
                refine RunL.ok (OpOk.strOf rfl rfl rfl rfl (Rd.right rdz8)) rfl ?_
                refine RunL.ok (OpOk.assign rfl) rfl ?_
                refine RunL.nil ?_
                refine Run.seq ?_
                refine Run.seq ?_
                refine Run.region ?_
                refine RunL.ok (OpOk.move rfl) rfl ?_
                refine RunL.ok (OpOk.lenSS rfl rfl rfl) rfl ?_
                refine RunL.ok (OpOk.move rfl) rfl ?_
                refine RunL.ok (OpOk.lenSS rfl rfl rfl) rfl ?_
                refine RunL.ok (OpOk.asF (OpOk.lss rfl rfl) (by omega)) rfl ?_
                refine RunL.ok (OpOk.move rfl) rfl ?_
                refine RunL.on rfl rfl ?_
                refine RunL.ok (OpOk.move rfl) rfl ?_
                refine RunL.on rfl rfl ?_
                refine RunL.ok (OpOk.move rfl) rfl ?_
                refine RunL.on rfl rfl ?_
                refine RunL.ok (OpOk.lenSS rfl rfl rfl) rfl ?_
                refine RunL.on rfl rfl ?_
                refine RunL.ok (OpOk.cutSS rfl rfl rfl ⟨_, rfl⟩ (by omega) (by omega)) rfl ?_
                refine RunL.on rfl rfl ?_
                refine RunL.ok (OpOk.move rfl) rfl ?_
                refine RunL.on rfl rfl ?_
                refine RunL.ok (OpOk.as (c := false) (OpOk.neqSS rfl rfl) (by rw [decide_eq_true (by omega)]; rfl)) rfl ?_
                refine RunL.ok (OpOk.pickF rfl rfl) rfl ?_
                refine RunL.ok (OpOk.move rfl) rfl ?_
                refine RunL.on rfl rfl ?_
                refine RunL.ok (OpOk.move rfl) rfl ?_
                refine RunL.on rfl rfl ?_
                refine RunL.ok (OpOk.lenSS rfl rfl rfl) rfl ?_
                refine RunL.on rfl rfl ?_
                refine RunL.ok (OpOk.move rfl) rfl ?_
                refine RunL.on rfl rfl ?_
                refine RunL.ok (OpOk.asF (OpOk.gtr rfl rfl) (by omega)) rfl ?_
                refine RunL.ok (OpOk.pickF rfl rfl) rfl ?_
                refine RunL.nil ?_
                refine Run.condF rfl ?_
                refine Run.skip ?_
                refine Run.seq ?_
                refine Run.region ?_
                refine RunL.ok (OpOk.move rfl) rfl ?_
                refine RunL.ok (OpOk.move rfl) rfl ?_
                refine RunL.ok (OpOk.lenSS rfl rfl rfl) rfl ?_
                refine RunL.ok (OpOk.cutSS rfl rfl ⟨_, rfl⟩ rfl (by omega) (by omega)) rfl ?_
                refine RunL.ok (OpOk.assign rfl) rfl ?_
                refine RunL.nil ?_
                refine Run.seq ?_
                refine Run.region ?_
                refine RunL.ok (OpOk.move rfl) rfl ?_
                refine RunL.ok (OpOk.lenSS rfl rfl rfl) rfl ?_
                refine RunL.ok (OpOk.move rfl) rfl ?_
                refine RunL.ok (OpOk.lenSS rfl rfl rfl) rfl ?_
                refine RunL.ok (OpOk.asF (OpOk.gtr rfl rfl) (by omega)) rfl ?_
                refine RunL.ok (OpOk.move rfl) rfl ?_
                refine RunL.on rfl rfl ?_
                refine RunL.ok (OpOk.move rfl) rfl ?_
                refine RunL.on rfl rfl ?_
                refine RunL.ok (OpOk.move rfl) rfl ?_
                refine RunL.on rfl rfl ?_
                refine RunL.ok (OpOk.move rfl) rfl ?_
                refine RunL.on rfl rfl ?_
                refine RunL.ok (OpOk.lenSS rfl rfl rfl) rfl ?_
                refine RunL.on rfl rfl ?_
                refine RunL.ok (OpOk.cutSS rfl rfl rfl ⟨_, rfl⟩ (by omega) (by omega)) rfl ?_
                refine RunL.on rfl rfl ?_
                refine RunL.ok (OpOk.as (c := false) (OpOk.neqSS rfl rfl) (by rw [decide_eq_true (by omega)]; rfl)) rfl ?_
                refine RunL.ok (OpOk.pickF rfl rfl) rfl ?_
                refine RunL.ok (OpOk.move rfl) rfl ?_
                refine RunL.on rfl rfl ?_
                refine RunL.ok (OpOk.move rfl) rfl ?_
                refine RunL.on rfl rfl ?_
                refine RunL.ok (OpOk.asF (OpOk.eql rfl rfl) (by omega)) rfl ?_
                refine RunL.on rfl rfl ?_
                refine RunL.ok (OpOk.move rfl) rfl ?_
                refine RunL.on rfl rfl ?_
                refine RunL.ok (OpOk.lenSS rfl rfl rfl) rfl ?_
                refine RunL.on rfl rfl ?_
                refine RunL.ok (OpOk.move rfl) rfl ?_
                refine RunL.on rfl rfl ?_
                refine RunL.ok (OpOk.lenSS rfl rfl rfl) rfl ?_
                refine RunL.on rfl rfl ?_
                refine RunL.ok (OpOk.asF (OpOk.eql rfl rfl) (by omega)) rfl ?_
                refine RunL.on rfl rfl ?_
                refine RunL.ok (OpOk.neqB rfl rfl rfl) rfl ?_
                refine RunL.on rfl rfl ?_
                refine RunL.ok (OpOk.move rfl) rfl ?_
                refine RunL.off rfl rfl rfl rfl ?_
                refine RunL.off rfl rfl rfl rfl ?_
                refine RunL.on rfl rfl ?_
                refine RunL.ok (OpOk.pickF rfl rfl) rfl ?_
                refine RunL.ok (OpOk.pickF rfl rfl) rfl ?_
                refine RunL.ok (OpOk.move rfl) rfl ?_
                refine RunL.on rfl rfl ?_
                refine RunL.ok (OpOk.move rfl) rfl ?_
                refine RunL.on rfl rfl ?_
                refine RunL.ok (OpOk.asF (OpOk.eql rfl rfl) (by omega)) rfl ?_
                refine RunL.on rfl rfl ?_
                refine RunL.ok (OpOk.move rfl) rfl ?_
                refine RunL.off rfl rfl rfl rfl ?_
                refine RunL.off rfl rfl rfl rfl ?_
                refine RunL.on rfl rfl ?_
                refine RunL.ok (OpOk.pickF rfl rfl) rfl ?_
                refine RunL.ok (OpOk.pickF rfl rfl) rfl ?_
                refine RunL.nil ?_
                refine Run.condF rfl ?_
                refine Run.skip ?_
                refine Run.inBlock ?_
                refine Run.region ?_
                refine RunL.ok (OpOk.move rfl) rfl ?_
                refine RunL.ok (OpOk.addN _ 1 rfl rfl rfl rfl (by omega)) rfl ?_
                refine RunL.ok (OpOk.assign rfl) rfl ?_
                refine RunL.nil ?_
                refine Run.jump ((ih (i + 1, _, _, 0, _) ⟨by simp; omega, by simp; omega, by show (bs ++ (flatB (ops.getD i default).2.2.2).take w.toNat).length ≤ 1048576 * (i + 1); omega, by show ((bs ++ (flatB (ops.getD i default).2.2.2).take w.toNat).length : Int) ≤ s; omega, by show (0 : Int) ≤ _; omega⟩ (by simp; omega))) ⟨rfl, rfl, rfl, rfl, trivial⟩ (Grew.of (Eq.trans (frc (frl rfl) (frc (frl rfl) rfl)) (congrArg (· * _) (congrArg (· * _) (asg (asg (asg as1)))))) (Grew.refl _))
              · obtain ⟨F1, F3, F4, F6⟩ := more_facts (bs := bs) (all := flatB (ops.getD i default).2.2.2) (m := flatB (ops.getD i default).2.2.2) (by simp)
                refine Run.seq ?_
                refine Run.seq ?_
                refine Run.region ?_
                refine RunL.ok (OpOk.move rfl) rfl ?_
                refine RunL.ok (OpOk.move rfl) rfl ?_
                refine RunL.ok (OpOk.move rfl) rfl ?_
                refine RunL.ok (OpOk.idxN rfl ti68 rfl rd.left.left.left.left rfl (by omega)) rfl ?_
                refine RunL.ok (OpOk.fieldAddrA fld68_2 rfl) rfl ?_
                refine RunL.ok (OpOk.loadFl1 default rfl rfl rfl rd.left.left.left.left (fun _ => rfl) rfl (by omega) rfl) rfl ?_
                refine RunL.ok (OpOk.lenR rfl rfl rd3.left.left.left.left rfl) rfl ?_
                refine RunL.ok (OpOk.asF (OpOk.lss rfl rfl) (by omega)) rfl ?_
                refine RunL.nil ?_
                refine Run.condF rfl ?_
                refine Run.exit rfl ?_
                refine Run.seq ?_
                refine Run.region ?_
                refine RunL.ok (OpOk.move rfl) rfl ?_
                refine RunL.ok (OpOk.move rfl) rfl ?_
                refine RunL.ok (OpOk.move rfl) rfl ?_
                refine RunL.ok (OpOk.idxN rfl ti68 rfl rd.left.left.left.left rfl (by omega)) rfl ?_
                refine RunL.ok (OpOk.fieldAddrA fld68_2 rfl) rfl ?_
                refine RunL.ok (OpOk.loadFl1 default rfl rfl rfl rd.left.left.left.left (fun _ => rfl) rfl (by omega) rfl) rfl ?_
                refine RunL.call cal32 rfl (s32c rd3.left.left al3.left.left (by assumption) (by assumption) (by assumption) (by assumption) (by assumption) (by assumption) (by omega)) rfl (fun vz3 Az3 hz3 => ?_)
                obtain ⟨z4, ⟨z5, ⟨rfl, rfl⟩⟩⟩ := hz3
                refine RunL.ok (OpOk.assign rfl) rfl ?_
                refine RunL.nil ?_
                refine Run.seq ?_
                refine Run.region ?_
                refine RunL.ok (OpOk.move rfl) rfl ?_
                refine RunL.call cal31 rfl (s31 (by omega)) rfl (fun vz6 Az6 hz6 => ?_)
                obtain rfl := hz6
                refine RunL.know (fun w s => (s.conv rfl).ownRd0) (fun rdz7 => ?_)
                refine RunL.ok (OpOk.strOf rfl rfl rfl rfl (Rd.right rdz7)) rfl ?_
                refine RunL.ok (OpOk.assign rfl) rfl ?_
                refine RunL.nil ?_
                refine Run.seq ?_
                refine Run.seq ?_
                refine Run.region ?_
                refine RunL.ok (OpOk.move rfl) rfl ?_
                refine RunL.ok (OpOk.lenSS rfl rfl rfl) rfl ?_
                refine RunL.ok (OpOk.move rfl) rfl ?_
                refine RunL.ok (OpOk.lenSS rfl rfl rfl) rfl ?_
                refine RunL.ok (OpOk.asF (OpOk.lss rfl rfl) (by omega)) rfl ?_
                refine RunL.ok (OpOk.move rfl) rfl ?_
                refine RunL.on rfl rfl ?_
                refine RunL.ok (OpOk.move rfl) rfl ?_
                refine RunL.on rfl rfl ?_
                refine RunL.ok (OpOk.move rfl) rfl ?_
                refine RunL.on rfl rfl ?_
                refine RunL.ok (OpOk.lenSS rfl rfl rfl) rfl ?_
                refine RunL.on rfl rfl ?_
                refine RunL.ok (OpOk.cutSS rfl rfl rfl ⟨_, rfl⟩ (by omega) (by omega)) rfl ?_
                refine RunL.on rfl rfl ?_
                refine RunL.ok (OpOk.move rfl) rfl ?_
                refine RunL.on rfl rfl ?_
                refine RunL.ok (OpOk.as (c := false) (OpOk.neqSS rfl rfl) (by rw [decide_eq_true (by omega)]; rfl)) rfl ?_
                refine RunL.ok (OpOk.pickF rfl rfl) rfl ?_
                refine RunL.ok (OpOk.move rfl) rfl ?_
                refine RunL.on rfl rfl ?_
                refine RunL.ok (OpOk.move rfl) rfl ?_
                refine RunL.on rfl rfl ?_
                refine RunL.ok (OpOk.lenSS rfl rfl rfl) rfl ?_
                refine RunL.on rfl rfl ?_
                refine RunL.ok (OpOk.move rfl) rfl ?_
                refine RunL.on rfl rfl ?_
                refine RunL.ok (OpOk.asF (OpOk.gtr rfl rfl) (by omega)) rfl ?_
                refine RunL.ok (OpOk.pickF rfl rfl) rfl ?_
                refine RunL.nil ?_
                refine Run.condF rfl ?_
                refine Run.skip ?_
                refine Run.seq ?_
                refine Run.region ?_
                refine RunL.ok (OpOk.move rfl) rfl ?_
                refine RunL.ok (OpOk.move rfl) rfl ?_
                refine RunL.ok (OpOk.lenSS rfl rfl rfl) rfl ?_
                refine RunL.ok (OpOk.cutSS rfl rfl ⟨_, rfl⟩ rfl (by omega) (by omega)) rfl ?_
                refine RunL.ok (OpOk.assign rfl) rfl ?_
                refine RunL.nil ?_
                refine Run.seq ?_
                refine Run.region ?_
                refine RunL.ok (OpOk.move rfl) rfl ?_
                refine RunL.ok (OpOk.lenSS rfl rfl rfl) rfl ?_
                refine RunL.ok (OpOk.move rfl) rfl ?_
                refine RunL.ok (OpOk.lenSS rfl rfl rfl) rfl ?_
                refine RunL.ok (OpOk.asF (OpOk.gtr rfl rfl) (by omega)) rfl ?_
                refine RunL.ok (OpOk.move rfl) rfl ?_
                refine RunL.on rfl rfl ?_
                refine RunL.ok (OpOk.move rfl) rfl ?_
                refine RunL.on rfl rfl ?_
                refine RunL.ok (OpOk.move rfl) rfl ?_
                refine RunL.on rfl rfl ?_
                refine RunL.ok (OpOk.move rfl) rfl ?_
                refine RunL.on rfl rfl ?_
                refine RunL.ok (OpOk.lenSS rfl rfl rfl) rfl ?_
                refine RunL.on rfl rfl ?_
                refine RunL.ok (OpOk.cutSS rfl rfl rfl ⟨_, rfl⟩ (by omega) (by omega)) rfl ?_
                refine RunL.on rfl rfl ?_
                refine RunL.ok (OpOk.as (c := false) (OpOk.neqSS rfl rfl) (by rw [decide_eq_true (by omega)]; rfl)) rfl ?_
                refine RunL.ok (OpOk.pickF rfl rfl) rfl ?_
                refine RunL.ok (OpOk.move rfl) rfl ?_
                refine RunL.on rfl rfl ?_
                refine RunL.ok (OpOk.move rfl) rfl ?_
                refine RunL.on rfl rfl ?_
                refine RunL.ok (OpOk.asT (OpOk.eql rfl rfl) (by omega)) rfl ?_
                refine RunL.on rfl rfl ?_
                refine RunL.ok (OpOk.move rfl) rfl ?_
                refine RunL.on rfl rfl ?_
                refine RunL.ok (OpOk.lenSS rfl rfl rfl) rfl ?_
                refine RunL.on rfl rfl ?_
                refine RunL.ok (OpOk.move rfl) rfl ?_
                refine RunL.on rfl rfl ?_
                refine RunL.ok (OpOk.lenSS rfl rfl rfl) rfl ?_
                refine RunL.on rfl rfl ?_
                refine RunL.ok (OpOk.asT (OpOk.eql rfl rfl) (by omega)) rfl ?_
                refine RunL.on rfl rfl ?_
                refine RunL.ok (OpOk.neqB rfl rfl rfl) rfl ?_
                refine RunL.on rfl rfl ?_
                refine RunL.ok (OpOk.move rfl) rfl ?_
                refine RunL.off rfl rfl rfl rfl ?_
                refine RunL.off rfl rfl rfl rfl ?_
                refine RunL.on rfl rfl ?_
                refine RunL.ok (OpOk.pickF rfl rfl) rfl ?_
                refine RunL.ok (OpOk.pickF rfl rfl) rfl ?_
                refine RunL.ok (OpOk.move rfl) rfl ?_
                refine RunL.on rfl rfl ?_
                refine RunL.ok (OpOk.move rfl) rfl ?_
                refine RunL.on rfl rfl ?_
                refine RunL.ok (OpOk.asF (OpOk.eql rfl rfl) (by omega)) rfl ?_
                refine RunL.on rfl rfl ?_
                refine RunL.ok (OpOk.move rfl) rfl ?_
                refine RunL.off rfl rfl rfl rfl ?_
                refine RunL.off rfl rfl rfl rfl ?_
                refine RunL.on rfl rfl ?_
                refine RunL.ok (OpOk.pickF rfl rfl) rfl ?_
                refine RunL.ok (OpOk.pickF rfl rfl) rfl ?_
                refine RunL.nil ?_
                refine Run.condF rfl ?_
                refine Run.skip ?_
                refine Run.inBlock ?_
                refine Run.region ?_
                refine RunL.ok (OpOk.move rfl) rfl ?_
                refine RunL.ok (OpOk.addN _ 1 rfl rfl rfl rfl (by omega)) rfl ?_
                refine RunL.ok (OpOk.assign rfl) rfl ?_
                refine RunL.nil ?_
                refine Run.jump ((ih (i + 1, _, _, w - ((flatB (ops.getD i default).2.2.2).length : Int), _) ⟨by simp; omega, by simp; omega, by show (bs ++ flatB (ops.getD i default).2.2.2).length ≤ 1048576 * (i + 1); omega, by show ((bs ++ flatB (ops.getD i default).2.2.2).length : Int) ≤ s; omega, by show w - ((flatB (ops.getD i default).2.2.2).length : Int) ≤ _; omega⟩ (by simp; omega))) ⟨rfl, rfl, rfl, rfl, trivial⟩ (Grew.of (Eq.trans (frc (frl rfl) (frc (frl rfl) rfl)) (congrArg (· * _) (congrArg (· * _) (asg (asg (asg as1)))))) (Grew.refl _))
      refine Run.exit rfl ?_
      refine Run.seq ?_
      refine Run.region ?_
      refine RunL.ok (OpOk.assign rfl) rfl ?_
      refine RunL.nil ?_
      refine Run.ret1 Try.func8 rfl rfl ?_
      exact ⟨rfl, ⟨_, (asg (asg as1))⟩⟩
    · obtain rfl : i = ops.length := by omega
      clear ih
      refine Run.seq ?_
      refine Run.seq ?_
      refine Run.region ?_
      refine RunL.ok (OpOk.move rfl) rfl ?_
      refine RunL.ok (OpOk.move rfl) rfl ?_
      refine RunL.ok (OpOk.lenR rfl rfl rd.left.left.left rfl) rfl ?_
      refine RunL.ok (OpOk.asF (OpOk.lss rfl rfl) (by omega)) rfl ?_
      refine RunL.ok (OpOk.move rfl) rfl ?_
      refine RunL.off rfl rfl rfl rfl ?_
      refine RunL.off rfl rfl rfl rfl ?_
      refine RunL.ok (OpOk.pickF rfl rfl) rfl ?_
      refine RunL.nil ?_
      refine Run.condF rfl ?_
      refine Run.exit rfl ?_
      refine Run.seq ?_
      refine Run.region ?_
      refine RunL.ok (OpOk.assign rfl) rfl ?_
      refine RunL.nil ?_
      refine Run.ret1 Try.func8 rfl rfl ?_
      exact ⟨rfl, ⟨_, (asg (asg as1))⟩⟩
end Go.Proofs.Ytlmehpjcmdipmaa
