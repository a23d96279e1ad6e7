/- The law of files' scripts, walked. -/
import Derived.Test.YtlmehpjcmdipmaaFiC
namespace Go.Proofs.Ytlmehpjcmdipmaa
open Go Go.Proofs
set_option maxRecDepth 100000
set_option maxHeartbeats 4000000
theorem flatB_map {a b : List (Value × List UInt8)} (h : a.map Prod.snd = b.map Prod.snd) : flatB a = flatB b := by
  have e : ∀ l : List (Value × List UInt8), flatB l = (l.map Prod.snd).flatten := fun l => by simp [flatB, List.flatMap]
  rw [e, e, h]
theorem snd_at {a b : List (Value × List UInt8)} (h : a.map Prod.snd = b.map Prod.snd) (k : Nat) : (a.getD k default).2 = (b.getD k default).2 := by
  have e : ∀ l : List (Value × List UInt8), (l.getD k default).2 = (l.map Prod.snd).getD k default := fun l => by
    simp only [List.getD_eq_getElem?_getD, List.getElem?_map]
    cases l[k]? <;> rfl
  rw [e, e, h]
theorem filePlays_spec {w0 : World} {s : Int} {u : Value} {ops : List FOp} (rd : Rd w0 (old w0) u 3 ops.length (Fl encO ops)) (hok : ∀ o ∈ ops, FOk w0 o) (hs2 : s ≤ 9223372036854775807) :
    Spec Try.prog w0 10 [.int .i64 s, u] (old w0) (fun v' A' => v' = .bool true ∧ Grew (old w0) A') := by
  have hmax := rd.max
  refine Spec.of_run [(0, .int .i64 s), (1, u)] Try.func10 rfl (Nat.le_of_ble_eq_true rfl) (by repeat (first | exact trivial | refine ⟨rfl, ?_⟩)) ?_
  rcases Int.lt_or_le s 0 with hs | hs
  · refine Run.seq ?_
    refine Run.region ?_
    refine RunL.ok (OpOk.assign rfl) rfl ?_
    refine RunL.nil ?_
    refine Run.seq ?_
    refine Run.seq ?_
    refine Run.region ?_
    refine RunL.call cal28 rfl (s28) rfl (fun vx1 Ax1 hx1 => ?_)
    obtain ⟨x2, ⟨rfl, rfl⟩⟩ := hx1
    refine RunL.ok (OpOk.not rfl) rfl ?_
    refine RunL.nil ?_
    refine Run.condF rfl ?_
    refine Run.skip ?_
    refine Run.seq ?_
    refine Run.region ?_
    refine RunL.ok (OpOk.move rfl) rfl ?_
    refine RunL.call cal29 rfl (s29a (by assumption)) rfl (fun vx3 Ax3 hx3 => ?_)
    obtain ⟨rfl, rfl⟩ := hx3
    refine RunL.ok (OpOk.move rfl) rfl ?_
    refine RunL.ok (OpOk.ext20 rfl) rfl ?_
    refine RunL.ok (OpOk.ext21 rfl) rfl ?_
    refine RunL.ok (OpOk.assign rfl) rfl ?_
    refine RunL.ok (OpOk.assign rfl) rfl ?_
    refine RunL.nil ?_
    refine Run.seq ?_
    refine Run.seq ?_
    refine Run.region ?_
    refine RunL.ok (OpOk.move rfl) rfl ?_
    refine RunL.ok (OpOk.asT (OpOk.lss rfl rfl) (by omega)) rfl ?_
    refine RunL.nil ?_
    refine Run.condT rfl ?_
    refine Run.seq ?_
    refine Run.region ?_
    refine RunL.ok (OpOk.move rfl) rfl ?_
    refine RunL.ok (OpOk.eqlPN rfl rfl) rfl ?_
    refine RunL.ok (OpOk.move rfl) rfl ?_
    refine RunL.on rfl rfl ?_
    refine RunL.ok (OpOk.move rfl) rfl ?_
    refine RunL.on rfl rfl ?_
    refine RunL.ok (OpOk.asT (OpOk.eql rfl rfl) (by omega)) rfl ?_
    refine RunL.ok (OpOk.pickT rfl rfl) rfl ?_
    refine RunL.ok (OpOk.assign rfl) rfl ?_
    refine RunL.nil ?_
    refine Run.ret1 Try.func10 rfl rfl ?_
    exact ⟨rfl, ⟨_, as1⟩⟩
  · refine Run.seq ?_
    refine Run.region ?_
    refine RunL.ok (OpOk.assign rfl) rfl ?_
    refine RunL.nil ?_
    refine Run.seq ?_
    refine Run.seq ?_
    refine Run.region ?_
    refine RunL.call cal28 rfl (s28) rfl (fun vx1 Ax1 hx1 => ?_)
    obtain ⟨x2, ⟨rfl, rfl⟩⟩ := hx1
    refine RunL.ok (OpOk.not rfl) rfl ?_
    refine RunL.nil ?_
    refine Run.condF rfl ?_
    refine Run.skip ?_
    refine Run.seq ?_
    refine Run.region ?_
    refine RunL.ok (OpOk.move rfl) rfl ?_
    refine RunL.call cal29 rfl (s29b (by assumption)) rfl (fun vx4 Ax4 hx4 => ?_)
    obtain ⟨x5, ⟨x6, ⟨rfl, rfl⟩⟩⟩ := hx4
    refine RunL.ok (OpOk.move rfl) rfl ?_
    refine RunL.ok (OpOk.ext20 rfl) rfl ?_
    refine RunL.ok (OpOk.ext21 rfl) rfl ?_
    refine RunL.ok (OpOk.assign rfl) rfl ?_
    refine RunL.ok (OpOk.assign rfl) rfl ?_
    refine RunL.nil ?_
    refine Run.seq ?_
    refine Run.seq ?_
    refine Run.region ?_
    refine RunL.ok (OpOk.move rfl) rfl ?_
    refine RunL.ok (OpOk.asF (OpOk.lss rfl rfl) (by omega)) rfl ?_
    refine RunL.nil ?_
    refine Run.condF rfl ?_
    refine Run.skip ?_
    refine Run.seq ?_
    refine Run.seq ?_
    refine Run.region ?_
    refine RunL.ok (OpOk.move rfl) rfl ?_
    refine RunL.ok (OpOk.eqlPN rfl rfl) rfl ?_
    refine RunL.ok (OpOk.move rfl) rfl ?_
    refine RunL.on rfl rfl ?_
    refine RunL.ok (OpOk.move rfl) rfl ?_
    refine RunL.on rfl rfl ?_
    refine RunL.ok (OpOk.as (c := false) (OpOk.neq rfl rfl) (by rw [decide_eq_true (by omega)]; rfl)) rfl ?_
    refine RunL.ok (OpOk.pickF rfl rfl) rfl ?_
    refine RunL.nil ?_
    refine Run.condF rfl ?_
    refine Run.skip ?_
    refine Run.seq ?_
    refine Run.region ?_
    refine RunL.ok (OpOk.move rfl) rfl ?_
    refine RunL.ok (OpOk.build (cells := #[.int (IntKind.i64) (s), .int (IntKind.i64) (-1), .string ({ data := #[] })]) rfl (fun w => run_build w 75 _ _ (by rfl))) rfl ?_
    refine RunL.box rfl rfl (fun bx7 => ?_)
    refine RunL.ok (OpOk.assign rfl) rfl ?_
    refine RunL.nil ?_
    refine Run.seq ?_
    refine Run.seq ?_
    refine Run.region ?_
    refine RunL.ok (OpOk.assign rfl) rfl ?_
    refine RunL.nil ?_
    refine Run.block ?_
    refine Run.jump ((Run.loopJ (X := Nat × Asn × Value × Int × Int × List UInt8) (fun x => [(8, .int .i64 (x.1 : Int)), (7, .pointer (some ⟨bx7, 0, none⟩)), (5, .pointer (some ⟨x5, 0, none⟩)), (1, u)]) (fun x => old w0 * x.2.1 * pts x5 (.cells #[.int .i64 (s), .int .i64 (x.2.2.2.1), x.2.2.1] 100 (0, 0)) * own 5 1 x.2.2.1 (x.2.2.2.2.2).length (B (x.2.2.2.2.2)) * pts bx7 (.cells #[.int .i64 (s), .int .i64 (x.2.2.2.2.1), S (x.2.2.2.2.2)] 75 (0, 0))) (fun x => x.1 ≤ ops.length ∧ x.1 ≤ 300 ∧ x.2.2.2.2.2.length ≤ 1048576 * x.1 ∧ x.2.2.2.1 = max x.2.2.2.2.1 (-1) ∧ x.2.2.2.2.1 ≤ 9223372036854775807) (fun x => ops.length - x.1) (0, x2, x6, -1, -1, []) ⟨Nat.zero_le _, Nat.zero_le _, Nat.zero_le _, rfl, show (-1 : Int) ≤ _ by decide⟩ (fun x hx ih => ?_))) ⟨rfl, rfl, rfl, rfl, trivial⟩ (Grew.of (frc rfl rfl) (Grew.refl _))
    obtain ⟨i, J, v, w, rw, bs⟩ := x
    simp only at hx ih ⊢
    obtain ⟨hi, hi3, hbl, hw, hw2⟩ := hx
    rcases Nat.lt_or_ge i ops.length with hlt | hge
    · have hmem := getD_mem hlt
      have rd3 := (hok _ hmem).rd
      have al3 := (hok _ hmem).al
      have hsz := (hok _ hmem).sz
      have hlo := (hok _ hmem).lo
      have hhi := (hok _ hmem).hi
      have hmx3 := rd3.max
      have hnm := (hok _ hmem).nm
      have hones : ∀ q ∈ (Value.agg (encO (ops.getD i default)).toArray).cells.toList, q.oneCell' = true := fun q hq => by
        have e : (Value.agg (encO (ops.getD i default)).toArray).cells.toList = encO (ops.getD i default) := rfl
        rw [e] at hq
        simp only [encO, List.mem_cons, List.not_mem_nil, or_false] at hq
        rcases hq with rfl | rfl | rfl
        · rfl
        · rfl
        · exact rd3.one
      refine Run.seq ?_
      refine Run.seq ?_
      refine Run.region ?_
      refine RunL.ok (OpOk.move rfl) rfl ?_
      refine RunL.ok (OpOk.move rfl) rfl ?_
      refine RunL.ok (OpOk.lenR rfl rfl rd.left.left.left.left rfl) rfl ?_
      refine RunL.ok (OpOk.asT (OpOk.lss rfl rfl) (by omega)) rfl ?_
      refine RunL.ok (OpOk.move rfl) rfl ?_
      refine RunL.on rfl rfl ?_
      refine RunL.ok (OpOk.move rfl) rfl ?_
      refine RunL.on rfl rfl ?_
      refine RunL.ok (OpOk.lss rfl rfl) rfl ?_
      refine RunL.ok (OpOk.pickT rfl rfl) rfl ?_
      refine RunL.nil ?_
      refine Run.condD rfl (fun y1 => ?_) (fun y1 => ?_)
      · refine Run.skip ?_
        refine Run.seq ?_
        refine Run.block ?_
        refine Run.seq ?_
        refine Run.region ?_
        refine RunL.ok (OpOk.move rfl) rfl ?_
        refine RunL.ok (OpOk.move rfl) rfl ?_
        refine RunL.ok (OpOk.idxN rfl ti68 rfl rd.left.left.left.left rfl (by omega)) rfl ?_
        refine RunL.ok (OpOk.loadFl default rfl rfl ti68 rfl rd.left.left.left.left (fun _ => rfl) rfl (by omega)) rfl ?_
        refine RunL.alloc ti68 rfl (fun by2 => ?_)
        refine RunL.storeAll ti68 rfl rfl rfl (by assumption) rfl rfl ?_
        refine RunL.nil ?_
        refine Run.seq ?_
        refine Run.region ?_
        refine RunL.ok (OpOk.assign rfl) rfl ?_
        refine RunL.nil ?_
        refine Run.seq ?_
        refine Run.seq ?_
        refine Run.region ?_
        refine RunL.ok (OpOk.fieldAddr fld68_0 rfl) rfl ?_
        refine RunL.ok (OpOk.load rfl rfl rfl (Blk.out Blk.pts _ _ rfl)) rfl ?_
        refine RunL.nil ?_
        refine Run.block ?_
        refine Run.seq ?_
        refine Run.region ?_
        refine RunL.ok (OpOk.eql rfl rfl) rfl ?_
        refine RunL.ok (OpOk.assign rfl) rfl ?_
        refine RunL.nil ?_
        refine Run.condD rfl (fun y3 => ?_) (fun y3 => ?_)
        · refine Run.seq ?_
          refine Run.region ?_
          refine RunL.ok (OpOk.assign rfl) rfl ?_
          refine RunL.nil ?_
          refine Run.seq ?_
          refine Run.seq ?_
          refine Run.region ?_
          refine RunL.ok (OpOk.assign rfl) rfl ?_
          refine RunL.nil ?_
          refine Run.block ?_
          refine Run.ent (Ent.ownNil' _ 37 1 (Fl encV ([] : List (Value × List UInt8))) rfl) ?_
          refine Run.mem (sep_emp _).symm ?_
          rw [show emp = ownsB 5 [] from rfl]
          refine Run.jump ((Run.loopJ (X := Nat × Asn × Value × List (Value × List UInt8)) (fun x => [(12, .int .i64 (x.1 : Int)), (11, x.2.2.1), (10, .bool true), (9, .pointer (some ⟨by2, 0, none⟩)), (8, .int .i64 (i : Int)), (7, .pointer (some ⟨bx7, 0, none⟩)), (5, .pointer (some ⟨x5, 0, none⟩)), (1, u)]) (fun x => old w0 * x.2.1 * pts x5 (.cells #[.int .i64 (s), .int .i64 (w), v] 100 (0, 0)) * own 5 1 v (bs).length (B (bs)) * pts bx7 (.cells #[.int .i64 (s), .int .i64 (rw), S (bs)] 75 (0, 0)) * pts by2 (.cells (Value.agg (encO (ops.getD i default)).toArray).cells 68 (0, 0)) * ownsB 5 x.2.2.2 * own 37 1 x.2.2.1 x.1 (Fl encV x.2.2.2)) (fun x => x.1 ≤ (ops.getD i default).2.2.2.length ∧ x.2.2.2.map Prod.snd = ((ops.getD i default).2.2.2.take x.1).map Prod.snd) (fun x => (ops.getD i default).2.2.2.length - x.1) (0, J, .slice none 0 0, []) ⟨Nat.zero_le _, by simp⟩ (fun x hx ih2 => ?_))) ⟨rfl, rfl, rfl, rfl, rfl, rfl, rfl, rfl, trivial⟩ (Grew.of (frc (frl rfl) rfl) (Grew.refl _))
          obtain ⟨k, J1, vin, ms⟩ := x
          simp only at hx ih2 ⊢
          obtain ⟨hk, hms⟩ := hx
          have hml : ms.length = min k (ops.getD i default).2.2.2.length := by have := congrArg List.length hms; simpa using this
          rcases Nat.lt_or_ge k (ops.getD i default).2.2.2.length with hk1 | hk1
          · have rdi : Rd w0 (old w0) ((ops.getD i default).2.2.2.getD k default).1 1 ((ops.getD i default).2.2.2.getD k default).2.length (B ((ops.getD i default).2.2.2.getD k default).2) := al3.get hk1
            have hv := Fl_V (ops.getD i default).2.2.2 k hk1
            have hf2 := flatB_le (ops.getD i default).2.2.2 (k + 1)
            have hft := congrArg List.length (flatB_take hk1)
            rw [List.length_append] at hft
            refine Run.seq ?_
            refine Run.seq ?_
            refine Run.region ?_
            refine RunL.ok (OpOk.move rfl) rfl ?_
            refine RunL.ok (OpOk.fieldAddr fld68_2 rfl) rfl ?_
            refine RunL.ok (OpOk.load rfl rfl rfl (Blk.out Blk.pts.left.left _ _ rfl)) rfl ?_
            refine RunL.ok (OpOk.lenR rfl rfl rd3.left.left.left.left.left.left.left rfl) rfl ?_
            refine RunL.ok (OpOk.asT (OpOk.lss rfl rfl) (by omega)) rfl ?_
            refine RunL.nil ?_
            refine Run.condT rfl ?_
            refine Run.skip ?_
            refine Run.seq ?_
            refine Run.block ?_
            refine Run.region ?_
            refine RunL.ok (OpOk.move rfl) rfl ?_
            refine RunL.lit0B rfl ti5 rfl (fun vz1 rdz1 => ?_)
            refine RunL.ok (OpOk.fieldAddr fld68_2 rfl) rfl ?_
            refine RunL.ok (OpOk.load rfl rfl rfl (Blk.out Blk.pts.left.left.left _ _ rfl)) rfl ?_
            refine RunL.ok (OpOk.move rfl) rfl ?_
            refine RunL.ok (OpOk.idx1N rfl ti37 rfl rd3.left.left.left.left.left.left.left.left rfl (by omega)) rfl ?_
            refine RunL.ok (OpOk.load rfl rfl rfl (Rd.cell rd3.left.left.left.left.left.left.left.left (by first | assumption | rfl))) rfl ?_
            refine RunL.appendB0 rfl ti5 rfl rfl rfl rfl rdi.left.left.left.left.left.left.left.left (by omega) rfl (fun vz2 rdz2 => ?_)
            refine RunL.know (fun w s => (s.conv rfl).ownRd0) (fun rdz4 => ?_)
            have alz3 : Alls (GB w0) _ [(vz2, ((ops.getD i default).snd.snd.snd.getD k default).snd)] := (Alls.cons (GB.of rdz4) Alls.nil)
            refine RunL.litV (ls := [(vz2, ((ops.getD i default).snd.snd.snd.getD k default).snd)]) (Alls.right alz3) rfl ti37 rfl rfl rfl (by decide) rfl (fun vz3 rdz3 => ?_)
            refine RunL.know (fun w s => (s.conv rfl).ownRd0) (fun rdz6 => ?_)
            refine RunL.appendV (Alls.right alz3).left rfl ti37 rfl rfl rfl (frl (frl rfl)) (Rd.right rdz6) (by omega) rfl (fun vz5 rdz5 => ?_)
            refine RunL.ok (OpOk.assign rfl) rfl ?_
            refine RunL.nil ?_
            refine Run.inBlock ?_
            refine Run.region ?_
            refine RunL.ok (OpOk.move rfl) rfl ?_
            refine RunL.ok (OpOk.addN _ 1 rfl rfl rfl rfl (by omega)) rfl ?_
            refine RunL.ok (OpOk.assign rfl) rfl ?_
            refine RunL.nil ?_
            refine Run.jump ((ih2 (k + 1, _, _, ms ++ [(vz2, ((ops.getD i default).2.2.2.getD k default).2)]) ⟨by dsimp only; omega, by dsimp only; rw [take_next hk1, List.map_append, List.map_append, hms]; rfl⟩ (by dsimp only; omega))) ⟨rfl, rfl, rfl, rfl, rfl, rfl, rfl, rfl, trivial⟩ (by simp only [ownsB_snoc, ← sep_assoc]; exact (Grew.of (Eq.trans (frc rfl (frc (frl rfl) (frc (frl rfl) (frc (frl rfl) (frc (frl rfl) (frc (frl rfl) (frc (frl rfl) rfl))))))) (congrArg (· * _) (congrArg (· * _) (congrArg (· * _) (congrArg (· * _) (congrArg (· * _) (congrArg (· * _) (congrArg (· * _) (asg as1))))))))) (Grew.refl _)))
          · obtain rfl : k = (ops.getD i default).2.2.2.length := by omega
            rw [List.take_length] at hms
            clear ih2
            have hflat := flatB_map hms
            have hfll := congrArg List.length hflat
            rcases Int.lt_or_le (s - bs.length) (flatB (ops.getD i default).2.2.2).length with hf | hf
            · have hB1 : bs.length ≤ 1048576 * (i + 1) := by omega
              have hB2 := hw
              have hB3 := hw2
              refine Run.seq ?_
              refine Run.seq ?_
              refine Run.region ?_
              refine RunL.ok (OpOk.move rfl) rfl ?_
              refine RunL.ok (OpOk.fieldAddr fld68_2 rfl) rfl ?_
              refine RunL.ok (OpOk.load rfl rfl rfl (Blk.out Blk.pts.left.left _ _ rfl)) rfl ?_
              refine RunL.ok (OpOk.lenR rfl rfl rd3.left.left.left.left.left.left.left rfl) rfl ?_
              refine RunL.ok (OpOk.asF (OpOk.lss rfl rfl) (by omega)) rfl ?_
              refine RunL.nil ?_
              refine Run.condF rfl ?_
              refine Run.exit rfl ?_
              refine Run.seq ?_
              refine Run.know (fun w s => (s.conv (frl (frl (frl (frl rfl))))).ownRd0) (fun rdz1 => ?_)
              refine Run.know (fun w s => (s.conv rfl).ownRd0) (fun rdz2 => ?_)
              refine Run.drop [10] ?_
              (apply Run.drawD [] (by rfl) (Eq.trans (frc (frl (frl (frl rfl))) (frc (frl (frl (frl rfl))) (frc (frl (frl (frl rfl))) rfl))) (asg (asg rfl))); case hchk => kernel_rfl)
              refine Sd.quiet 0 _ _ rfl rfl rfl rfl rfl (QOp.ok (fun X => OpOk.move rfl)) ?_
              refine Sd.quiet 1 _ _ rfl rfl rfl rfl rfl (QOp.ok (fun X => OpOk.move rfl)) ?_
              refine Sd.quiet 3 _ _ rfl rfl rfl rfl rfl (QOp.ok (fun X => OpOk.move rfl)) ?_
              refine Sd.quiet 4 _ _ rfl rfl rfl rfl rfl (QOp.ok (fun X => OpOk.fieldAddr fld68_2 rfl)) ?_
              refine Sd.quiet 5 _ _ rfl rfl rfl rfl rfl (QOp.ok (fun X => OpOk.load rfl rfl rfl (Blk.out Blk.pts.left.left.left.left _ _ rfl))) ?_
              (refine Sd.exec 2 rfl rfl rfl rfl rfl ?hrest (by rfl) (fun Xz3 Kz3 hKz3 => ?_); case hrest => kernel_rfl)
              refine RunL.mem (fl2 (sep_emp _) (flS (flS rfl))) ?_
              refine RunL.know (fun w s => (s.conv (frl (frl (frl (frl (frl rfl)))))).ownsB0) (fun alz4 => ?_)
              refine RunL.mem (frc (frl rfl) (frc (frl rfl) rfl)) ?_
              refine RunL.call cal32 rfl (s32a (Rd.right rdz2).left.left (Alls.right alz4).left.left.left (by omega) (by assumption) (by assumption) (by omega) (by omega)) rfl (fun vz5 Az5 hz5 => ?_)
              obtain ⟨z6, ⟨z7, ⟨rfl, rfl⟩⟩⟩ := hz5
              refine RunL.know (fun w s => (s.conv rfl).ownRd0) (fun rdz8 => ?_)
              refine Sd.ret hKz3 (Eq.trans (frc (frl (frl (frl rfl))) rfl) (gp2 rfl (asg (asg rfl)))) ⟨_, (emp_sep _).symm⟩ ?_
              (refine Sd.exec 6 rfl rfl rfl rfl rfl ?hrest (by rfl) (fun Xz9 Kz9 hKz9 => ?_); case hrest => kernel_rfl)
              refine RunL.mem (fl2 (flS (flS rfl)) rfl) ?_
              refine RunL.call cal34 rfl (s34a rd3.left.left.left.left.left.left.left.left al3.left.left.left.left.left.left.left.left (by assumption) (by assumption) (by assumption) (by assumption) (by omega)) rfl (fun vz10 Az10 hz10 => ?_)
              obtain ⟨rfl, rfl⟩ := hz10
              refine Sd.ret hKz9 (Eq.trans rfl (gp2 (sep_emp _).symm (asg (asg (asg rfl))))) ⟨_, rfl⟩ ?_
              refine Sd.quiet 7 _ _ rfl rfl rfl rfl rfl (QOp.ok (fun X => OpOk.asT (OpOk.eql rfl rfl) (by omega))) ?_
              refine Sd.quiet 8 _ _ rfl rfl rfl rfl rfl (QOp.ok (fun X => OpOk.assign rfl)) ?_
              (apply Sd.tail; case hall => kernel_rfl)
              refine RunL.mem (fl2 (flS (flS (flS rfl))) (sep_emp _)) ?_
              refine RunL.nil ?_
              refine Run.seq ?_
              refine Run.region ?_
              refine RunL.ok (OpOk.assign rfl) rfl ?_
              refine RunL.nil ?_
              refine Run.block ?_
              refine Run.jump ((Run.loopJ (X := Nat × Asn) (fun x => [(13, .int .i64 (x.1 : Int)), (11, vin), (10, .bool true), (9, .pointer (some ⟨by2, 0, none⟩)), (8, .int .i64 (i : Int)), (7, .pointer (some ⟨bx7, 0, none⟩)), (5, .pointer (some ⟨x5, 0, none⟩)), (1, u)]) (fun x => old w0 * x.2 * pts x5 (.cells #[.int .i64 (s), .int .i64 (w), z6] 100 (0, 0)) * own 5 1 z6 (bs).length (B (bs)) * pts bx7 (.cells #[.int .i64 (s), .int .i64 (rw), S (bs)] 75 (0, 0)) * pts by2 (.cells (Value.agg (encO (ops.getD i default)).toArray).cells 68 (0, 0)) * ownsB 5 (ms.drop x.1) * own 37 1 vin (ops.getD i default).2.2.2.length (Fl encV ms)) (fun x => x.1 ≤ (ops.getD i default).2.2.2.length) (fun x => (ops.getD i default).2.2.2.length - x.1) (0, _) (Nat.zero_le _) (fun x hx ih3 => ?_))) ⟨rfl, rfl, rfl, rfl, rfl, rfl, rfl, rfl, trivial⟩ (Grew.of (Eq.trans (frc (frl (frl (frl (frl rfl)))) (frc (frl (frl (frl (frl rfl)))) (frc (frl (frl (frl (frl rfl)))) rfl))) (congrArg (· * _) (congrArg (· * _) (congrArg (· * _) (congrArg (· * _) (congrArg (· * _) (congrArg (· * _) (asg as1)))))))) (Grew.refl _))
              obtain ⟨k, J2⟩ := x
              simp only at hx ih3 ⊢
              rcases Nat.lt_or_ge k (ops.getD i default).2.2.2.length with hk1 | hk1
              · have rdi : Rd w0 (old w0) ((ops.getD i default).2.2.2.getD k default).1 1 ((ops.getD i default).2.2.2.getD k default).2.length (B ((ops.getD i default).2.2.2.getD k default).2) := al3.get hk1
                have hv := Fl_V (ops.getD i default).2.2.2 k hk1
                have hvm := Fl_V ms k (by omega)
                have hsnd := snd_at hms k
                have hsl := congrArg List.length hsnd
                have hmk := rdi.max
                rw [ownsB_drop 5 (show k < ms.length by omega)]
                simp only [← sep_assoc]
                refine Run.seq ?_
                refine Run.seq ?_
                refine Run.region ?_
                refine RunL.ok (OpOk.move rfl) rfl ?_
                refine RunL.ok (OpOk.move rfl) rfl ?_
                refine RunL.ok (OpOk.lenR rfl rfl (Rd.right rdz2) rfl) rfl ?_
                refine RunL.ok (OpOk.asT (OpOk.lss rfl rfl) (by omega)) rfl ?_
                refine RunL.nil ?_
                refine Run.condT rfl ?_
                refine Run.skip ?_
                refine Run.seq ?_
                refine Run.block ?_
                refine Run.seq ?_
                refine Run.know (fun w s => (s.conv (frl rfl)).ownRd0) (fun rdt1 => ?_)
                (apply Run.drawD [15] (by rfl) (sep_emp _).symm; case hchk => kernel_rfl)
                refine Sd.quiet 0 _ _ rfl rfl rfl rfl rfl (QOp.ok (fun X => OpOk.move rfl)) ?_
                refine Sd.quiet 1 _ _ rfl rfl rfl rfl rfl (QOp.ok (fun X => OpOk.move rfl)) ?_
                refine Sd.quiet 2 _ _ rfl rfl rfl rfl rfl (QOp.ok (fun X => OpOk.move rfl)) ?_
                refine Sd.quiet 3 _ _ rfl rfl rfl rfl rfl (QOp.ok (fun X => OpOk.move rfl)) ?_
                refine Sd.quiet 4 _ _ rfl rfl rfl rfl rfl (QOp.ok (fun X => OpOk.idx1N rfl ti37 rfl (Rd.right rdz2).left.left rfl (by omega))) ?_
                refine Sd.quiet 5 _ _ rfl rfl rfl rfl rfl (QOp.ok (fun X => OpOk.load rfl rfl rfl (Rd.cell (Rd.right rdz2).left.left (by first | assumption | rfl)))) ?_
                refine Sd.quiet 6 _ _ rfl rfl rfl rfl rfl (QOp.ok (fun X => OpOk.strOf rfl rfl rfl rfl (Rd.right rdt1).left.left.left)) ?_
                refine Sd.quiet 7 _ _ rfl rfl rfl rfl rfl (QOp.ok (fun X => OpOk.fieldAddr fld68_2 rfl)) ?_
                refine Sd.quiet 8 _ _ rfl rfl rfl rfl rfl (QOp.ok (fun X => OpOk.load rfl rfl rfl (Blk.out Blk.pts.left.left.left.left.left _ _ rfl))) ?_
                refine Sd.quiet 9 _ _ rfl rfl rfl rfl rfl (QOp.ok (fun X => OpOk.move rfl)) ?_
                refine Sd.quiet 10 _ _ rfl rfl rfl rfl rfl (QOp.ok (fun X => OpOk.idx1N rfl ti37 rfl rd3.left.left.left.left.left.left.left.left.left.left rfl (by omega))) ?_
                refine Sd.quiet 11 _ _ rfl rfl rfl rfl rfl (QOp.ok (fun X => OpOk.load rfl rfl rfl (Rd.cell rd3.left.left.left.left.left.left.left.left.left.left (by first | assumption | rfl)))) ?_
                refine Sd.quiet 12 _ _ rfl rfl rfl rfl rfl (QOp.ok (fun X => OpOk.strOf rfl rfl rfl rfl rdi.left.left.left.left.left.left.left.left.left.left)) ?_
                refine Sd.quiet 13 _ _ rfl rfl rfl rfl rfl (QOp.ok (fun X => OpOk.asT (OpOk.eqlSS rfl rfl) (by omega))) ?_
                refine Sd.quiet 14 _ _ rfl rfl rfl rfl rfl (QOp.ok (fun X => OpOk.pickT rfl rfl)) ?_
                (apply Sd.tail; case hall => kernel_rfl)
                refine RunL.mem (fl2 (sep_emp _) (sep_emp _)) ?_
                refine RunL.ok (OpOk.assign rfl) rfl ?_
                refine RunL.nil ?_
                refine Run.seq ?_
                refine Run.region ?_
                refine RunL.ok (OpOk.assign rfl) rfl ?_
                refine RunL.nil ?_
                refine Run.block ?_
                refine Run.jump ((Run.loopJ (X := Nat × List UInt8) (fun x => [(14, .int .i64 (x.1 : Int)), (13, .int .i64 (k : Int)), (11, vin), (10, .bool true), (9, .pointer (some ⟨by2, 0, none⟩)), (8, .int .i64 (i : Int)), (7, .pointer (some ⟨bx7, 0, none⟩)), (5, .pointer (some ⟨x5, 0, none⟩)), (1, u)]) (fun x => old w0 * J2 * pts x5 (.cells #[.int .i64 (s), .int .i64 (w), z6] 100 (0, 0)) * own 5 1 z6 (bs).length (B (bs)) * pts bx7 (.cells #[.int .i64 (s), .int .i64 (rw), S (bs)] 75 (0, 0)) * pts by2 (.cells (Value.agg (encO (ops.getD i default)).toArray).cells 68 (0, 0)) * ownsB 5 (ms.drop (k + 1)) * own 5 1 (ms.getD k default).1 (ms.getD k default).2.length (B x.2) * own 37 1 vin (ops.getD i default).2.2.2.length (Fl encV ms)) (fun x => x.1 ≤ (ms.getD k default).2.length ∧ x.2.length = (ms.getD k default).2.length) (fun x => (ms.getD k default).2.length - x.1) (0, (ms.getD k default).2) ⟨Nat.zero_le _, rfl⟩ (fun x hx ih4 => ?_))) ⟨rfl, rfl, rfl, rfl, rfl, rfl, rfl, rfl, rfl, trivial⟩ ((Grew.refl _))
                obtain ⟨q, zs⟩ := x
                simp only at hx ih4 ⊢
                obtain ⟨hq, hzl⟩ := hx
                rcases Nat.lt_or_ge q (ms.getD k default).2.length with hq1 | hq1
                · refine Run.seq ?_
                  refine Run.seq ?_
                  refine Run.region ?_
                  refine RunL.ok (OpOk.move rfl) rfl ?_
                  refine RunL.ok (OpOk.move rfl) rfl ?_
                  refine RunL.ok (OpOk.move rfl) rfl ?_
                  refine RunL.ok (OpOk.idx1N rfl ti37 rfl (Rd.right rdz2) rfl (by omega)) rfl ?_
                  refine RunL.ok (OpOk.load rfl rfl rfl (Rd.cell (Rd.right rdz2) (by first | assumption | rfl))) rfl ?_
                  refine RunL.know (fun w s => (s.conv (frl rfl)).ownRd0) (fun rdr1 => ?_)
                  refine RunL.ok (OpOk.lenR rfl rfl (Rd.right rdr1).left rfl) rfl ?_
                  refine RunL.ok (OpOk.asT (OpOk.lss rfl rfl) (by omega)) rfl ?_
                  refine RunL.nil ?_
                  refine Run.condT rfl ?_
                  refine Run.skip ?_
                  refine Run.seq ?_
                  refine Run.block ?_
                  (apply Run.drawD [14] (by rfl) (sep_emp _).symm; case hchk => kernel_rfl)
                  refine Sd.quiet 0 _ _ rfl rfl rfl rfl rfl (QOp.ok (fun X => OpOk.move rfl)) ?_
                  refine Sd.quiet 1 _ _ rfl rfl rfl rfl rfl (QOp.ok (fun X => OpOk.move rfl)) ?_
                  refine Sd.quiet 2 _ _ rfl rfl rfl rfl rfl (QOp.ok (fun X => OpOk.idx1N rfl ti37 rfl (Rd.right rdz2).left.left rfl (by omega))) ?_
                  refine Sd.quiet 3 _ _ rfl rfl rfl rfl rfl (QOp.ok (fun X => OpOk.load rfl rfl rfl (Rd.cell (Rd.right rdz2).left.left (by first | assumption | rfl)))) ?_
                  refine Sd.quiet 4 _ _ rfl rfl rfl rfl rfl (QOp.ok (fun X => OpOk.move rfl)) ?_
                  refine Sd.quiet 5 _ _ rfl rfl rfl rfl rfl (QOp.ok (fun X => OpOk.move rfl)) ?_
                  refine Sd.quiet 6 _ _ rfl rfl rfl rfl rfl (QOp.ok (fun X => OpOk.move rfl)) ?_
                  refine Sd.quiet 7 _ _ rfl rfl rfl rfl rfl (QOp.ok (fun X => OpOk.idx1N rfl ti37 rfl (Rd.right rdz2).left.left rfl (by omega))) ?_
                  refine Sd.quiet 8 _ _ rfl rfl rfl rfl rfl (QOp.ok (fun X => OpOk.load rfl rfl rfl (Rd.cell (Rd.right rdz2).left.left (by first | assumption | rfl)))) ?_
                  refine Sd.quiet 9 _ _ rfl rfl rfl rfl rfl (QOp.ok (fun X => OpOk.move rfl)) ?_
                  refine Sd.quiet 10 _ _ rfl rfl rfl rfl rfl (QOp.ok (fun X => OpOk.idx1N rfl ti5 rfl (Rd.right rdr1).left.left.left rfl (by omega))) ?_
                  refine Sd.quiet 11 _ _ rfl rfl rfl rfl rfl (QOp.ok (fun X => OpOk.load rfl rfl rfl (Rd.getB (Rd.right rdr1).left.left.left (by omega)))) ?_
                  refine Sd.quiet 12 _ _ rfl rfl rfl rfl rfl (QOp.ok (fun X => OpOk.xor rfl rfl (x255 _))) ?_
                  refine Sd.quiet 13 _ _ rfl rfl rfl rfl rfl (QOp.ok (fun X => OpOk.idx1N rfl ti5 rfl (Rd.right rdr1).left.left.left rfl (by omega))) ?_
                  (apply Sd.tail; case hall => kernel_rfl)
                  refine RunL.mem (fl2 (sep_emp _) (sep_emp _)) ?_
                  refine RunL.storeB _ ti5 rfl rfl rfl (frl rfl) (by omega) ?_
                  refine RunL.nil ?_
                  refine Run.inBlock ?_
                  refine Run.region ?_
                  refine RunL.ok (OpOk.move rfl) rfl ?_
                  refine RunL.ok (OpOk.addN _ 1 rfl rfl rfl rfl (by omega)) rfl ?_
                  refine RunL.ok (OpOk.assign rfl) rfl ?_
                  refine RunL.nil ?_
                  refine Run.jump ((ih4 (q + 1, _) ⟨by dsimp only; omega, by simp [hzl]⟩ (by dsimp only; omega))) ⟨rfl, rfl, rfl, rfl, rfl, rfl, rfl, rfl, rfl, trivial⟩ (Grew.of (frc (frl rfl) rfl) (Grew.refl _))
                · obtain rfl : q = (ms.getD k default).2.length := by omega
                  clear ih4
                  refine Run.seq ?_
                  refine Run.seq ?_
                  refine Run.region ?_
                  refine RunL.ok (OpOk.move rfl) rfl ?_
                  refine RunL.ok (OpOk.move rfl) rfl ?_
                  refine RunL.ok (OpOk.move rfl) rfl ?_
                  refine RunL.ok (OpOk.idx1N rfl ti37 rfl (Rd.right rdz2) rfl (by omega)) rfl ?_
                  refine RunL.ok (OpOk.load rfl rfl rfl (Rd.cell (Rd.right rdz2) (by first | assumption | rfl))) rfl ?_
                  refine RunL.know (fun w s => (s.conv (frl rfl)).ownRd0) (fun rdr1 => ?_)
                  refine RunL.ok (OpOk.lenR rfl rfl (Rd.right rdr1).left rfl) rfl ?_
                  refine RunL.ok (OpOk.asF (OpOk.lss rfl rfl) (by omega)) rfl ?_
                  refine RunL.nil ?_
                  refine Run.condF rfl ?_
                  refine Run.exit rfl ?_
                  refine Run.inBlock ?_
                  refine Run.region ?_
                  refine RunL.ok (OpOk.move rfl) rfl ?_
                  refine RunL.ok (OpOk.addN _ 1 rfl rfl rfl rfl (by omega)) rfl ?_
                  refine RunL.ok (OpOk.assign rfl) rfl ?_
                  refine RunL.nil ?_
                  refine Run.jump ((ih3 (k + 1, _) (by dsimp only; omega) (by dsimp only; omega))) ⟨rfl, rfl, rfl, rfl, rfl, rfl, rfl, rfl, trivial⟩ (Grew.of (Eq.trans (frc rfl (frc (frl rfl) (frc (frl rfl) (frc (frl rfl) (frc (frl rfl) (frc (frl rfl) rfl)))))) (congrArg (· * _) (congrArg (· * _) (congrArg (· * _) (congrArg (· * _) (congrArg (· * _) (congrArg (· * _) (asg as1)))))))) (Grew.refl _))
              · obtain rfl : k = (ops.getD i default).2.2.2.length := by omega
                clear ih3
                refine Run.seq ?_
                refine Run.seq ?_
                refine Run.region ?_
                refine RunL.ok (OpOk.move rfl) rfl ?_
                refine RunL.ok (OpOk.move rfl) rfl ?_
                refine RunL.ok (OpOk.lenR rfl rfl (Rd.right rdz2) rfl) rfl ?_
                refine RunL.ok (OpOk.asF (OpOk.lss rfl rfl) (by omega)) rfl ?_
                refine RunL.nil ?_
                refine Run.condF rfl ?_
                refine Run.exit rfl ?_
                refine Run.inBlock ?_
                refine Run.seq ?_
                refine Run.region ?_
                refine RunL.ok (OpOk.move rfl) rfl ?_
                refine RunL.know (fun w s => (s.conv (frl rfl)).ownsB0) (fun alt1 => ?_)
                refine RunL.mem (frc (frl (frl (frl (frl rfl)))) (frc (frl (frl (frl (frl rfl)))) rfl)) ?_
                refine RunL.call cal31 rfl (s31 (by omega)) rfl (fun vt2 At2 ht2 => ?_)
                obtain rfl := ht2
                refine RunL.ok (OpOk.assign rfl) rfl ?_
                refine RunL.nil ?_
                refine Run.seq ?_
                refine Run.seq ?_
                refine Run.know (fun w s => (s.conv rfl).ownRd0) (fun rdt3 => ?_)
                (apply Run.drawD [] (by rfl) (Eq.trans (frc (frl rfl) (frc (frl rfl) rfl)) (asg rfl)); case hchk => kernel_rfl)
                refine Sd.quiet 0 _ _ rfl rfl rfl rfl rfl (QOp.ok (fun X => OpOk.move rfl)) ?_
                refine Sd.quiet 1 _ _ rfl rfl rfl rfl rfl (QOp.ok (fun X => OpOk.not rfl)) ?_
                refine Sd.quiet 2 _ _ rfl rfl rfl rfl rfl (QOp.ok (fun X => OpOk.move rfl)) ?_
                refine Sd.quiet 3 _ _ rfl rfl rfl rfl rfl (QOp.ok (fun X => OpOk.move rfl)) ?_
                refine Sd.quiet 4 _ _ rfl rfl rfl rfl rfl (QOp.ok (fun X => OpOk.strOf rfl rfl rfl rfl (Rd.right rdt3).left.left)) ?_
                refine Sd.quiet 5 _ _ rfl rfl rfl rfl rfl (QOp.ok (fun X => OpOk.move rfl)) ?_
                refine Sd.quiet 6 _ _ rfl rfl rfl rfl rfl (QOp.ok (fun X => OpOk.nilOk rfl)) ?_
                refine Sd.quiet 7 _ _ rfl rfl rfl rfl rfl (QOp.ok (fun X => OpOk.fieldAddr fld75_2 rfl)) ?_
                refine Sd.quiet 8 _ _ rfl rfl rfl rfl rfl (QOp.ok (fun X => OpOk.load rfl rfl rfl (Blk.out Blk.pts.left.left.left.left.left.left _ _ rfl))) ?_
                refine Sd.quiet 9 _ _ rfl rfl rfl rfl rfl (QOp.ok (fun X => OpOk.neqSS rfl rfl)) ?_
                refine Sd.quiet 10 _ _ rfl rfl rfl rfl rfl (QOp.ok (fun X => OpOk.pickF rfl rfl)) ?_
                refine Sd.quiet 11 _ _ rfl rfl rfl rfl rfl (QOp.ok (fun X => OpOk.move rfl)) ?_
                refine Sd.splitBF (bnF (by first | omega | with_reducible rfl | assumption)) ?_
                refine Sd.quiet 12 _ _ rfl rfl rfl rfl rfl (QOp.ok (fun X => OpOk.move rfl)) ?_
                refine Sd.quiet 14 _ _ rfl rfl rfl rfl rfl (QOp.ok (fun X => OpOk.move rfl)) ?_
                refine Sd.quiet 15 _ _ rfl rfl rfl rfl rfl (QOp.ok (fun X => OpOk.lenR rfl rfl (Rd.right rdt3).left.left rfl)) ?_
                (refine Sd.exec 13 rfl rfl rfl rfl rfl ?hrest (by rfl) (fun Xt4 Kt4 hKt4 => ?_); case hrest => kernel_rfl)
                refine RunL.mem (fl2 (sep_emp _) (flS rfl)) ?_
                refine RunL.call cal33 rfl (s33) rfl (fun vt5 At5 ht5 => ?_)
                obtain ⟨rfl, rfl⟩ := ht5
                refine Sd.ret hKt4 (Eq.trans rfl (gp2 (sep_emp _).symm (asg rfl))) ⟨_, (emp_sep _).symm⟩ ?_
                refine Sd.quiet 16 _ _ rfl rfl rfl rfl rfl (QOp.ok (fun X => OpOk.as (c := false) (OpOk.neq rfl rfl) (by rw [decide_eq_true (by omega)]; rfl))) ?_
                refine Sd.quiet 17 _ _ rfl rfl rfl rfl rfl (QOp.ok (fun X => OpOk.pickF rfl rfl)) ?_
                (apply Sd.tail; case hall => kernel_rfl)
                refine RunL.mem (fl2 (flS rfl) (sep_emp _)) ?_
                refine RunL.nil ?_
                refine Run.condF rfl ?_
                refine Run.skip ?_
                refine Run.seq ?_
                refine Run.region ?_
                refine RunL.ok (OpOk.assign rfl) rfl ?_
                refine RunL.nil ?_
                refine Run.block ?_
                refine Run.jump ((Run.loopJ (X := Nat × Asn × List UInt8) (fun x => [(16, .int .i64 (x.1 : Int)), (15, vt2), (8, .int .i64 (i : Int)), (7, .pointer (some ⟨bx7, 0, none⟩)), (5, .pointer (some ⟨x5, 0, none⟩)), (1, u)]) (fun x => old w0 * x.2.1 * pts x5 (.cells #[.int .i64 (s), .int .i64 (w), z6] 100 (0, 0)) * own 5 1 z6 (bs).length (B (bs)) * pts bx7 (.cells #[.int .i64 (s), .int .i64 (rw), S (bs)] 75 (0, 0)) * own 5 1 vt2 (bs).length (B x.2.2)) (fun x => x.1 ≤ (bs).length ∧ x.2.2.length = (bs).length) (fun x => (bs).length - x.1) (0, _, bs) ⟨Nat.zero_le _, rfl⟩ (fun x hx ih5 => ?_))) ⟨rfl, rfl, rfl, rfl, rfl, rfl, trivial⟩ (Grew.of (Eq.trans (frc (frl (frl rfl)) (frc (frl (frl (frl (frl (frl rfl))))) rfl)) (congrArg (· * _) (congrArg (· * _) (congrArg (· * _) (congrArg (· * _) (asg (asg (asg as1)))))))) (Grew.refl _))
                obtain ⟨q, J5, zs⟩ := x
                simp only at hx ih5 ⊢
                obtain ⟨hq, hzl⟩ := hx
                rcases Nat.lt_or_ge q (bs).length with hq1 | hq1
                · refine Run.seq ?_
                  refine Run.seq ?_
                  refine Run.region ?_
                  refine RunL.ok (OpOk.move rfl) rfl ?_
                  refine RunL.ok (OpOk.move rfl) rfl ?_
                  refine RunL.know (fun w s => (s.conv rfl).ownRd0) (fun rdq1 => ?_)
                  refine RunL.ok (OpOk.lenR rfl rfl (Rd.right rdq1) rfl) rfl ?_
                  refine RunL.ok (OpOk.asT (OpOk.lss rfl rfl) (by omega)) rfl ?_
                  refine RunL.nil ?_
                  refine Run.condT rfl ?_
                  refine Run.skip ?_
                  refine Run.seq ?_
                  refine Run.block ?_
                  refine Run.region ?_
                  refine RunL.ok (OpOk.move rfl) rfl ?_
                  refine RunL.ok (OpOk.move rfl) rfl ?_
                  refine RunL.ok (OpOk.idx1N rfl ti5 rfl (Rd.right rdq1) rfl (by omega)) rfl ?_
                  refine RunL.storeOwn ti5 rfl rfl rfl rfl (by omega) ?_
                  refine RunL.nil ?_
                  refine Run.inBlock ?_
                  refine Run.region ?_
                  refine RunL.ok (OpOk.move rfl) rfl ?_
                  refine RunL.ok (OpOk.addN _ 1 rfl rfl rfl rfl (by omega)) rfl ?_
                  refine RunL.ok (OpOk.assign rfl) rfl ?_
                  refine RunL.nil ?_
                  rw [show (B zs).set q (.int .u8 7) = B (zs.set q 7) from B_set zs q 7]
                  refine Run.jump ((ih5 (q + 1, _, _) ⟨by dsimp only; omega, by simp [hzl]⟩ (by dsimp only; omega))) ⟨rfl, rfl, rfl, rfl, rfl, rfl, trivial⟩ (Grew.of (congrArg (· * _) (congrArg (· * _) (congrArg (· * _) (congrArg (· * _) as1)))) (Grew.refl _))
                · obtain rfl : q = (bs).length := by omega
                  clear ih5
                  refine Run.seq ?_
                  refine Run.seq ?_
                  refine Run.region ?_
                  refine RunL.ok (OpOk.move rfl) rfl ?_
                  refine RunL.ok (OpOk.move rfl) rfl ?_
                  refine RunL.know (fun w s => (s.conv rfl).ownRd0) (fun rdq1 => ?_)
                  refine RunL.ok (OpOk.lenR rfl rfl (Rd.right rdq1) rfl) rfl ?_
                  refine RunL.ok (OpOk.asF (OpOk.lss rfl rfl) (by omega)) rfl ?_
                  refine RunL.nil ?_
                  refine Run.condF rfl ?_
                  refine Run.exit rfl ?_
                  refine Run.inBlock ?_
                  refine Run.region ?_
                  refine RunL.ok (OpOk.move rfl) rfl ?_
                  refine RunL.ok (OpOk.addN _ 1 rfl rfl rfl rfl (by omega)) rfl ?_
                  refine RunL.ok (OpOk.assign rfl) rfl ?_
                  refine RunL.nil ?_
                  refine Run.jump ((ih (i + 1, _, z6, w, rw, bs) ⟨by dsimp only; omega, by dsimp only; omega, hB1, hB2, hB3⟩ (by dsimp only; omega))) ⟨rfl, rfl, rfl, rfl, trivial⟩ (Grew.of (Eq.trans (frc (frl rfl) (frc (frl rfl) (frc (frl rfl) rfl))) (congrArg (· * _) (congrArg (· * _) (congrArg (· * _) (asg as1))))) (Grew.refl _))
            · rcases Int.lt_or_le rw 0 with hr | hr
              · have hap : (bs ++ flatB (ops.getD i default).2.2.2).length = bs.length + (flatB (ops.getD i default).2.2.2).length := List.length_append
                have hB1 : (bs ++ flatB (ops.getD i default).2.2.2).length ≤ 1048576 * (i + 1) := by omega
                have hB2 := hw
                have hB3 := hw2
                refine Run.seq ?_
                refine Run.seq ?_
                refine Run.region ?_
                refine RunL.ok (OpOk.move rfl) rfl ?_
                refine RunL.ok (OpOk.fieldAddr fld68_2 rfl) rfl ?_
                refine RunL.ok (OpOk.load rfl rfl rfl (Blk.out Blk.pts.left.left _ _ rfl)) rfl ?_
                refine RunL.ok (OpOk.lenR rfl rfl rd3.left.left.left.left.left.left.left rfl) rfl ?_
                refine RunL.ok (OpOk.asF (OpOk.lss rfl rfl) (by omega)) rfl ?_
                refine RunL.nil ?_
                refine Run.condF rfl ?_
                refine Run.exit rfl ?_
                refine Run.seq ?_
                refine Run.know (fun w s => (s.conv (frl (frl (frl (frl rfl))))).ownRd0) (fun rdz1 => ?_)
                refine Run.know (fun w s => (s.conv rfl).ownRd0) (fun rdz2 => ?_)
                refine Run.drop [10] ?_
                (apply Run.drawD [] (by rfl) (Eq.trans (frc (frl (frl (frl rfl))) (frc (frl (frl (frl rfl))) (frc (frl (frl (frl rfl))) rfl))) (asg (asg rfl))); case hchk => kernel_rfl)
                refine Sd.quiet 0 _ _ rfl rfl rfl rfl rfl (QOp.ok (fun X => OpOk.move rfl)) ?_
                refine Sd.quiet 1 _ _ rfl rfl rfl rfl rfl (QOp.ok (fun X => OpOk.move rfl)) ?_
                refine Sd.quiet 3 _ _ rfl rfl rfl rfl rfl (QOp.ok (fun X => OpOk.move rfl)) ?_
                refine Sd.quiet 4 _ _ rfl rfl rfl rfl rfl (QOp.ok (fun X => OpOk.fieldAddr fld68_2 rfl)) ?_
                refine Sd.quiet 5 _ _ rfl rfl rfl rfl rfl (QOp.ok (fun X => OpOk.load rfl rfl rfl (Blk.out Blk.pts.left.left.left.left _ _ rfl))) ?_
                (refine Sd.exec 2 rfl rfl rfl rfl rfl ?hrest (by rfl) (fun Xz3 Kz3 hKz3 => ?_); case hrest => kernel_rfl)
                refine RunL.mem (fl2 (sep_emp _) (flS (flS rfl))) ?_
                refine RunL.know (fun w s => (s.conv (frl (frl (frl (frl (frl rfl)))))).ownsB0) (fun alz4 => ?_)
                refine RunL.mem (frc (frl rfl) (frc (frl rfl) rfl)) ?_
                refine RunL.call cal32 rfl (s32b (Rd.right rdz2).left.left (Alls.right alz4).left.left.left (by omega) (by omega) (by assumption) (by assumption) (by omega)) rfl (fun vz6 Az6 hz6 => ?_)
                obtain ⟨z7, ⟨z8, ⟨rfl, rfl⟩⟩⟩ := hz6
                refine RunL.know (fun w s => (s.conv rfl).ownRd0) (fun rdz9 => ?_)
                refine Sd.ret hKz3 (Eq.trans (frc (frl (frl (frl rfl))) rfl) (gp2 rfl (asg (asg rfl)))) ⟨_, (emp_sep _).symm⟩ ?_
                (refine Sd.exec 6 rfl rfl rfl rfl rfl ?hrest (by rfl) (fun Xz10 Kz10 hKz10 => ?_); case hrest => kernel_rfl)
                refine RunL.mem (fl2 (flS (flS rfl)) rfl) ?_
                refine RunL.call cal34 rfl (s34b rd3.left.left.left.left.left.left.left.left al3.left.left.left.left.left.left.left.left (by assumption) (by assumption) (by assumption) (by assumption) (by omega)) rfl (fun vz12 Az12 hz12 => ?_)
                obtain ⟨rfl, rfl⟩ := hz12
                refine Sd.ret hKz10 (Eq.trans rfl (gp2 (sep_emp _).symm (asg (asg (asg rfl))))) ⟨_, rfl⟩ ?_
                refine Sd.quiet 7 _ _ rfl rfl rfl rfl rfl (QOp.ok (fun X => OpOk.asT (OpOk.eql rfl rfl) (by omega))) ?_
                refine Sd.quiet 8 _ _ rfl rfl rfl rfl rfl (QOp.ok (fun X => OpOk.assign rfl)) ?_
                (apply Sd.tail; case hall => kernel_rfl)
                refine RunL.mem (fl2 (flS (flS (flS rfl))) (sep_emp _)) ?_
                refine RunL.nil ?_
                refine Run.seq ?_
                refine Run.region ?_
                refine RunL.ok (OpOk.assign rfl) rfl ?_
                refine RunL.nil ?_
                refine Run.block ?_
                rw [hflat]
                refine Run.jump ((Run.loopJ (X := Nat × Asn) (fun x => [(13, .int .i64 (x.1 : Int)), (11, vin), (10, .bool true), (9, .pointer (some ⟨by2, 0, none⟩)), (8, .int .i64 (i : Int)), (7, .pointer (some ⟨bx7, 0, none⟩)), (5, .pointer (some ⟨x5, 0, none⟩)), (1, u)]) (fun x => old w0 * x.2 * pts x5 (.cells #[.int .i64 (s), .int .i64 (w), z7] 100 (0, 0)) * own 5 1 z7 ((bs ++ flatB (ops.getD i default).2.2.2)).length (B ((bs ++ flatB (ops.getD i default).2.2.2))) * pts bx7 (.cells #[.int .i64 (s), .int .i64 (rw), S ((bs ++ flatB (ops.getD i default).2.2.2))] 75 (0, 0)) * pts by2 (.cells (Value.agg (encO (ops.getD i default)).toArray).cells 68 (0, 0)) * ownsB 5 (ms.drop x.1) * own 37 1 vin (ops.getD i default).2.2.2.length (Fl encV ms)) (fun x => x.1 ≤ (ops.getD i default).2.2.2.length) (fun x => (ops.getD i default).2.2.2.length - x.1) (0, _) (Nat.zero_le _) (fun x hx ih3 => ?_))) ⟨rfl, rfl, rfl, rfl, rfl, rfl, rfl, rfl, trivial⟩ (Grew.of (Eq.trans (frc (frl (frl (frl (frl rfl)))) (frc (frl (frl (frl (frl rfl)))) (frc (frl (frl (frl (frl rfl)))) rfl))) (congrArg (· * _) (congrArg (· * _) (congrArg (· * _) (congrArg (· * _) (congrArg (· * _) (congrArg (· * _) (asg as1)))))))) (Grew.refl _))
                obtain ⟨k, J2⟩ := x
                simp only at hx ih3 ⊢
                rcases Nat.lt_or_ge k (ops.getD i default).2.2.2.length with hk1 | hk1
                · have rdi : Rd w0 (old w0) ((ops.getD i default).2.2.2.getD k default).1 1 ((ops.getD i default).2.2.2.getD k default).2.length (B ((ops.getD i default).2.2.2.getD k default).2) := al3.get hk1
                  have hv := Fl_V (ops.getD i default).2.2.2 k hk1
                  have hvm := Fl_V ms k (by omega)
                  have hsnd := snd_at hms k
                  have hsl := congrArg List.length hsnd
                  have hmk := rdi.max
                  rw [ownsB_drop 5 (show k < ms.length by omega)]
                  simp only [← sep_assoc]
                  refine Run.seq ?_
                  refine Run.seq ?_
                  refine Run.region ?_
                  refine RunL.ok (OpOk.move rfl) rfl ?_
                  refine RunL.ok (OpOk.move rfl) rfl ?_
                  refine RunL.ok (OpOk.lenR rfl rfl (Rd.right rdz2) rfl) rfl ?_
                  refine RunL.ok (OpOk.asT (OpOk.lss rfl rfl) (by omega)) rfl ?_
                  refine RunL.nil ?_
                  refine Run.condT rfl ?_
                  refine Run.skip ?_
                  refine Run.seq ?_
                  refine Run.block ?_
                  refine Run.seq ?_
                  refine Run.know (fun w s => (s.conv (frl (frl (frl (frl (frl rfl)))))).ownRd0) (fun rdt1 => ?_)
                  refine Run.know (fun w s => (s.conv (frl rfl)).ownRd0) (fun rdt2 => ?_)
                  (apply Run.drawD [15] (by rfl) (sep_emp _).symm; case hchk => kernel_rfl)
                  refine Sd.quiet 0 _ _ rfl rfl rfl rfl rfl (QOp.ok (fun X => OpOk.move rfl)) ?_
                  refine Sd.quiet 1 _ _ rfl rfl rfl rfl rfl (QOp.ok (fun X => OpOk.move rfl)) ?_
                  refine Sd.quiet 2 _ _ rfl rfl rfl rfl rfl (QOp.ok (fun X => OpOk.move rfl)) ?_
                  refine Sd.quiet 3 _ _ rfl rfl rfl rfl rfl (QOp.ok (fun X => OpOk.move rfl)) ?_
                  refine Sd.quiet 4 _ _ rfl rfl rfl rfl rfl (QOp.ok (fun X => OpOk.idx1N rfl ti37 rfl (Rd.right rdz2).left.left rfl (by omega))) ?_
                  refine Sd.quiet 5 _ _ rfl rfl rfl rfl rfl (QOp.ok (fun X => OpOk.load rfl rfl rfl (Rd.cell (Rd.right rdz2).left.left (by first | assumption | rfl)))) ?_
                  refine Sd.quiet 6 _ _ rfl rfl rfl rfl rfl (QOp.ok (fun X => OpOk.strOf rfl rfl rfl rfl (Rd.right rdt2).left.left.left)) ?_
                  refine Sd.quiet 7 _ _ rfl rfl rfl rfl rfl (QOp.ok (fun X => OpOk.fieldAddr fld68_2 rfl)) ?_
                  refine Sd.quiet 8 _ _ rfl rfl rfl rfl rfl (QOp.ok (fun X => OpOk.load rfl rfl rfl (Blk.out Blk.pts.left.left.left.left.left _ _ rfl))) ?_
                  refine Sd.quiet 9 _ _ rfl rfl rfl rfl rfl (QOp.ok (fun X => OpOk.move rfl)) ?_
                  refine Sd.quiet 10 _ _ rfl rfl rfl rfl rfl (QOp.ok (fun X => OpOk.idx1N rfl ti37 rfl rd3.left.left.left.left.left.left.left.left.left.left rfl (by omega))) ?_
                  refine Sd.quiet 11 _ _ rfl rfl rfl rfl rfl (QOp.ok (fun X => OpOk.load rfl rfl rfl (Rd.cell rd3.left.left.left.left.left.left.left.left.left.left (by first | assumption | rfl)))) ?_
                  refine Sd.quiet 12 _ _ rfl rfl rfl rfl rfl (QOp.ok (fun X => OpOk.strOf rfl rfl rfl rfl rdi.left.left.left.left.left.left.left.left.left.left)) ?_
                  refine Sd.quiet 13 _ _ rfl rfl rfl rfl rfl (QOp.ok (fun X => OpOk.asT (OpOk.eqlSS rfl rfl) (by omega))) ?_
                  refine Sd.quiet 14 _ _ rfl rfl rfl rfl rfl (QOp.ok (fun X => OpOk.pickT rfl rfl)) ?_
                  (apply Sd.tail; case hall => kernel_rfl)
                  refine RunL.mem (fl2 (sep_emp _) (sep_emp _)) ?_
                  refine RunL.ok (OpOk.assign rfl) rfl ?_
                  refine RunL.nil ?_
                  refine Run.seq ?_
                  refine Run.region ?_
                  refine RunL.ok (OpOk.assign rfl) rfl ?_
                  refine RunL.nil ?_
                  refine Run.block ?_
                  refine Run.jump ((Run.loopJ (X := Nat × List UInt8) (fun x => [(14, .int .i64 (x.1 : Int)), (13, .int .i64 (k : Int)), (11, vin), (10, .bool true), (9, .pointer (some ⟨by2, 0, none⟩)), (8, .int .i64 (i : Int)), (7, .pointer (some ⟨bx7, 0, none⟩)), (5, .pointer (some ⟨x5, 0, none⟩)), (1, u)]) (fun x => old w0 * J2 * pts x5 (.cells #[.int .i64 (s), .int .i64 (w), z7] 100 (0, 0)) * own 5 1 z7 ((bs ++ flatB (ops.getD i default).2.2.2)).length (B ((bs ++ flatB (ops.getD i default).2.2.2))) * pts bx7 (.cells #[.int .i64 (s), .int .i64 (rw), S ((bs ++ flatB (ops.getD i default).2.2.2))] 75 (0, 0)) * pts by2 (.cells (Value.agg (encO (ops.getD i default)).toArray).cells 68 (0, 0)) * ownsB 5 (ms.drop (k + 1)) * own 5 1 (ms.getD k default).1 (ms.getD k default).2.length (B x.2) * own 37 1 vin (ops.getD i default).2.2.2.length (Fl encV ms)) (fun x => x.1 ≤ (ms.getD k default).2.length ∧ x.2.length = (ms.getD k default).2.length) (fun x => (ms.getD k default).2.length - x.1) (0, (ms.getD k default).2) ⟨Nat.zero_le _, rfl⟩ (fun x hx ih4 => ?_))) ⟨rfl, rfl, rfl, rfl, rfl, rfl, rfl, rfl, rfl, trivial⟩ ((Grew.refl _))
                  obtain ⟨q, zs⟩ := x
                  simp only at hx ih4 ⊢
                  obtain ⟨hq, hzl⟩ := hx
                  rcases Nat.lt_or_ge q (ms.getD k default).2.length with hq1 | hq1
                  · refine Run.seq ?_
                    refine Run.seq ?_
                    refine Run.region ?_
                    refine RunL.ok (OpOk.move rfl) rfl ?_
                    refine RunL.ok (OpOk.move rfl) rfl ?_
                    refine RunL.ok (OpOk.move rfl) rfl ?_
                    refine RunL.ok (OpOk.idx1N rfl ti37 rfl (Rd.right rdz2) rfl (by omega)) rfl ?_
                    refine RunL.ok (OpOk.load rfl rfl rfl (Rd.cell (Rd.right rdz2) (by first | assumption | rfl))) rfl ?_
                    refine RunL.know (fun w s => (s.conv (frl rfl)).ownRd0) (fun rdr1 => ?_)
                    refine RunL.ok (OpOk.lenR rfl rfl (Rd.right rdr1).left rfl) rfl ?_
                    refine RunL.ok (OpOk.asT (OpOk.lss rfl rfl) (by omega)) rfl ?_
                    refine RunL.nil ?_
                    refine Run.condT rfl ?_
                    refine Run.skip ?_
                    refine Run.seq ?_
                    refine Run.block ?_
                    (apply Run.drawD [14] (by rfl) (sep_emp _).symm; case hchk => kernel_rfl)
                    refine Sd.quiet 0 _ _ rfl rfl rfl rfl rfl (QOp.ok (fun X => OpOk.move rfl)) ?_
                    refine Sd.quiet 1 _ _ rfl rfl rfl rfl rfl (QOp.ok (fun X => OpOk.move rfl)) ?_
                    refine Sd.quiet 2 _ _ rfl rfl rfl rfl rfl (QOp.ok (fun X => OpOk.idx1N rfl ti37 rfl (Rd.right rdz2).left.left rfl (by omega))) ?_
                    refine Sd.quiet 3 _ _ rfl rfl rfl rfl rfl (QOp.ok (fun X => OpOk.load rfl rfl rfl (Rd.cell (Rd.right rdz2).left.left (by first | assumption | rfl)))) ?_
                    refine Sd.quiet 4 _ _ rfl rfl rfl rfl rfl (QOp.ok (fun X => OpOk.move rfl)) ?_
                    refine Sd.quiet 5 _ _ rfl rfl rfl rfl rfl (QOp.ok (fun X => OpOk.move rfl)) ?_
                    refine Sd.quiet 6 _ _ rfl rfl rfl rfl rfl (QOp.ok (fun X => OpOk.move rfl)) ?_
                    refine Sd.quiet 7 _ _ rfl rfl rfl rfl rfl (QOp.ok (fun X => OpOk.idx1N rfl ti37 rfl (Rd.right rdz2).left.left rfl (by omega))) ?_
                    refine Sd.quiet 8 _ _ rfl rfl rfl rfl rfl (QOp.ok (fun X => OpOk.load rfl rfl rfl (Rd.cell (Rd.right rdz2).left.left (by first | assumption | rfl)))) ?_
                    refine Sd.quiet 9 _ _ rfl rfl rfl rfl rfl (QOp.ok (fun X => OpOk.move rfl)) ?_
                    refine Sd.quiet 10 _ _ rfl rfl rfl rfl rfl (QOp.ok (fun X => OpOk.idx1N rfl ti5 rfl (Rd.right rdr1).left.left.left rfl (by omega))) ?_
                    refine Sd.quiet 11 _ _ rfl rfl rfl rfl rfl (QOp.ok (fun X => OpOk.load rfl rfl rfl (Rd.getB (Rd.right rdr1).left.left.left (by omega)))) ?_
                    refine Sd.quiet 12 _ _ rfl rfl rfl rfl rfl (QOp.ok (fun X => OpOk.xor rfl rfl (x255 _))) ?_
                    refine Sd.quiet 13 _ _ rfl rfl rfl rfl rfl (QOp.ok (fun X => OpOk.idx1N rfl ti5 rfl (Rd.right rdr1).left.left.left rfl (by omega))) ?_
                    (apply Sd.tail; case hall => kernel_rfl)
                    refine RunL.mem (fl2 (sep_emp _) (sep_emp _)) ?_
                    refine RunL.storeB _ ti5 rfl rfl rfl (frl rfl) (by omega) ?_
                    refine RunL.nil ?_
                    refine Run.inBlock ?_
                    refine Run.region ?_
                    refine RunL.ok (OpOk.move rfl) rfl ?_
                    refine RunL.ok (OpOk.addN _ 1 rfl rfl rfl rfl (by omega)) rfl ?_
                    refine RunL.ok (OpOk.assign rfl) rfl ?_
                    refine RunL.nil ?_
                    refine Run.jump ((ih4 (q + 1, _) ⟨by dsimp only; omega, by simp [hzl]⟩ (by dsimp only; omega))) ⟨rfl, rfl, rfl, rfl, rfl, rfl, rfl, rfl, rfl, trivial⟩ (Grew.of (frc (frl rfl) rfl) (Grew.refl _))
                  · obtain rfl : q = (ms.getD k default).2.length := by omega
                    clear ih4
                    refine Run.seq ?_
                    refine Run.seq ?_
                    refine Run.region ?_
                    refine RunL.ok (OpOk.move rfl) rfl ?_
                    refine RunL.ok (OpOk.move rfl) rfl ?_
                    refine RunL.ok (OpOk.move rfl) rfl ?_
                    refine RunL.ok (OpOk.idx1N rfl ti37 rfl (Rd.right rdz2) rfl (by omega)) rfl ?_
                    refine RunL.ok (OpOk.load rfl rfl rfl (Rd.cell (Rd.right rdz2) (by first | assumption | rfl))) rfl ?_
                    refine RunL.know (fun w s => (s.conv (frl rfl)).ownRd0) (fun rdr1 => ?_)
                    refine RunL.ok (OpOk.lenR rfl rfl (Rd.right rdr1).left rfl) rfl ?_
                    refine RunL.ok (OpOk.asF (OpOk.lss rfl rfl) (by omega)) rfl ?_
                    refine RunL.nil ?_
                    refine Run.condF rfl ?_
                    refine Run.exit rfl ?_
                    refine Run.inBlock ?_
                    refine Run.region ?_
                    refine RunL.ok (OpOk.move rfl) rfl ?_
                    refine RunL.ok (OpOk.addN _ 1 rfl rfl rfl rfl (by omega)) rfl ?_
                    refine RunL.ok (OpOk.assign rfl) rfl ?_
                    refine RunL.nil ?_
                    refine Run.jump ((ih3 (k + 1, _) (by dsimp only; omega) (by dsimp only; omega))) ⟨rfl, rfl, rfl, rfl, rfl, rfl, rfl, rfl, trivial⟩ (Grew.of (Eq.trans (frc rfl (frc (frl rfl) (frc (frl rfl) (frc (frl rfl) (frc (frl rfl) (frc (frl rfl) rfl)))))) (congrArg (· * _) (congrArg (· * _) (congrArg (· * _) (congrArg (· * _) (congrArg (· * _) (congrArg (· * _) (asg as1)))))))) (Grew.refl _))
                · obtain rfl : k = (ops.getD i default).2.2.2.length := by omega
                  clear ih3
                  refine Run.seq ?_
                  refine Run.seq ?_
                  refine Run.region ?_
                  refine RunL.ok (OpOk.move rfl) rfl ?_
                  refine RunL.ok (OpOk.move rfl) rfl ?_
                  refine RunL.ok (OpOk.lenR rfl rfl (Rd.right rdz2) rfl) rfl ?_
                  refine RunL.ok (OpOk.asF (OpOk.lss rfl rfl) (by omega)) rfl ?_
                  refine RunL.nil ?_
                  refine Run.condF rfl ?_
                  refine Run.exit rfl ?_
                  refine Run.inBlock ?_
                  refine Run.seq ?_
                  refine Run.region ?_
                  refine RunL.ok (OpOk.move rfl) rfl ?_
                  refine RunL.know (fun w s => (s.conv (frl rfl)).ownsB0) (fun alt1 => ?_)
                  refine RunL.mem (frc (frl (frl (frl (frl rfl)))) (frc (frl (frl (frl (frl rfl)))) rfl)) ?_
                  refine RunL.call cal31 rfl (s31 (by omega)) rfl (fun vt2 At2 ht2 => ?_)
                  obtain rfl := ht2
                  refine RunL.ok (OpOk.assign rfl) rfl ?_
                  refine RunL.nil ?_
                  refine Run.seq ?_
                  refine Run.seq ?_
                  refine Run.know (fun w s => (s.conv (frl rfl)).ownRd0) (fun rdt3 => ?_)
                  refine Run.know (fun w s => (s.conv rfl).ownRd0) (fun rdt4 => ?_)
                  (apply Run.drawD [] (by rfl) (Eq.trans (frc (frl rfl) (frc (frl rfl) rfl)) (asg rfl)); case hchk => kernel_rfl)
                  refine Sd.quiet 0 _ _ rfl rfl rfl rfl rfl (QOp.ok (fun X => OpOk.move rfl)) ?_
                  refine Sd.quiet 1 _ _ rfl rfl rfl rfl rfl (QOp.ok (fun X => OpOk.not rfl)) ?_
                  refine Sd.quiet 2 _ _ rfl rfl rfl rfl rfl (QOp.ok (fun X => OpOk.move rfl)) ?_
                  refine Sd.quiet 3 _ _ rfl rfl rfl rfl rfl (QOp.ok (fun X => OpOk.move rfl)) ?_
                  refine Sd.quiet 4 _ _ rfl rfl rfl rfl rfl (QOp.ok (fun X => OpOk.strOf rfl rfl rfl rfl (Rd.right rdt4).left.left)) ?_
                  refine Sd.quiet 5 _ _ rfl rfl rfl rfl rfl (QOp.ok (fun X => OpOk.move rfl)) ?_
                  refine Sd.quiet 6 _ _ rfl rfl rfl rfl rfl (QOp.ok (fun X => OpOk.nilOk rfl)) ?_
                  refine Sd.quiet 7 _ _ rfl rfl rfl rfl rfl (QOp.ok (fun X => OpOk.fieldAddr fld75_2 rfl)) ?_
                  refine Sd.quiet 8 _ _ rfl rfl rfl rfl rfl (QOp.ok (fun X => OpOk.load rfl rfl rfl (Blk.out Blk.pts.left.left.left.left.left.left _ _ rfl))) ?_
                  refine Sd.quiet 9 _ _ rfl rfl rfl rfl rfl (QOp.ok (fun X => OpOk.neqSS rfl rfl)) ?_
                  refine Sd.quiet 10 _ _ rfl rfl rfl rfl rfl (QOp.ok (fun X => OpOk.pickF rfl rfl)) ?_
                  refine Sd.quiet 11 _ _ rfl rfl rfl rfl rfl (QOp.ok (fun X => OpOk.move rfl)) ?_
                  refine Sd.splitBF (bnF (by first | omega | with_reducible rfl | assumption)) ?_
                  refine Sd.quiet 12 _ _ rfl rfl rfl rfl rfl (QOp.ok (fun X => OpOk.move rfl)) ?_
                  refine Sd.quiet 14 _ _ rfl rfl rfl rfl rfl (QOp.ok (fun X => OpOk.move rfl)) ?_
                  refine Sd.quiet 15 _ _ rfl rfl rfl rfl rfl (QOp.ok (fun X => OpOk.lenR rfl rfl (Rd.right rdt4).left.left rfl)) ?_
                  (refine Sd.exec 13 rfl rfl rfl rfl rfl ?hrest (by rfl) (fun Xt5 Kt5 hKt5 => ?_); case hrest => kernel_rfl)
                  refine RunL.mem (fl2 (sep_emp _) (flS rfl)) ?_
                  refine RunL.call cal33 rfl (s33) rfl (fun vt6 At6 ht6 => ?_)
                  obtain ⟨rfl, rfl⟩ := ht6
                  refine Sd.ret hKt5 (Eq.trans rfl (gp2 (sep_emp _).symm (asg rfl))) ⟨_, (emp_sep _).symm⟩ ?_
                  refine Sd.quiet 16 _ _ rfl rfl rfl rfl rfl (QOp.ok (fun X => OpOk.as (c := false) (OpOk.neq rfl rfl) (by rw [decide_eq_true (by omega)]; rfl))) ?_
                  refine Sd.quiet 17 _ _ rfl rfl rfl rfl rfl (QOp.ok (fun X => OpOk.pickF rfl rfl)) ?_
                  (apply Sd.tail; case hall => kernel_rfl)
                  refine RunL.mem (fl2 (flS rfl) (sep_emp _)) ?_
                  refine RunL.nil ?_
                  refine Run.condF rfl ?_
                  refine Run.skip ?_
                  refine Run.seq ?_
                  refine Run.region ?_
                  refine RunL.ok (OpOk.assign rfl) rfl ?_
                  refine RunL.nil ?_
                  refine Run.block ?_
                  refine Run.jump ((Run.loopJ (X := Nat × Asn × List UInt8) (fun x => [(16, .int .i64 (x.1 : Int)), (15, vt2), (8, .int .i64 (i : Int)), (7, .pointer (some ⟨bx7, 0, none⟩)), (5, .pointer (some ⟨x5, 0, none⟩)), (1, u)]) (fun x => old w0 * x.2.1 * pts x5 (.cells #[.int .i64 (s), .int .i64 (w), z7] 100 (0, 0)) * own 5 1 z7 ((bs ++ flatB (ops.getD i default).2.2.2)).length (B ((bs ++ flatB (ops.getD i default).2.2.2))) * pts bx7 (.cells #[.int .i64 (s), .int .i64 (rw), S ((bs ++ flatB (ops.getD i default).2.2.2))] 75 (0, 0)) * own 5 1 vt2 ((bs ++ flatB (ops.getD i default).2.2.2)).length (B x.2.2)) (fun x => x.1 ≤ ((bs ++ flatB (ops.getD i default).2.2.2)).length ∧ x.2.2.length = ((bs ++ flatB (ops.getD i default).2.2.2)).length) (fun x => ((bs ++ flatB (ops.getD i default).2.2.2)).length - x.1) (0, _, (bs ++ flatB (ops.getD i default).2.2.2)) ⟨Nat.zero_le _, rfl⟩ (fun x hx ih5 => ?_))) ⟨rfl, rfl, rfl, rfl, rfl, rfl, trivial⟩ (Grew.of (Eq.trans (frc (frl (frl rfl)) (frc (frl (frl (frl (frl (frl rfl))))) rfl)) (congrArg (· * _) (congrArg (· * _) (congrArg (· * _) (congrArg (· * _) (asg (asg (asg as1)))))))) (Grew.refl _))
                  obtain ⟨q, J5, zs⟩ := x
                  simp only at hx ih5 ⊢
                  obtain ⟨hq, hzl⟩ := hx
                  rcases Nat.lt_or_ge q ((bs ++ flatB (ops.getD i default).2.2.2)).length with hq1 | hq1
                  · refine Run.seq ?_
                    refine Run.seq ?_
                    refine Run.region ?_
                    refine RunL.ok (OpOk.move rfl) rfl ?_
                    refine RunL.ok (OpOk.move rfl) rfl ?_
                    refine RunL.know (fun w s => (s.conv rfl).ownRd0) (fun rdq1 => ?_)
                    refine RunL.ok (OpOk.lenR rfl rfl (Rd.right rdq1) rfl) rfl ?_
                    refine RunL.ok (OpOk.asT (OpOk.lss rfl rfl) (by omega)) rfl ?_
                    refine RunL.nil ?_
                    refine Run.condT rfl ?_
                    refine Run.skip ?_
                    refine Run.seq ?_
                    refine Run.block ?_
                    refine Run.region ?_
                    refine RunL.ok (OpOk.move rfl) rfl ?_
                    refine RunL.ok (OpOk.move rfl) rfl ?_
                    refine RunL.ok (OpOk.idx1N rfl ti5 rfl (Rd.right rdq1) rfl (by omega)) rfl ?_
                    refine RunL.storeOwn ti5 rfl rfl rfl rfl (by omega) ?_
                    refine RunL.nil ?_
                    refine Run.inBlock ?_
                    refine Run.region ?_
                    refine RunL.ok (OpOk.move rfl) rfl ?_
                    refine RunL.ok (OpOk.addN _ 1 rfl rfl rfl rfl (by omega)) rfl ?_
                    refine RunL.ok (OpOk.assign rfl) rfl ?_
                    refine RunL.nil ?_
                    rw [show (B zs).set q (.int .u8 7) = B (zs.set q 7) from B_set zs q 7]
                    refine Run.jump ((ih5 (q + 1, _, _) ⟨by dsimp only; omega, by simp [hzl]⟩ (by dsimp only; omega))) ⟨rfl, rfl, rfl, rfl, rfl, rfl, trivial⟩ (Grew.of (congrArg (· * _) (congrArg (· * _) (congrArg (· * _) (congrArg (· * _) as1)))) (Grew.refl _))
                  · obtain rfl : q = ((bs ++ flatB (ops.getD i default).2.2.2)).length := by omega
                    clear ih5
                    refine Run.seq ?_
                    refine Run.seq ?_
                    refine Run.region ?_
                    refine RunL.ok (OpOk.move rfl) rfl ?_
                    refine RunL.ok (OpOk.move rfl) rfl ?_
                    refine RunL.know (fun w s => (s.conv rfl).ownRd0) (fun rdq1 => ?_)
                    refine RunL.ok (OpOk.lenR rfl rfl (Rd.right rdq1) rfl) rfl ?_
                    refine RunL.ok (OpOk.asF (OpOk.lss rfl rfl) (by omega)) rfl ?_
                    refine RunL.nil ?_
                    refine Run.condF rfl ?_
                    refine Run.exit rfl ?_
                    refine Run.inBlock ?_
                    refine Run.region ?_
                    refine RunL.ok (OpOk.move rfl) rfl ?_
                    refine RunL.ok (OpOk.addN _ 1 rfl rfl rfl rfl (by omega)) rfl ?_
                    refine RunL.ok (OpOk.assign rfl) rfl ?_
                    refine RunL.nil ?_
                    refine Run.jump ((ih (i + 1, _, z7, w, rw, (bs ++ flatB (ops.getD i default).2.2.2)) ⟨by dsimp only; omega, by dsimp only; omega, hB1, hB2, hB3⟩ (by dsimp only; omega))) ⟨rfl, rfl, rfl, rfl, trivial⟩ (Grew.of (Eq.trans (frc (frl rfl) (frc (frl rfl) (frc (frl rfl) rfl))) (congrArg (· * _) (congrArg (· * _) (congrArg (· * _) (asg as1))))) (Grew.refl _))
              · obtain rfl : w = rw := by omega
                rcases Int.lt_or_le w (flatB (ops.getD i default).2.2.2).length with hn | hn
                · have htl : ((flatB (ops.getD i default).2.2.2).take w.toNat).length = w.toNat := by rw [List.length_take]; omega
                  have hap : (bs ++ (flatB (ops.getD i default).2.2.2).take w.toNat).length = bs.length + w.toNat := by rw [List.length_append, htl]
                  have hB1 : (bs ++ (flatB (ops.getD i default).2.2.2).take w.toNat).length ≤ 1048576 * (i + 1) := by omega
                  have hB2 : (0 : Int) = max 0 (-1) := rfl
                  have hB3 : (0 : Int) ≤ 9223372036854775807 := by decide
                  refine Run.seq ?_
                  refine Run.seq ?_
                  refine Run.region ?_
                  refine RunL.ok (OpOk.move rfl) rfl ?_
                  refine RunL.ok (OpOk.fieldAddr fld68_2 rfl) rfl ?_
                  refine RunL.ok (OpOk.load rfl rfl rfl (Blk.out Blk.pts.left.left _ _ rfl)) rfl ?_
                  refine RunL.ok (OpOk.lenR rfl rfl rd3.left.left.left.left.left.left.left rfl) rfl ?_
                  refine RunL.ok (OpOk.asF (OpOk.lss rfl rfl) (by omega)) rfl ?_
                  refine RunL.nil ?_
                  refine Run.condF rfl ?_
                  refine Run.exit rfl ?_
                  refine Run.seq ?_
                  refine Run.know (fun w s => (s.conv (frl (frl (frl (frl rfl))))).ownRd0) (fun rdz1 => ?_)
                  refine Run.know (fun w s => (s.conv rfl).ownRd0) (fun rdz2 => ?_)
                  refine Run.drop [10] ?_
                  (apply Run.drawD [] (by rfl) (Eq.trans (frc (frl (frl (frl rfl))) (frc (frl (frl (frl rfl))) (frc (frl (frl (frl rfl))) rfl))) (asg (asg rfl))); case hchk => kernel_rfl)
                  refine Sd.quiet 0 _ _ rfl rfl rfl rfl rfl (QOp.ok (fun X => OpOk.move rfl)) ?_
                  refine Sd.quiet 1 _ _ rfl rfl rfl rfl rfl (QOp.ok (fun X => OpOk.move rfl)) ?_
                  refine Sd.quiet 3 _ _ rfl rfl rfl rfl rfl (QOp.ok (fun X => OpOk.move rfl)) ?_
                  refine Sd.quiet 4 _ _ rfl rfl rfl rfl rfl (QOp.ok (fun X => OpOk.fieldAddr fld68_2 rfl)) ?_
                  refine Sd.quiet 5 _ _ rfl rfl rfl rfl rfl (QOp.ok (fun X => OpOk.load rfl rfl rfl (Blk.out Blk.pts.left.left.left.left _ _ rfl))) ?_
                  (refine Sd.exec 2 rfl rfl rfl rfl rfl ?hrest (by rfl) (fun Xz3 Kz3 hKz3 => ?_); case hrest => kernel_rfl)
                  refine RunL.mem (fl2 (sep_emp _) (flS (flS rfl))) ?_
                  refine RunL.know (fun w s => (s.conv (frl (frl (frl (frl (frl rfl)))))).ownsB0) (fun alz4 => ?_)
                  refine RunL.mem (frc (frl rfl) (frc (frl rfl) rfl)) ?_
                  refine RunL.call cal32 rfl (s32d (Rd.right rdz2).left.left (Alls.right alz4).left.left.left (by omega) (by assumption) (by omega) (by assumption) (by assumption) (by omega)) rfl (fun vz8 Az8 hz8 => ?_)
                  obtain ⟨z9, ⟨z10, ⟨rfl, rfl⟩⟩⟩ := hz8
                  refine RunL.know (fun w s => (s.conv rfl).ownRd0) (fun rdz11 => ?_)
                  refine Sd.ret hKz3 (Eq.trans (frc (frl (frl (frl rfl))) rfl) (gp2 rfl (asg (asg rfl)))) ⟨_, (emp_sep _).symm⟩ ?_
                  (refine Sd.exec 6 rfl rfl rfl rfl rfl ?hrest (by rfl) (fun Xz12 Kz12 hKz12 => ?_); case hrest => kernel_rfl)
                  refine RunL.mem (fl2 (flS (flS rfl)) rfl) ?_
                  refine RunL.call cal34 rfl (s34d rd3.left.left.left.left.left.left.left.left al3.left.left.left.left.left.left.left.left (by assumption) (by assumption) (by assumption) (by assumption) (by assumption) (by omega)) rfl (fun vz16 Az16 hz16 => ?_)
                  obtain ⟨rfl, rfl⟩ := hz16
                  refine Sd.ret hKz12 (Eq.trans rfl (gp2 (sep_emp _).symm (asg (asg (asg rfl))))) ⟨_, rfl⟩ ?_
                  refine Sd.quiet 7 _ _ rfl rfl rfl rfl rfl (QOp.ok (fun X => OpOk.asT (OpOk.eql rfl rfl) (by omega))) ?_
                  refine Sd.quiet 8 _ _ rfl rfl rfl rfl rfl (QOp.ok (fun X => OpOk.assign rfl)) ?_
                  (apply Sd.tail; case hall => kernel_rfl)
                  refine RunL.mem (fl2 (flS (flS (flS rfl))) (sep_emp _)) ?_
                  refine RunL.nil ?_
                  refine Run.seq ?_
                  refine Run.region ?_
                  refine RunL.ok (OpOk.assign rfl) rfl ?_
                  refine RunL.nil ?_
                  refine Run.block ?_
                  rw [hflat]
                  refine Run.jump ((Run.loopJ (X := Nat × Asn) (fun x => [(13, .int .i64 (x.1 : Int)), (11, vin), (10, .bool true), (9, .pointer (some ⟨by2, 0, none⟩)), (8, .int .i64 (i : Int)), (7, .pointer (some ⟨bx7, 0, none⟩)), (5, .pointer (some ⟨x5, 0, none⟩)), (1, u)]) (fun x => old w0 * x.2 * pts x5 (.cells #[.int .i64 (s), .int .i64 (0), z9] 100 (0, 0)) * own 5 1 z9 ((bs ++ List.take w.toNat (flatB (ops.getD i default).2.2.2))).length (B ((bs ++ List.take w.toNat (flatB (ops.getD i default).2.2.2)))) * pts bx7 (.cells #[.int .i64 (s), .int .i64 (0), S ((bs ++ List.take w.toNat (flatB (ops.getD i default).2.2.2)))] 75 (0, 0)) * pts by2 (.cells (Value.agg (encO (ops.getD i default)).toArray).cells 68 (0, 0)) * ownsB 5 (ms.drop x.1) * own 37 1 vin (ops.getD i default).2.2.2.length (Fl encV ms)) (fun x => x.1 ≤ (ops.getD i default).2.2.2.length) (fun x => (ops.getD i default).2.2.2.length - x.1) (0, _) (Nat.zero_le _) (fun x hx ih3 => ?_))) ⟨rfl, rfl, rfl, rfl, rfl, rfl, rfl, rfl, trivial⟩ (Grew.of (Eq.trans (frc (frl (frl (frl (frl rfl)))) (frc (frl (frl (frl (frl rfl)))) (frc (frl (frl (frl (frl rfl)))) rfl))) (congrArg (· * _) (congrArg (· * _) (congrArg (· * _) (congrArg (· * _) (congrArg (· * _) (congrArg (· * _) (asg as1)))))))) (Grew.refl _))
                  obtain ⟨k, J2⟩ := x
                  simp only at hx ih3 ⊢
                  rcases Nat.lt_or_ge k (ops.getD i default).2.2.2.length with hk1 | hk1
                  · have rdi : Rd w0 (old w0) ((ops.getD i default).2.2.2.getD k default).1 1 ((ops.getD i default).2.2.2.getD k default).2.length (B ((ops.getD i default).2.2.2.getD k default).2) := al3.get hk1
                    have hv := Fl_V (ops.getD i default).2.2.2 k hk1
                    have hvm := Fl_V ms k (by omega)
                    have hsnd := snd_at hms k
                    have hsl := congrArg List.length hsnd
                    have hmk := rdi.max
                    rw [ownsB_drop 5 (show k < ms.length by omega)]
                    simp only [← sep_assoc]
                    refine Run.seq ?_
                    refine Run.seq ?_
                    refine Run.region ?_
                    refine RunL.ok (OpOk.move rfl) rfl ?_
                    refine RunL.ok (OpOk.move rfl) rfl ?_
                    refine RunL.ok (OpOk.lenR rfl rfl (Rd.right rdz2) rfl) rfl ?_
                    refine RunL.ok (OpOk.asT (OpOk.lss rfl rfl) (by omega)) rfl ?_
                    refine RunL.nil ?_
                    refine Run.condT rfl ?_
                    refine Run.skip ?_
                    refine Run.seq ?_
                    refine Run.block ?_
                    refine Run.seq ?_
                    refine Run.know (fun w s => (s.conv (frl (frl (frl (frl (frl rfl)))))).ownRd0) (fun rdt1 => ?_)
                    refine Run.know (fun w s => (s.conv (frl rfl)).ownRd0) (fun rdt2 => ?_)
                    (apply Run.drawD [15] (by rfl) (sep_emp _).symm; case hchk => kernel_rfl)
                    refine Sd.quiet 0 _ _ rfl rfl rfl rfl rfl (QOp.ok (fun X => OpOk.move rfl)) ?_
                    refine Sd.quiet 1 _ _ rfl rfl rfl rfl rfl (QOp.ok (fun X => OpOk.move rfl)) ?_
                    refine Sd.quiet 2 _ _ rfl rfl rfl rfl rfl (QOp.ok (fun X => OpOk.move rfl)) ?_
                    refine Sd.quiet 3 _ _ rfl rfl rfl rfl rfl (QOp.ok (fun X => OpOk.move rfl)) ?_
                    refine Sd.quiet 4 _ _ rfl rfl rfl rfl rfl (QOp.ok (fun X => OpOk.idx1N rfl ti37 rfl (Rd.right rdz2).left.left rfl (by omega))) ?_
                    refine Sd.quiet 5 _ _ rfl rfl rfl rfl rfl (QOp.ok (fun X => OpOk.load rfl rfl rfl (Rd.cell (Rd.right rdz2).left.left (by first | assumption | rfl)))) ?_
                    refine Sd.quiet 6 _ _ rfl rfl rfl rfl rfl (QOp.ok (fun X => OpOk.strOf rfl rfl rfl rfl (Rd.right rdt2).left.left.left)) ?_
                    refine Sd.quiet 7 _ _ rfl rfl rfl rfl rfl (QOp.ok (fun X => OpOk.fieldAddr fld68_2 rfl)) ?_
                    refine Sd.quiet 8 _ _ rfl rfl rfl rfl rfl (QOp.ok (fun X => OpOk.load rfl rfl rfl (Blk.out Blk.pts.left.left.left.left.left _ _ rfl))) ?_
                    refine Sd.quiet 9 _ _ rfl rfl rfl rfl rfl (QOp.ok (fun X => OpOk.move rfl)) ?_
                    refine Sd.quiet 10 _ _ rfl rfl rfl rfl rfl (QOp.ok (fun X => OpOk.idx1N rfl ti37 rfl rd3.left.left.left.left.left.left.left.left.left.left rfl (by omega))) ?_
                    refine Sd.quiet 11 _ _ rfl rfl rfl rfl rfl (QOp.ok (fun X => OpOk.load rfl rfl rfl (Rd.cell rd3.left.left.left.left.left.left.left.left.left.left (by first | assumption | rfl)))) ?_
                    refine Sd.quiet 12 _ _ rfl rfl rfl rfl rfl (QOp.ok (fun X => OpOk.strOf rfl rfl rfl rfl rdi.left.left.left.left.left.left.left.left.left.left)) ?_
                    refine Sd.quiet 13 _ _ rfl rfl rfl rfl rfl (QOp.ok (fun X => OpOk.asT (OpOk.eqlSS rfl rfl) (by omega))) ?_
                    refine Sd.quiet 14 _ _ rfl rfl rfl rfl rfl (QOp.ok (fun X => OpOk.pickT rfl rfl)) ?_
                    (apply Sd.tail; case hall => kernel_rfl)
                    refine RunL.mem (fl2 (sep_emp _) (sep_emp _)) ?_
                    refine RunL.ok (OpOk.assign rfl) rfl ?_
                    refine RunL.nil ?_
                    refine Run.seq ?_
                    refine Run.region ?_
                    refine RunL.ok (OpOk.assign rfl) rfl ?_
                    refine RunL.nil ?_
                    refine Run.block ?_
                    refine Run.jump ((Run.loopJ (X := Nat × List UInt8) (fun x => [(14, .int .i64 (x.1 : Int)), (13, .int .i64 (k : Int)), (11, vin), (10, .bool true), (9, .pointer (some ⟨by2, 0, none⟩)), (8, .int .i64 (i : Int)), (7, .pointer (some ⟨bx7, 0, none⟩)), (5, .pointer (some ⟨x5, 0, none⟩)), (1, u)]) (fun x => old w0 * J2 * pts x5 (.cells #[.int .i64 (s), .int .i64 (0), z9] 100 (0, 0)) * own 5 1 z9 ((bs ++ List.take w.toNat (flatB (ops.getD i default).2.2.2))).length (B ((bs ++ List.take w.toNat (flatB (ops.getD i default).2.2.2)))) * pts bx7 (.cells #[.int .i64 (s), .int .i64 (0), S ((bs ++ List.take w.toNat (flatB (ops.getD i default).2.2.2)))] 75 (0, 0)) * pts by2 (.cells (Value.agg (encO (ops.getD i default)).toArray).cells 68 (0, 0)) * ownsB 5 (ms.drop (k + 1)) * own 5 1 (ms.getD k default).1 (ms.getD k default).2.length (B x.2) * own 37 1 vin (ops.getD i default).2.2.2.length (Fl encV ms)) (fun x => x.1 ≤ (ms.getD k default).2.length ∧ x.2.length = (ms.getD k default).2.length) (fun x => (ms.getD k default).2.length - x.1) (0, (ms.getD k default).2) ⟨Nat.zero_le _, rfl⟩ (fun x hx ih4 => ?_))) ⟨rfl, rfl, rfl, rfl, rfl, rfl, rfl, rfl, rfl, trivial⟩ ((Grew.refl _))
                    obtain ⟨q, zs⟩ := x
                    simp only at hx ih4 ⊢
                    obtain ⟨hq, hzl⟩ := hx
                    rcases Nat.lt_or_ge q (ms.getD k default).2.length with hq1 | hq1
                    · refine Run.seq ?_
                      refine Run.seq ?_
                      refine Run.region ?_
                      refine RunL.ok (OpOk.move rfl) rfl ?_
                      refine RunL.ok (OpOk.move rfl) rfl ?_
                      refine RunL.ok (OpOk.move rfl) rfl ?_
                      refine RunL.ok (OpOk.idx1N rfl ti37 rfl (Rd.right rdz2) rfl (by omega)) rfl ?_
                      refine RunL.ok (OpOk.load rfl rfl rfl (Rd.cell (Rd.right rdz2) (by first | assumption | rfl))) rfl ?_
                      refine RunL.know (fun w s => (s.conv (frl rfl)).ownRd0) (fun rdr1 => ?_)
                      refine RunL.ok (OpOk.lenR rfl rfl (Rd.right rdr1).left rfl) rfl ?_
                      refine RunL.ok (OpOk.asT (OpOk.lss rfl rfl) (by omega)) rfl ?_
                      refine RunL.nil ?_
                      refine Run.condT rfl ?_
                      refine Run.skip ?_
                      refine Run.seq ?_
                      refine Run.block ?_
                      (apply Run.drawD [14] (by rfl) (sep_emp _).symm; case hchk => kernel_rfl)
                      refine Sd.quiet 0 _ _ rfl rfl rfl rfl rfl (QOp.ok (fun X => OpOk.move rfl)) ?_
                      refine Sd.quiet 1 _ _ rfl rfl rfl rfl rfl (QOp.ok (fun X => OpOk.move rfl)) ?_
                      refine Sd.quiet 2 _ _ rfl rfl rfl rfl rfl (QOp.ok (fun X => OpOk.idx1N rfl ti37 rfl (Rd.right rdz2).left.left rfl (by omega))) ?_
                      refine Sd.quiet 3 _ _ rfl rfl rfl rfl rfl (QOp.ok (fun X => OpOk.load rfl rfl rfl (Rd.cell (Rd.right rdz2).left.left (by first | assumption | rfl)))) ?_
                      refine Sd.quiet 4 _ _ rfl rfl rfl rfl rfl (QOp.ok (fun X => OpOk.move rfl)) ?_
                      refine Sd.quiet 5 _ _ rfl rfl rfl rfl rfl (QOp.ok (fun X => OpOk.move rfl)) ?_
                      refine Sd.quiet 6 _ _ rfl rfl rfl rfl rfl (QOp.ok (fun X => OpOk.move rfl)) ?_
                      refine Sd.quiet 7 _ _ rfl rfl rfl rfl rfl (QOp.ok (fun X => OpOk.idx1N rfl ti37 rfl (Rd.right rdz2).left.left rfl (by omega))) ?_
                      refine Sd.quiet 8 _ _ rfl rfl rfl rfl rfl (QOp.ok (fun X => OpOk.load rfl rfl rfl (Rd.cell (Rd.right rdz2).left.left (by first | assumption | rfl)))) ?_
                      refine Sd.quiet 9 _ _ rfl rfl rfl rfl rfl (QOp.ok (fun X => OpOk.move rfl)) ?_
                      refine Sd.quiet 10 _ _ rfl rfl rfl rfl rfl (QOp.ok (fun X => OpOk.idx1N rfl ti5 rfl (Rd.right rdr1).left.left.left rfl (by omega))) ?_
                      refine Sd.quiet 11 _ _ rfl rfl rfl rfl rfl (QOp.ok (fun X => OpOk.load rfl rfl rfl (Rd.getB (Rd.right rdr1).left.left.left (by omega)))) ?_
                      refine Sd.quiet 12 _ _ rfl rfl rfl rfl rfl (QOp.ok (fun X => OpOk.xor rfl rfl (x255 _))) ?_
                      refine Sd.quiet 13 _ _ rfl rfl rfl rfl rfl (QOp.ok (fun X => OpOk.idx1N rfl ti5 rfl (Rd.right rdr1).left.left.left rfl (by omega))) ?_
                      (apply Sd.tail; case hall => kernel_rfl)
                      refine RunL.mem (fl2 (sep_emp _) (sep_emp _)) ?_
                      refine RunL.storeB _ ti5 rfl rfl rfl (frl rfl) (by omega) ?_
                      refine RunL.nil ?_
                      refine Run.inBlock ?_
                      refine Run.region ?_
                      refine RunL.ok (OpOk.move rfl) rfl ?_
                      refine RunL.ok (OpOk.addN _ 1 rfl rfl rfl rfl (by omega)) rfl ?_
                      refine RunL.ok (OpOk.assign rfl) rfl ?_
                      refine RunL.nil ?_
                      refine Run.jump ((ih4 (q + 1, _) ⟨by dsimp only; omega, by simp [hzl]⟩ (by dsimp only; omega))) ⟨rfl, rfl, rfl, rfl, rfl, rfl, rfl, rfl, rfl, trivial⟩ (Grew.of (frc (frl rfl) rfl) (Grew.refl _))
                    · obtain rfl : q = (ms.getD k default).2.length := by omega
                      clear ih4
                      refine Run.seq ?_
                      refine Run.seq ?_
                      refine Run.region ?_
                      refine RunL.ok (OpOk.move rfl) rfl ?_
                      refine RunL.ok (OpOk.move rfl) rfl ?_
                      refine RunL.ok (OpOk.move rfl) rfl ?_
                      refine RunL.ok (OpOk.idx1N rfl ti37 rfl (Rd.right rdz2) rfl (by omega)) rfl ?_
                      refine RunL.ok (OpOk.load rfl rfl rfl (Rd.cell (Rd.right rdz2) (by first | assumption | rfl))) rfl ?_
                      refine RunL.know (fun w s => (s.conv (frl rfl)).ownRd0) (fun rdr1 => ?_)
                      refine RunL.ok (OpOk.lenR rfl rfl (Rd.right rdr1).left rfl) rfl ?_
                      refine RunL.ok (OpOk.asF (OpOk.lss rfl rfl) (by omega)) rfl ?_
                      refine RunL.nil ?_
                      refine Run.condF rfl ?_
                      refine Run.exit rfl ?_
                      refine Run.inBlock ?_
                      refine Run.region ?_
                      refine RunL.ok (OpOk.move rfl) rfl ?_
                      refine RunL.ok (OpOk.addN _ 1 rfl rfl rfl rfl (by omega)) rfl ?_
                      refine RunL.ok (OpOk.assign rfl) rfl ?_
                      refine RunL.nil ?_
                      refine Run.jump ((ih3 (k + 1, _) (by dsimp only; omega) (by dsimp only; omega))) ⟨rfl, rfl, rfl, rfl, rfl, rfl, rfl, rfl, trivial⟩ (Grew.of (Eq.trans (frc rfl (frc (frl rfl) (frc (frl rfl) (frc (frl rfl) (frc (frl rfl) (frc (frl rfl) rfl)))))) (congrArg (· * _) (congrArg (· * _) (congrArg (· * _) (congrArg (· * _) (congrArg (· * _) (congrArg (· * _) (asg as1)))))))) (Grew.refl _))
                  · obtain rfl : k = (ops.getD i default).2.2.2.length := by omega
                    clear ih3
                    refine Run.seq ?_
                    refine Run.seq ?_
                    refine Run.region ?_
                    refine RunL.ok (OpOk.move rfl) rfl ?_
                    refine RunL.ok (OpOk.move rfl) rfl ?_
                    refine RunL.ok (OpOk.lenR rfl rfl (Rd.right rdz2) rfl) rfl ?_
                    refine RunL.ok (OpOk.asF (OpOk.lss rfl rfl) (by omega)) rfl ?_
                    refine RunL.nil ?_
                    refine Run.condF rfl ?_
                    refine Run.exit rfl ?_
                    refine Run.inBlock ?_
                    refine Run.seq ?_
                    refine Run.region ?_
                    refine RunL.ok (OpOk.move rfl) rfl ?_
                    refine RunL.know (fun w s => (s.conv (frl rfl)).ownsB0) (fun alt1 => ?_)
                    refine RunL.mem (frc (frl (frl (frl (frl rfl)))) (frc (frl (frl (frl (frl rfl)))) rfl)) ?_
                    refine RunL.call cal31 rfl (s31 (by omega)) rfl (fun vt2 At2 ht2 => ?_)
                    obtain rfl := ht2
                    refine RunL.ok (OpOk.assign rfl) rfl ?_
                    refine RunL.nil ?_
                    refine Run.seq ?_
                    refine Run.seq ?_
                    refine Run.know (fun w s => (s.conv (frl rfl)).ownRd0) (fun rdt3 => ?_)
                    refine Run.know (fun w s => (s.conv rfl).ownRd0) (fun rdt4 => ?_)
                    (apply Run.drawD [] (by rfl) (Eq.trans (frc (frl rfl) (frc (frl rfl) rfl)) (asg rfl)); case hchk => kernel_rfl)
                    refine Sd.quiet 0 _ _ rfl rfl rfl rfl rfl (QOp.ok (fun X => OpOk.move rfl)) ?_
                    refine Sd.quiet 1 _ _ rfl rfl rfl rfl rfl (QOp.ok (fun X => OpOk.not rfl)) ?_
                    refine Sd.quiet 2 _ _ rfl rfl rfl rfl rfl (QOp.ok (fun X => OpOk.move rfl)) ?_
                    refine Sd.quiet 3 _ _ rfl rfl rfl rfl rfl (QOp.ok (fun X => OpOk.move rfl)) ?_
                    refine Sd.quiet 4 _ _ rfl rfl rfl rfl rfl (QOp.ok (fun X => OpOk.strOf rfl rfl rfl rfl (Rd.right rdt4).left.left)) ?_
                    refine Sd.quiet 5 _ _ rfl rfl rfl rfl rfl (QOp.ok (fun X => OpOk.move rfl)) ?_
                    refine Sd.quiet 6 _ _ rfl rfl rfl rfl rfl (QOp.ok (fun X => OpOk.nilOk rfl)) ?_
                    refine Sd.quiet 7 _ _ rfl rfl rfl rfl rfl (QOp.ok (fun X => OpOk.fieldAddr fld75_2 rfl)) ?_
                    refine Sd.quiet 8 _ _ rfl rfl rfl rfl rfl (QOp.ok (fun X => OpOk.load rfl rfl rfl (Blk.out Blk.pts.left.left.left.left.left.left _ _ rfl))) ?_
                    refine Sd.quiet 9 _ _ rfl rfl rfl rfl rfl (QOp.ok (fun X => OpOk.neqSS rfl rfl)) ?_
                    refine Sd.quiet 10 _ _ rfl rfl rfl rfl rfl (QOp.ok (fun X => OpOk.pickF rfl rfl)) ?_
                    refine Sd.quiet 11 _ _ rfl rfl rfl rfl rfl (QOp.ok (fun X => OpOk.move rfl)) ?_
                    refine Sd.splitBF (bnF (by first | omega | with_reducible rfl | assumption)) ?_
                    refine Sd.quiet 12 _ _ rfl rfl rfl rfl rfl (QOp.ok (fun X => OpOk.move rfl)) ?_
                    refine Sd.quiet 14 _ _ rfl rfl rfl rfl rfl (QOp.ok (fun X => OpOk.move rfl)) ?_
                    refine Sd.quiet 15 _ _ rfl rfl rfl rfl rfl (QOp.ok (fun X => OpOk.lenR rfl rfl (Rd.right rdt4).left.left rfl)) ?_
                    (refine Sd.exec 13 rfl rfl rfl rfl rfl ?hrest (by rfl) (fun Xt5 Kt5 hKt5 => ?_); case hrest => kernel_rfl)
                    refine RunL.mem (fl2 (sep_emp _) (flS rfl)) ?_
                    refine RunL.call cal33 rfl (s33) rfl (fun vt6 At6 ht6 => ?_)
                    obtain ⟨rfl, rfl⟩ := ht6
                    refine Sd.ret hKt5 (Eq.trans rfl (gp2 (sep_emp _).symm (asg rfl))) ⟨_, (emp_sep _).symm⟩ ?_
                    refine Sd.quiet 16 _ _ rfl rfl rfl rfl rfl (QOp.ok (fun X => OpOk.as (c := false) (OpOk.neq rfl rfl) (by rw [decide_eq_true (by omega)]; rfl))) ?_
                    refine Sd.quiet 17 _ _ rfl rfl rfl rfl rfl (QOp.ok (fun X => OpOk.pickF rfl rfl)) ?_
                    (apply Sd.tail; case hall => kernel_rfl)
                    refine RunL.mem (fl2 (flS rfl) (sep_emp _)) ?_
                    refine RunL.nil ?_
                    refine Run.condF rfl ?_
                    refine Run.skip ?_
                    refine Run.seq ?_
                    refine Run.region ?_
                    refine RunL.ok (OpOk.assign rfl) rfl ?_
                    refine RunL.nil ?_
                    refine Run.block ?_
                    refine Run.jump ((Run.loopJ (X := Nat × Asn × List UInt8) (fun x => [(16, .int .i64 (x.1 : Int)), (15, vt2), (8, .int .i64 (i : Int)), (7, .pointer (some ⟨bx7, 0, none⟩)), (5, .pointer (some ⟨x5, 0, none⟩)), (1, u)]) (fun x => old w0 * x.2.1 * pts x5 (.cells #[.int .i64 (s), .int .i64 (0), z9] 100 (0, 0)) * own 5 1 z9 ((bs ++ List.take w.toNat (flatB (ops.getD i default).2.2.2))).length (B ((bs ++ List.take w.toNat (flatB (ops.getD i default).2.2.2)))) * pts bx7 (.cells #[.int .i64 (s), .int .i64 (0), S ((bs ++ List.take w.toNat (flatB (ops.getD i default).2.2.2)))] 75 (0, 0)) * own 5 1 vt2 ((bs ++ List.take w.toNat (flatB (ops.getD i default).2.2.2))).length (B x.2.2)) (fun x => x.1 ≤ ((bs ++ List.take w.toNat (flatB (ops.getD i default).2.2.2))).length ∧ x.2.2.length = ((bs ++ List.take w.toNat (flatB (ops.getD i default).2.2.2))).length) (fun x => ((bs ++ List.take w.toNat (flatB (ops.getD i default).2.2.2))).length - x.1) (0, _, (bs ++ List.take w.toNat (flatB (ops.getD i default).2.2.2))) ⟨Nat.zero_le _, rfl⟩ (fun x hx ih5 => ?_))) ⟨rfl, rfl, rfl, rfl, rfl, rfl, trivial⟩ (Grew.of (Eq.trans (frc (frl (frl rfl)) (frc (frl (frl (frl (frl (frl rfl))))) rfl)) (congrArg (· * _) (congrArg (· * _) (congrArg (· * _) (congrArg (· * _) (asg (asg (asg as1)))))))) (Grew.refl _))
                    obtain ⟨q, J5, zs⟩ := x
                    simp only at hx ih5 ⊢
                    obtain ⟨hq, hzl⟩ := hx
                    rcases Nat.lt_or_ge q ((bs ++ List.take w.toNat (flatB (ops.getD i default).2.2.2))).length with hq1 | hq1
                    · refine Run.seq ?_
                      refine Run.seq ?_
                      refine Run.region ?_
                      refine RunL.ok (OpOk.move rfl) rfl ?_
                      refine RunL.ok (OpOk.move rfl) rfl ?_
                      refine RunL.know (fun w s => (s.conv rfl).ownRd0) (fun rdq1 => ?_)
                      refine RunL.ok (OpOk.lenR rfl rfl (Rd.right rdq1) rfl) rfl ?_
                      refine RunL.ok (OpOk.asT (OpOk.lss rfl rfl) (by omega)) rfl ?_
                      refine RunL.nil ?_
                      refine Run.condT rfl ?_
                      refine Run.skip ?_
                      refine Run.seq ?_
                      refine Run.block ?_
                      refine Run.region ?_
                      refine RunL.ok (OpOk.move rfl) rfl ?_
                      refine RunL.ok (OpOk.move rfl) rfl ?_
                      refine RunL.ok (OpOk.idx1N rfl ti5 rfl (Rd.right rdq1) rfl (by omega)) rfl ?_
                      refine RunL.storeOwn ti5 rfl rfl rfl rfl (by omega) ?_
                      refine RunL.nil ?_
                      refine Run.inBlock ?_
                      refine Run.region ?_
                      refine RunL.ok (OpOk.move rfl) rfl ?_
                      refine RunL.ok (OpOk.addN _ 1 rfl rfl rfl rfl (by omega)) rfl ?_
                      refine RunL.ok (OpOk.assign rfl) rfl ?_
                      refine RunL.nil ?_
                      rw [show (B zs).set q (.int .u8 7) = B (zs.set q 7) from B_set zs q 7]
                      refine Run.jump ((ih5 (q + 1, _, _) ⟨by dsimp only; omega, by simp [hzl]⟩ (by dsimp only; omega))) ⟨rfl, rfl, rfl, rfl, rfl, rfl, trivial⟩ (Grew.of (congrArg (· * _) (congrArg (· * _) (congrArg (· * _) (congrArg (· * _) as1)))) (Grew.refl _))
                    · obtain rfl : q = ((bs ++ List.take w.toNat (flatB (ops.getD i default).2.2.2))).length := by omega
                      clear ih5
                      refine Run.seq ?_
                      refine Run.seq ?_
                      refine Run.region ?_
                      refine RunL.ok (OpOk.move rfl) rfl ?_
                      refine RunL.ok (OpOk.move rfl) rfl ?_
                      refine RunL.know (fun w s => (s.conv rfl).ownRd0) (fun rdq1 => ?_)
                      refine RunL.ok (OpOk.lenR rfl rfl (Rd.right rdq1) rfl) rfl ?_
                      refine RunL.ok (OpOk.asF (OpOk.lss rfl rfl) (by omega)) rfl ?_
                      refine RunL.nil ?_
                      refine Run.condF rfl ?_
                      refine Run.exit rfl ?_
                      refine Run.inBlock ?_
                      refine Run.region ?_
                      refine RunL.ok (OpOk.move rfl) rfl ?_
                      refine RunL.ok (OpOk.addN _ 1 rfl rfl rfl rfl (by omega)) rfl ?_
                      refine RunL.ok (OpOk.assign rfl) rfl ?_
                      refine RunL.nil ?_
                      refine Run.jump ((ih (i + 1, _, z9, 0, 0, (bs ++ List.take w.toNat (flatB (ops.getD i default).2.2.2))) ⟨by dsimp only; omega, by dsimp only; omega, hB1, hB2, hB3⟩ (by dsimp only; omega))) ⟨rfl, rfl, rfl, rfl, trivial⟩ (Grew.of (Eq.trans (frc (frl rfl) (frc (frl rfl) (frc (frl rfl) rfl))) (congrArg (· * _) (congrArg (· * _) (congrArg (· * _) (asg as1))))) (Grew.refl _))
                · have hap : (bs ++ flatB (ops.getD i default).2.2.2).length = bs.length + (flatB (ops.getD i default).2.2.2).length := List.length_append
                  have hB1 : (bs ++ flatB (ops.getD i default).2.2.2).length ≤ 1048576 * (i + 1) := by omega
                  have hB2 : w - ((flatB (ops.getD i default).2.2.2).length : Int) = max (w - ((flatB (ops.getD i default).2.2.2).length : Int)) (-1) := by omega
                  have hB3 : w - ((flatB (ops.getD i default).2.2.2).length : Int) ≤ 9223372036854775807 := by omega
                  refine Run.seq ?_
                  refine Run.seq ?_
                  refine Run.region ?_
                  refine RunL.ok (OpOk.move rfl) rfl ?_
                  refine RunL.ok (OpOk.fieldAddr fld68_2 rfl) rfl ?_
                  refine RunL.ok (OpOk.load rfl rfl rfl (Blk.out Blk.pts.left.left _ _ rfl)) rfl ?_
                  refine RunL.ok (OpOk.lenR rfl rfl rd3.left.left.left.left.left.left.left rfl) rfl ?_
                  refine RunL.ok (OpOk.asF (OpOk.lss rfl rfl) (by omega)) rfl ?_
                  refine RunL.nil ?_
                  refine Run.condF rfl ?_
                  refine Run.exit rfl ?_
                  refine Run.seq ?_
                  refine Run.know (fun w s => (s.conv (frl (frl (frl (frl rfl))))).ownRd0) (fun rdz1 => ?_)
                  refine Run.know (fun w s => (s.conv rfl).ownRd0) (fun rdz2 => ?_)
                  refine Run.drop [10] ?_
                  (apply Run.drawD [] (by rfl) (Eq.trans (frc (frl (frl (frl rfl))) (frc (frl (frl (frl rfl))) (frc (frl (frl (frl rfl))) rfl))) (asg (asg rfl))); case hchk => kernel_rfl)
                  refine Sd.quiet 0 _ _ rfl rfl rfl rfl rfl (QOp.ok (fun X => OpOk.move rfl)) ?_
                  refine Sd.quiet 1 _ _ rfl rfl rfl rfl rfl (QOp.ok (fun X => OpOk.move rfl)) ?_
                  refine Sd.quiet 3 _ _ rfl rfl rfl rfl rfl (QOp.ok (fun X => OpOk.move rfl)) ?_
                  refine Sd.quiet 4 _ _ rfl rfl rfl rfl rfl (QOp.ok (fun X => OpOk.fieldAddr fld68_2 rfl)) ?_
                  refine Sd.quiet 5 _ _ rfl rfl rfl rfl rfl (QOp.ok (fun X => OpOk.load rfl rfl rfl (Blk.out Blk.pts.left.left.left.left _ _ rfl))) ?_
                  (refine Sd.exec 2 rfl rfl rfl rfl rfl ?hrest (by rfl) (fun Xz3 Kz3 hKz3 => ?_); case hrest => kernel_rfl)
                  refine RunL.mem (fl2 (sep_emp _) (flS (flS rfl))) ?_
                  refine RunL.know (fun w s => (s.conv (frl (frl (frl (frl (frl rfl)))))).ownsB0) (fun alz4 => ?_)
                  refine RunL.mem (frc (frl rfl) (frc (frl rfl) rfl)) ?_
                  refine RunL.call cal32 rfl (s32c (Rd.right rdz2).left.left (Alls.right alz4).left.left.left (by omega) (by assumption) (by omega) (by assumption) (by assumption) (by assumption) (by omega)) rfl (fun vz7 Az7 hz7 => ?_)
                  obtain ⟨z8, ⟨z9, ⟨rfl, rfl⟩⟩⟩ := hz7
                  refine RunL.know (fun w s => (s.conv rfl).ownRd0) (fun rdz10 => ?_)
                  refine Sd.ret hKz3 (Eq.trans (frc (frl (frl (frl rfl))) rfl) (gp2 rfl (asg (asg rfl)))) ⟨_, (emp_sep _).symm⟩ ?_
                  (refine Sd.exec 6 rfl rfl rfl rfl rfl ?hrest (by rfl) (fun Xz11 Kz11 hKz11 => ?_); case hrest => kernel_rfl)
                  refine RunL.mem (fl2 (flS (flS rfl)) rfl) ?_
                  refine RunL.call cal34 rfl (s34c rd3.left.left.left.left.left.left.left.left al3.left.left.left.left.left.left.left.left (by assumption) (by assumption) (by assumption) (by assumption) (by assumption) (by assumption) (by omega)) rfl (fun vz14 Az14 hz14 => ?_)
                  obtain ⟨rfl, rfl⟩ := hz14
                  refine Sd.ret hKz11 (Eq.trans rfl (gp2 (sep_emp _).symm (asg (asg (asg rfl))))) ⟨_, rfl⟩ ?_
                  refine Sd.quiet 7 _ _ rfl rfl rfl rfl rfl (QOp.ok (fun X => OpOk.asT (OpOk.eql rfl rfl) (by omega))) ?_
                  refine Sd.quiet 8 _ _ rfl rfl rfl rfl rfl (QOp.ok (fun X => OpOk.assign rfl)) ?_
                  (apply Sd.tail; case hall => kernel_rfl)
                  refine RunL.mem (fl2 (flS (flS (flS rfl))) (sep_emp _)) ?_
                  refine RunL.nil ?_
                  refine Run.seq ?_
                  refine Run.region ?_
                  refine RunL.ok (OpOk.assign rfl) rfl ?_
                  refine RunL.nil ?_
                  refine Run.block ?_
                  rw [hflat]
                  refine Run.jump ((Run.loopJ (X := Nat × Asn) (fun x => [(13, .int .i64 (x.1 : Int)), (11, vin), (10, .bool true), (9, .pointer (some ⟨by2, 0, none⟩)), (8, .int .i64 (i : Int)), (7, .pointer (some ⟨bx7, 0, none⟩)), (5, .pointer (some ⟨x5, 0, none⟩)), (1, u)]) (fun x => old w0 * x.2 * pts x5 (.cells #[.int .i64 (s), .int .i64 ((w - ((flatB (ops.getD i default).2.2.2).length : Int))), z8] 100 (0, 0)) * own 5 1 z8 ((bs ++ flatB (ops.getD i default).2.2.2)).length (B ((bs ++ flatB (ops.getD i default).2.2.2))) * pts bx7 (.cells #[.int .i64 (s), .int .i64 ((w - ((flatB (ops.getD i default).2.2.2).length : Int))), S ((bs ++ flatB (ops.getD i default).2.2.2))] 75 (0, 0)) * pts by2 (.cells (Value.agg (encO (ops.getD i default)).toArray).cells 68 (0, 0)) * ownsB 5 (ms.drop x.1) * own 37 1 vin (ops.getD i default).2.2.2.length (Fl encV ms)) (fun x => x.1 ≤ (ops.getD i default).2.2.2.length) (fun x => (ops.getD i default).2.2.2.length - x.1) (0, _) (Nat.zero_le _) (fun x hx ih3 => ?_))) ⟨rfl, rfl, rfl, rfl, rfl, rfl, rfl, rfl, trivial⟩ (Grew.of (Eq.trans (frc (frl (frl (frl (frl rfl)))) (frc (frl (frl (frl (frl rfl)))) (frc (frl (frl (frl (frl rfl)))) rfl))) (congrArg (· * _) (congrArg (· * _) (congrArg (· * _) (congrArg (· * _) (congrArg (· * _) (congrArg (· * _) (asg as1)))))))) (Grew.refl _))
                  obtain ⟨k, J2⟩ := x
                  simp only at hx ih3 ⊢
                  rcases Nat.lt_or_ge k (ops.getD i default).2.2.2.length with hk1 | hk1
                  · have rdi : Rd w0 (old w0) ((ops.getD i default).2.2.2.getD k default).1 1 ((ops.getD i default).2.2.2.getD k default).2.length (B ((ops.getD i default).2.2.2.getD k default).2) := al3.get hk1
                    have hv := Fl_V (ops.getD i default).2.2.2 k hk1
                    have hvm := Fl_V ms k (by omega)
                    have hsnd := snd_at hms k
                    have hsl := congrArg List.length hsnd
                    have hmk := rdi.max
                    rw [ownsB_drop 5 (show k < ms.length by omega)]
                    simp only [← sep_assoc]
                    refine Run.seq ?_
                    refine Run.seq ?_
                    refine Run.region ?_
                    refine RunL.ok (OpOk.move rfl) rfl ?_
                    refine RunL.ok (OpOk.move rfl) rfl ?_
                    refine RunL.ok (OpOk.lenR rfl rfl (Rd.right rdz2) rfl) rfl ?_
                    refine RunL.ok (OpOk.asT (OpOk.lss rfl rfl) (by omega)) rfl ?_
                    refine RunL.nil ?_
                    refine Run.condT rfl ?_
                    refine Run.skip ?_
                    refine Run.seq ?_
                    refine Run.block ?_
                    refine Run.seq ?_
                    refine Run.know (fun w s => (s.conv (frl (frl (frl (frl (frl rfl)))))).ownRd0) (fun rdt1 => ?_)
                    refine Run.know (fun w s => (s.conv (frl rfl)).ownRd0) (fun rdt2 => ?_)
                    (apply Run.drawD [15] (by rfl) (sep_emp _).symm; case hchk => kernel_rfl)
                    refine Sd.quiet 0 _ _ rfl rfl rfl rfl rfl (QOp.ok (fun X => OpOk.move rfl)) ?_
                    refine Sd.quiet 1 _ _ rfl rfl rfl rfl rfl (QOp.ok (fun X => OpOk.move rfl)) ?_
                    refine Sd.quiet 2 _ _ rfl rfl rfl rfl rfl (QOp.ok (fun X => OpOk.move rfl)) ?_
                    refine Sd.quiet 3 _ _ rfl rfl rfl rfl rfl (QOp.ok (fun X => OpOk.move rfl)) ?_
                    refine Sd.quiet 4 _ _ rfl rfl rfl rfl rfl (QOp.ok (fun X => OpOk.idx1N rfl ti37 rfl (Rd.right rdz2).left.left rfl (by omega))) ?_
                    refine Sd.quiet 5 _ _ rfl rfl rfl rfl rfl (QOp.ok (fun X => OpOk.load rfl rfl rfl (Rd.cell (Rd.right rdz2).left.left (by first | assumption | rfl)))) ?_
                    refine Sd.quiet 6 _ _ rfl rfl rfl rfl rfl (QOp.ok (fun X => OpOk.strOf rfl rfl rfl rfl (Rd.right rdt2).left.left.left)) ?_
                    refine Sd.quiet 7 _ _ rfl rfl rfl rfl rfl (QOp.ok (fun X => OpOk.fieldAddr fld68_2 rfl)) ?_
                    refine Sd.quiet 8 _ _ rfl rfl rfl rfl rfl (QOp.ok (fun X => OpOk.load rfl rfl rfl (Blk.out Blk.pts.left.left.left.left.left _ _ rfl))) ?_
                    refine Sd.quiet 9 _ _ rfl rfl rfl rfl rfl (QOp.ok (fun X => OpOk.move rfl)) ?_
                    refine Sd.quiet 10 _ _ rfl rfl rfl rfl rfl (QOp.ok (fun X => OpOk.idx1N rfl ti37 rfl rd3.left.left.left.left.left.left.left.left.left.left rfl (by omega))) ?_
                    refine Sd.quiet 11 _ _ rfl rfl rfl rfl rfl (QOp.ok (fun X => OpOk.load rfl rfl rfl (Rd.cell rd3.left.left.left.left.left.left.left.left.left.left (by first | assumption | rfl)))) ?_
                    refine Sd.quiet 12 _ _ rfl rfl rfl rfl rfl (QOp.ok (fun X => OpOk.strOf rfl rfl rfl rfl rdi.left.left.left.left.left.left.left.left.left.left)) ?_
                    refine Sd.quiet 13 _ _ rfl rfl rfl rfl rfl (QOp.ok (fun X => OpOk.asT (OpOk.eqlSS rfl rfl) (by omega))) ?_
                    refine Sd.quiet 14 _ _ rfl rfl rfl rfl rfl (QOp.ok (fun X => OpOk.pickT rfl rfl)) ?_
                    (apply Sd.tail; case hall => kernel_rfl)
                    refine RunL.mem (fl2 (sep_emp _) (sep_emp _)) ?_
                    refine RunL.ok (OpOk.assign rfl) rfl ?_
                    refine RunL.nil ?_
                    refine Run.seq ?_
                    refine Run.region ?_
                    refine RunL.ok (OpOk.assign rfl) rfl ?_
                    refine RunL.nil ?_
                    refine Run.block ?_
                    refine Run.jump ((Run.loopJ (X := Nat × List UInt8) (fun x => [(14, .int .i64 (x.1 : Int)), (13, .int .i64 (k : Int)), (11, vin), (10, .bool true), (9, .pointer (some ⟨by2, 0, none⟩)), (8, .int .i64 (i : Int)), (7, .pointer (some ⟨bx7, 0, none⟩)), (5, .pointer (some ⟨x5, 0, none⟩)), (1, u)]) (fun x => old w0 * J2 * pts x5 (.cells #[.int .i64 (s), .int .i64 ((w - ((flatB (ops.getD i default).2.2.2).length : Int))), z8] 100 (0, 0)) * own 5 1 z8 ((bs ++ flatB (ops.getD i default).2.2.2)).length (B ((bs ++ flatB (ops.getD i default).2.2.2))) * pts bx7 (.cells #[.int .i64 (s), .int .i64 ((w - ((flatB (ops.getD i default).2.2.2).length : Int))), S ((bs ++ flatB (ops.getD i default).2.2.2))] 75 (0, 0)) * pts by2 (.cells (Value.agg (encO (ops.getD i default)).toArray).cells 68 (0, 0)) * ownsB 5 (ms.drop (k + 1)) * own 5 1 (ms.getD k default).1 (ms.getD k default).2.length (B x.2) * own 37 1 vin (ops.getD i default).2.2.2.length (Fl encV ms)) (fun x => x.1 ≤ (ms.getD k default).2.length ∧ x.2.length = (ms.getD k default).2.length) (fun x => (ms.getD k default).2.length - x.1) (0, (ms.getD k default).2) ⟨Nat.zero_le _, rfl⟩ (fun x hx ih4 => ?_))) ⟨rfl, rfl, rfl, rfl, rfl, rfl, rfl, rfl, rfl, trivial⟩ ((Grew.refl _))
                    obtain ⟨q, zs⟩ := x
                    simp only at hx ih4 ⊢
                    obtain ⟨hq, hzl⟩ := hx
                    rcases Nat.lt_or_ge q (ms.getD k default).2.length with hq1 | hq1
                    · refine Run.seq ?_
                      refine Run.seq ?_
                      refine Run.region ?_
                      refine RunL.ok (OpOk.move rfl) rfl ?_
                      refine RunL.ok (OpOk.move rfl) rfl ?_
                      refine RunL.ok (OpOk.move rfl) rfl ?_
                      refine RunL.ok (OpOk.idx1N rfl ti37 rfl (Rd.right rdz2) rfl (by omega)) rfl ?_
                      refine RunL.ok (OpOk.load rfl rfl rfl (Rd.cell (Rd.right rdz2) (by first | assumption | rfl))) rfl ?_
                      refine RunL.know (fun w s => (s.conv (frl rfl)).ownRd0) (fun rdr1 => ?_)
                      refine RunL.ok (OpOk.lenR rfl rfl (Rd.right rdr1).left rfl) rfl ?_
                      refine RunL.ok (OpOk.asT (OpOk.lss rfl rfl) (by omega)) rfl ?_
                      refine RunL.nil ?_
                      refine Run.condT rfl ?_
                      refine Run.skip ?_
                      refine Run.seq ?_
                      refine Run.block ?_
                      (apply Run.drawD [14] (by rfl) (sep_emp _).symm; case hchk => kernel_rfl)
                      refine Sd.quiet 0 _ _ rfl rfl rfl rfl rfl (QOp.ok (fun X => OpOk.move rfl)) ?_
                      refine Sd.quiet 1 _ _ rfl rfl rfl rfl rfl (QOp.ok (fun X => OpOk.move rfl)) ?_
                      refine Sd.quiet 2 _ _ rfl rfl rfl rfl rfl (QOp.ok (fun X => OpOk.idx1N rfl ti37 rfl (Rd.right rdz2).left.left rfl (by omega))) ?_
                      refine Sd.quiet 3 _ _ rfl rfl rfl rfl rfl (QOp.ok (fun X => OpOk.load rfl rfl rfl (Rd.cell (Rd.right rdz2).left.left (by first | assumption | rfl)))) ?_
                      refine Sd.quiet 4 _ _ rfl rfl rfl rfl rfl (QOp.ok (fun X => OpOk.move rfl)) ?_
                      refine Sd.quiet 5 _ _ rfl rfl rfl rfl rfl (QOp.ok (fun X => OpOk.move rfl)) ?_
                      refine Sd.quiet 6 _ _ rfl rfl rfl rfl rfl (QOp.ok (fun X => OpOk.move rfl)) ?_
                      refine Sd.quiet 7 _ _ rfl rfl rfl rfl rfl (QOp.ok (fun X => OpOk.idx1N rfl ti37 rfl (Rd.right rdz2).left.left rfl (by omega))) ?_
                      refine Sd.quiet 8 _ _ rfl rfl rfl rfl rfl (QOp.ok (fun X => OpOk.load rfl rfl rfl (Rd.cell (Rd.right rdz2).left.left (by first | assumption | rfl)))) ?_
                      refine Sd.quiet 9 _ _ rfl rfl rfl rfl rfl (QOp.ok (fun X => OpOk.move rfl)) ?_
                      refine Sd.quiet 10 _ _ rfl rfl rfl rfl rfl (QOp.ok (fun X => OpOk.idx1N rfl ti5 rfl (Rd.right rdr1).left.left.left rfl (by omega))) ?_
                      refine Sd.quiet 11 _ _ rfl rfl rfl rfl rfl (QOp.ok (fun X => OpOk.load rfl rfl rfl (Rd.getB (Rd.right rdr1).left.left.left (by omega)))) ?_
                      refine Sd.quiet 12 _ _ rfl rfl rfl rfl rfl (QOp.ok (fun X => OpOk.xor rfl rfl (x255 _))) ?_
                      refine Sd.quiet 13 _ _ rfl rfl rfl rfl rfl (QOp.ok (fun X => OpOk.idx1N rfl ti5 rfl (Rd.right rdr1).left.left.left rfl (by omega))) ?_
                      (apply Sd.tail; case hall => kernel_rfl)
                      refine RunL.mem (fl2 (sep_emp _) (sep_emp _)) ?_
                      refine RunL.storeB _ ti5 rfl rfl rfl (frl rfl) (by omega) ?_
                      refine RunL.nil ?_
                      refine Run.inBlock ?_
                      refine Run.region ?_
                      refine RunL.ok (OpOk.move rfl) rfl ?_
                      refine RunL.ok (OpOk.addN _ 1 rfl rfl rfl rfl (by omega)) rfl ?_
                      refine RunL.ok (OpOk.assign rfl) rfl ?_
                      refine RunL.nil ?_
                      refine Run.jump ((ih4 (q + 1, _) ⟨by dsimp only; omega, by simp [hzl]⟩ (by dsimp only; omega))) ⟨rfl, rfl, rfl, rfl, rfl, rfl, rfl, rfl, rfl, trivial⟩ (Grew.of (frc (frl rfl) rfl) (Grew.refl _))
                    · obtain rfl : q = (ms.getD k default).2.length := by omega
                      clear ih4
                      refine Run.seq ?_
                      refine Run.seq ?_
                      refine Run.region ?_
                      refine RunL.ok (OpOk.move rfl) rfl ?_
                      refine RunL.ok (OpOk.move rfl) rfl ?_
                      refine RunL.ok (OpOk.move rfl) rfl ?_
                      refine RunL.ok (OpOk.idx1N rfl ti37 rfl (Rd.right rdz2) rfl (by omega)) rfl ?_
                      refine RunL.ok (OpOk.load rfl rfl rfl (Rd.cell (Rd.right rdz2) (by first | assumption | rfl))) rfl ?_
                      refine RunL.know (fun w s => (s.conv (frl rfl)).ownRd0) (fun rdr1 => ?_)
                      refine RunL.ok (OpOk.lenR rfl rfl (Rd.right rdr1).left rfl) rfl ?_
                      refine RunL.ok (OpOk.asF (OpOk.lss rfl rfl) (by omega)) rfl ?_
                      refine RunL.nil ?_
                      refine Run.condF rfl ?_
                      refine Run.exit rfl ?_
                      refine Run.inBlock ?_
                      refine Run.region ?_
                      refine RunL.ok (OpOk.move rfl) rfl ?_
                      refine RunL.ok (OpOk.addN _ 1 rfl rfl rfl rfl (by omega)) rfl ?_
                      refine RunL.ok (OpOk.assign rfl) rfl ?_
                      refine RunL.nil ?_
                      refine Run.jump ((ih3 (k + 1, _) (by dsimp only; omega) (by dsimp only; omega))) ⟨rfl, rfl, rfl, rfl, rfl, rfl, rfl, rfl, trivial⟩ (Grew.of (Eq.trans (frc rfl (frc (frl rfl) (frc (frl rfl) (frc (frl rfl) (frc (frl rfl) (frc (frl rfl) rfl)))))) (congrArg (· * _) (congrArg (· * _) (congrArg (· * _) (congrArg (· * _) (congrArg (· * _) (congrArg (· * _) (asg as1)))))))) (Grew.refl _))
                  · obtain rfl : k = (ops.getD i default).2.2.2.length := by omega
                    clear ih3
                    refine Run.seq ?_
                    refine Run.seq ?_
                    refine Run.region ?_
                    refine RunL.ok (OpOk.move rfl) rfl ?_
                    refine RunL.ok (OpOk.move rfl) rfl ?_
                    refine RunL.ok (OpOk.lenR rfl rfl (Rd.right rdz2) rfl) rfl ?_
                    refine RunL.ok (OpOk.asF (OpOk.lss rfl rfl) (by omega)) rfl ?_
                    refine RunL.nil ?_
                    refine Run.condF rfl ?_
                    refine Run.exit rfl ?_
                    refine Run.inBlock ?_
                    refine Run.seq ?_
                    refine Run.region ?_
                    refine RunL.ok (OpOk.move rfl) rfl ?_
                    refine RunL.know (fun w s => (s.conv (frl rfl)).ownsB0) (fun alt1 => ?_)
                    refine RunL.mem (frc (frl (frl (frl (frl rfl)))) (frc (frl (frl (frl (frl rfl)))) rfl)) ?_
                    refine RunL.call cal31 rfl (s31 (by omega)) rfl (fun vt2 At2 ht2 => ?_)
                    obtain rfl := ht2
                    refine RunL.ok (OpOk.assign rfl) rfl ?_
                    refine RunL.nil ?_
                    refine Run.seq ?_
                    refine Run.seq ?_
                    refine Run.know (fun w s => (s.conv (frl rfl)).ownRd0) (fun rdt3 => ?_)
                    refine Run.know (fun w s => (s.conv rfl).ownRd0) (fun rdt4 => ?_)
                    (apply Run.drawD [] (by rfl) (Eq.trans (frc (frl rfl) (frc (frl rfl) rfl)) (asg rfl)); case hchk => kernel_rfl)
                    refine Sd.quiet 0 _ _ rfl rfl rfl rfl rfl (QOp.ok (fun X => OpOk.move rfl)) ?_
                    refine Sd.quiet 1 _ _ rfl rfl rfl rfl rfl (QOp.ok (fun X => OpOk.not rfl)) ?_
                    refine Sd.quiet 2 _ _ rfl rfl rfl rfl rfl (QOp.ok (fun X => OpOk.move rfl)) ?_
                    refine Sd.quiet 3 _ _ rfl rfl rfl rfl rfl (QOp.ok (fun X => OpOk.move rfl)) ?_
                    refine Sd.quiet 4 _ _ rfl rfl rfl rfl rfl (QOp.ok (fun X => OpOk.strOf rfl rfl rfl rfl (Rd.right rdt4).left.left)) ?_
                    refine Sd.quiet 5 _ _ rfl rfl rfl rfl rfl (QOp.ok (fun X => OpOk.move rfl)) ?_
                    refine Sd.quiet 6 _ _ rfl rfl rfl rfl rfl (QOp.ok (fun X => OpOk.nilOk rfl)) ?_
                    refine Sd.quiet 7 _ _ rfl rfl rfl rfl rfl (QOp.ok (fun X => OpOk.fieldAddr fld75_2 rfl)) ?_
                    refine Sd.quiet 8 _ _ rfl rfl rfl rfl rfl (QOp.ok (fun X => OpOk.load rfl rfl rfl (Blk.out Blk.pts.left.left.left.left.left.left _ _ rfl))) ?_
                    refine Sd.quiet 9 _ _ rfl rfl rfl rfl rfl (QOp.ok (fun X => OpOk.neqSS rfl rfl)) ?_
                    refine Sd.quiet 10 _ _ rfl rfl rfl rfl rfl (QOp.ok (fun X => OpOk.pickF rfl rfl)) ?_
                    refine Sd.quiet 11 _ _ rfl rfl rfl rfl rfl (QOp.ok (fun X => OpOk.move rfl)) ?_
                    refine Sd.splitBF (bnF (by first | omega | with_reducible rfl | assumption)) ?_
                    refine Sd.quiet 12 _ _ rfl rfl rfl rfl rfl (QOp.ok (fun X => OpOk.move rfl)) ?_
                    refine Sd.quiet 14 _ _ rfl rfl rfl rfl rfl (QOp.ok (fun X => OpOk.move rfl)) ?_
                    refine Sd.quiet 15 _ _ rfl rfl rfl rfl rfl (QOp.ok (fun X => OpOk.lenR rfl rfl (Rd.right rdt4).left.left rfl)) ?_
                    (refine Sd.exec 13 rfl rfl rfl rfl rfl ?hrest (by rfl) (fun Xt5 Kt5 hKt5 => ?_); case hrest => kernel_rfl)
                    refine RunL.mem (fl2 (sep_emp _) (flS rfl)) ?_
                    refine RunL.call cal33 rfl (s33) rfl (fun vt6 At6 ht6 => ?_)
                    obtain ⟨rfl, rfl⟩ := ht6
                    refine Sd.ret hKt5 (Eq.trans rfl (gp2 (sep_emp _).symm (asg rfl))) ⟨_, (emp_sep _).symm⟩ ?_
                    refine Sd.quiet 16 _ _ rfl rfl rfl rfl rfl (QOp.ok (fun X => OpOk.as (c := false) (OpOk.neq rfl rfl) (by rw [decide_eq_true (by omega)]; rfl))) ?_
                    refine Sd.quiet 17 _ _ rfl rfl rfl rfl rfl (QOp.ok (fun X => OpOk.pickF rfl rfl)) ?_
                    (apply Sd.tail; case hall => kernel_rfl)
                    refine RunL.mem (fl2 (flS rfl) (sep_emp _)) ?_
                    refine RunL.nil ?_
                    refine Run.condF rfl ?_
                    refine Run.skip ?_
                    refine Run.seq ?_
                    refine Run.region ?_
                    refine RunL.ok (OpOk.assign rfl) rfl ?_
                    refine RunL.nil ?_
                    refine Run.block ?_
                    refine Run.jump ((Run.loopJ (X := Nat × Asn × List UInt8) (fun x => [(16, .int .i64 (x.1 : Int)), (15, vt2), (8, .int .i64 (i : Int)), (7, .pointer (some ⟨bx7, 0, none⟩)), (5, .pointer (some ⟨x5, 0, none⟩)), (1, u)]) (fun x => old w0 * x.2.1 * pts x5 (.cells #[.int .i64 (s), .int .i64 ((w - ((flatB (ops.getD i default).2.2.2).length : Int))), z8] 100 (0, 0)) * own 5 1 z8 ((bs ++ flatB (ops.getD i default).2.2.2)).length (B ((bs ++ flatB (ops.getD i default).2.2.2))) * pts bx7 (.cells #[.int .i64 (s), .int .i64 ((w - ((flatB (ops.getD i default).2.2.2).length : Int))), S ((bs ++ flatB (ops.getD i default).2.2.2))] 75 (0, 0)) * own 5 1 vt2 ((bs ++ flatB (ops.getD i default).2.2.2)).length (B x.2.2)) (fun x => x.1 ≤ ((bs ++ flatB (ops.getD i default).2.2.2)).length ∧ x.2.2.length = ((bs ++ flatB (ops.getD i default).2.2.2)).length) (fun x => ((bs ++ flatB (ops.getD i default).2.2.2)).length - x.1) (0, _, (bs ++ flatB (ops.getD i default).2.2.2)) ⟨Nat.zero_le _, rfl⟩ (fun x hx ih5 => ?_))) ⟨rfl, rfl, rfl, rfl, rfl, rfl, trivial⟩ (Grew.of (Eq.trans (frc (frl (frl rfl)) (frc (frl (frl (frl (frl (frl rfl))))) rfl)) (congrArg (· * _) (congrArg (· * _) (congrArg (· * _) (congrArg (· * _) (asg (asg (asg as1)))))))) (Grew.refl _))
                    obtain ⟨q, J5, zs⟩ := x
                    simp only at hx ih5 ⊢
                    obtain ⟨hq, hzl⟩ := hx
                    rcases Nat.lt_or_ge q ((bs ++ flatB (ops.getD i default).2.2.2)).length with hq1 | hq1
                    · refine Run.seq ?_
                      refine Run.seq ?_
                      refine Run.region ?_
                      refine RunL.ok (OpOk.move rfl) rfl ?_
                      refine RunL.ok (OpOk.move rfl) rfl ?_
                      refine RunL.know (fun w s => (s.conv rfl).ownRd0) (fun rdq1 => ?_)
                      refine RunL.ok (OpOk.lenR rfl rfl (Rd.right rdq1) rfl) rfl ?_
                      refine RunL.ok (OpOk.asT (OpOk.lss rfl rfl) (by omega)) rfl ?_
                      refine RunL.nil ?_
                      refine Run.condT rfl ?_
                      refine Run.skip ?_
                      refine Run.seq ?_
                      refine Run.block ?_
                      refine Run.region ?_
                      refine RunL.ok (OpOk.move rfl) rfl ?_
                      refine RunL.ok (OpOk.move rfl) rfl ?_
                      refine RunL.ok (OpOk.idx1N rfl ti5 rfl (Rd.right rdq1) rfl (by omega)) rfl ?_
                      refine RunL.storeOwn ti5 rfl rfl rfl rfl (by omega) ?_
                      refine RunL.nil ?_
                      refine Run.inBlock ?_
                      refine Run.region ?_
                      refine RunL.ok (OpOk.move rfl) rfl ?_
                      refine RunL.ok (OpOk.addN _ 1 rfl rfl rfl rfl (by omega)) rfl ?_
                      refine RunL.ok (OpOk.assign rfl) rfl ?_
                      refine RunL.nil ?_
                      rw [show (B zs).set q (.int .u8 7) = B (zs.set q 7) from B_set zs q 7]
                      refine Run.jump ((ih5 (q + 1, _, _) ⟨by dsimp only; omega, by simp [hzl]⟩ (by dsimp only; omega))) ⟨rfl, rfl, rfl, rfl, rfl, rfl, trivial⟩ (Grew.of (congrArg (· * _) (congrArg (· * _) (congrArg (· * _) (congrArg (· * _) as1)))) (Grew.refl _))
                    · obtain rfl : q = ((bs ++ flatB (ops.getD i default).2.2.2)).length := by omega
                      clear ih5
                      refine Run.seq ?_
                      refine Run.seq ?_
                      refine Run.region ?_
                      refine RunL.ok (OpOk.move rfl) rfl ?_
                      refine RunL.ok (OpOk.move rfl) rfl ?_
                      refine RunL.know (fun w s => (s.conv rfl).ownRd0) (fun rdq1 => ?_)
                      refine RunL.ok (OpOk.lenR rfl rfl (Rd.right rdq1) rfl) rfl ?_
                      refine RunL.ok (OpOk.asF (OpOk.lss rfl rfl) (by omega)) rfl ?_
                      refine RunL.nil ?_
                      refine Run.condF rfl ?_
                      refine Run.exit rfl ?_
                      refine Run.inBlock ?_
                      refine Run.region ?_
                      refine RunL.ok (OpOk.move rfl) rfl ?_
                      refine RunL.ok (OpOk.addN _ 1 rfl rfl rfl rfl (by omega)) rfl ?_
                      refine RunL.ok (OpOk.assign rfl) rfl ?_
                      refine RunL.nil ?_
                      refine Run.jump ((ih (i + 1, _, z8, (w - ((flatB (ops.getD i default).2.2.2).length : Int)), (w - ((flatB (ops.getD i default).2.2.2).length : Int)), (bs ++ flatB (ops.getD i default).2.2.2)) ⟨by dsimp only; omega, by dsimp only; omega, hB1, hB2, hB3⟩ (by dsimp only; omega))) ⟨rfl, rfl, rfl, rfl, trivial⟩ (Grew.of (Eq.trans (frc (frl rfl) (frc (frl rfl) (frc (frl rfl) rfl))) (congrArg (· * _) (congrArg (· * _) (congrArg (· * _) (asg as1))))) (Grew.refl _))
        refine Run.seq ?_
        refine Run.region ?_
        refine RunL.ok (OpOk.eql rfl rfl) rfl ?_
        refine RunL.ok (OpOk.assign rfl) rfl ?_
        refine RunL.nil ?_
        refine Run.condD rfl (fun y4 => ?_) (fun y4 => ?_)
        · refine Run.seq ?_
          refine Run.region ?_
          refine RunL.ok (OpOk.move rfl) rfl ?_
          refine RunL.ok (OpOk.fieldAddr fld68_1 rfl) rfl ?_
          refine RunL.ok (OpOk.load rfl rfl rfl (Blk.out Blk.pts _ _ rfl)) rfl ?_
          refine RunL.mem (frc (frl (frl rfl)) (frc (frl (frl rfl)) rfl)) ?_
          refine RunL.call cal30 rfl (s30) rfl (fun vy5 Ay5 hy5 => ?_)
          obtain ⟨rfl, rfl⟩ := hy5
          refine RunL.nil ?_
          refine Run.region ?_
          refine RunL.ok (OpOk.move rfl) rfl ?_
          refine RunL.ok (OpOk.fieldAddr fld68_1 rfl) rfl ?_
          refine RunL.ok (OpOk.load rfl rfl rfl (Blk.out Blk.pts.left.left _ _ rfl)) rfl ?_
          refine RunL.ok (OpOk.nilOk rfl) rfl ?_
          refine RunL.ok (OpOk.fieldAddr fld75_1 rfl) rfl ?_
          refine RunL.store ti3 rfl rfl rfl (frl (frl (frl rfl))) (by exact Nat.le_of_ble_eq_true rfl) (.inl rfl) ?_
          refine RunL.nil ?_
          refine Run.inBlock ?_
          refine Run.seq ?_
          refine Run.region ?_
          refine RunL.ok (OpOk.move rfl) rfl ?_
          refine RunL.mem (frc (frl rfl) (frc (frl rfl) rfl)) ?_
          refine RunL.call cal31 rfl (s31 (by omega)) rfl (fun vy6 Ay6 hy6 => ?_)
          obtain rfl := hy6
          refine RunL.ok (OpOk.assign rfl) rfl ?_
          refine RunL.nil ?_
          refine Run.seq ?_
          refine Run.seq ?_
          refine Run.know (fun w s => (s.conv (frl rfl)).ownRd0) (fun rdy7 => ?_)
          refine Run.know (fun w s => (s.conv rfl).ownRd0) (fun rdy8 => ?_)
          (apply Run.drawD [] (by rfl) (Eq.trans (frc (frl rfl) (frc (frl rfl) rfl)) (asg rfl)); case hchk => kernel_rfl)
          refine Sd.quiet 0 _ _ rfl rfl rfl rfl rfl (QOp.ok (fun X => OpOk.move rfl)) ?_
          refine Sd.quiet 1 _ _ rfl rfl rfl rfl rfl (QOp.ok (fun X => OpOk.not rfl)) ?_
          refine Sd.quiet 2 _ _ rfl rfl rfl rfl rfl (QOp.ok (fun X => OpOk.move rfl)) ?_
          refine Sd.quiet 3 _ _ rfl rfl rfl rfl rfl (QOp.ok (fun X => OpOk.move rfl)) ?_
          refine Sd.quiet 4 _ _ rfl rfl rfl rfl rfl (QOp.ok (fun X => OpOk.strOf rfl rfl rfl rfl (Rd.right rdy8).left.left)) ?_
          refine Sd.quiet 5 _ _ rfl rfl rfl rfl rfl (QOp.ok (fun X => OpOk.move rfl)) ?_
          refine Sd.quiet 6 _ _ rfl rfl rfl rfl rfl (QOp.ok (fun X => OpOk.nilOk rfl)) ?_
          refine Sd.quiet 7 _ _ rfl rfl rfl rfl rfl (QOp.ok (fun X => OpOk.fieldAddr fld75_2 rfl)) ?_
          refine Sd.quiet 8 _ _ rfl rfl rfl rfl rfl (QOp.ok (fun X => OpOk.load rfl rfl rfl (Blk.out Blk.pts.left.left.left _ _ rfl))) ?_
          refine Sd.quiet 9 _ _ rfl rfl rfl rfl rfl (QOp.ok (fun X => OpOk.neqSS rfl rfl)) ?_
          refine Sd.quiet 10 _ _ rfl rfl rfl rfl rfl (QOp.ok (fun X => OpOk.pickF rfl rfl)) ?_
          refine Sd.quiet 11 _ _ rfl rfl rfl rfl rfl (QOp.ok (fun X => OpOk.move rfl)) ?_
          refine Sd.splitBF (bnF (by first | omega | with_reducible rfl | assumption)) ?_
          refine Sd.quiet 12 _ _ rfl rfl rfl rfl rfl (QOp.ok (fun X => OpOk.move rfl)) ?_
          refine Sd.quiet 14 _ _ rfl rfl rfl rfl rfl (QOp.ok (fun X => OpOk.move rfl)) ?_
          refine Sd.quiet 15 _ _ rfl rfl rfl rfl rfl (QOp.ok (fun X => OpOk.lenR rfl rfl (Rd.right rdy8).left.left rfl)) ?_
          (refine Sd.exec 13 rfl rfl rfl rfl rfl ?hrest (by rfl) (fun Xy9 Ky9 hKy9 => ?_); case hrest => kernel_rfl)
          refine RunL.mem (fl2 (sep_emp _) (flS rfl)) ?_
          refine RunL.call cal33 rfl (s33) rfl (fun vy10 Ay10 hy10 => ?_)
          obtain ⟨rfl, rfl⟩ := hy10
          refine Sd.ret hKy9 (Eq.trans rfl (gp2 (sep_emp _).symm (asg rfl))) ⟨_, (emp_sep _).symm⟩ ?_
          refine Sd.quiet 16 _ _ rfl rfl rfl rfl rfl (QOp.ok (fun X => OpOk.as (c := false) (OpOk.neq rfl rfl) (by rw [decide_eq_true (by omega)]; rfl))) ?_
          refine Sd.quiet 17 _ _ rfl rfl rfl rfl rfl (QOp.ok (fun X => OpOk.pickF rfl rfl)) ?_
          (apply Sd.tail; case hall => kernel_rfl)
          refine RunL.mem (fl2 (flS rfl) (sep_emp _)) ?_
          refine RunL.nil ?_
          refine Run.condF rfl ?_
          refine Run.skip ?_
          refine Run.seq ?_
          refine Run.region ?_
          refine RunL.ok (OpOk.assign rfl) rfl ?_
          refine RunL.nil ?_
          refine Run.block ?_
          have hB1 : bs.length ≤ 1048576 * (i + 1) := by omega
          have hB2 : max (ops.getD i default).2.1 (-1) = max (ops.getD i default).2.1 (-1) := rfl
          have hB3 := hhi
          refine Run.jump ((Run.loopJ (X := Nat × Asn × List UInt8) (fun x => [(16, .int .i64 (x.1 : Int)), (15, vy6), (8, .int .i64 (i : Int)), (7, .pointer (some ⟨bx7, 0, none⟩)), (5, .pointer (some ⟨x5, 0, none⟩)), (1, u)]) (fun x => old w0 * x.2.1 * pts x5 (.cells #[.int .i64 (s), .int .i64 (max (ops.getD i default).2.1 (-1)), v] 100 (0, 0)) * own 5 1 v (bs).length (B (bs)) * pts bx7 (.cells #[.int .i64 (s), .int .i64 ((ops.getD i default).2.1), S (bs)] 75 (0, 0)) * own 5 1 vy6 (bs).length (B x.2.2)) (fun x => x.1 ≤ (bs).length ∧ x.2.2.length = (bs).length) (fun x => (bs).length - x.1) (0, _, bs) ⟨Nat.zero_le _, rfl⟩ (fun x hx ih5 => ?_))) ⟨rfl, rfl, rfl, rfl, rfl, rfl, trivial⟩ (Grew.of (Eq.trans (frc (frl (frl rfl)) (frc (frl (frl rfl)) rfl)) (congrArg (· * _) (congrArg (· * _) (congrArg (· * _) (congrArg (· * _) (asg as1)))))) (Grew.refl _))
          obtain ⟨q, J5, zs⟩ := x
          simp only at hx ih5 ⊢
          obtain ⟨hq, hzl⟩ := hx
          rcases Nat.lt_or_ge q (bs).length with hq1 | hq1
          · refine Run.seq ?_
            refine Run.seq ?_
            refine Run.region ?_
            refine RunL.ok (OpOk.move rfl) rfl ?_
            refine RunL.ok (OpOk.move rfl) rfl ?_
            refine RunL.know (fun w s => (s.conv rfl).ownRd0) (fun rdq1 => ?_)
            refine RunL.ok (OpOk.lenR rfl rfl (Rd.right rdq1) rfl) rfl ?_
            refine RunL.ok (OpOk.asT (OpOk.lss rfl rfl) (by omega)) rfl ?_
            refine RunL.nil ?_
            refine Run.condT rfl ?_
            refine Run.skip ?_
            refine Run.seq ?_
            refine Run.block ?_
            refine Run.region ?_
            refine RunL.ok (OpOk.move rfl) rfl ?_
            refine RunL.ok (OpOk.move rfl) rfl ?_
            refine RunL.ok (OpOk.idx1N rfl ti5 rfl (Rd.right rdq1) rfl (by omega)) rfl ?_
            refine RunL.storeOwn ti5 rfl rfl rfl rfl (by omega) ?_
            refine RunL.nil ?_
            refine Run.inBlock ?_
            refine Run.region ?_
            refine RunL.ok (OpOk.move rfl) rfl ?_
            refine RunL.ok (OpOk.addN _ 1 rfl rfl rfl rfl (by omega)) rfl ?_
            refine RunL.ok (OpOk.assign rfl) rfl ?_
            refine RunL.nil ?_
            rw [show (B zs).set q (.int .u8 7) = B (zs.set q 7) from B_set zs q 7]
            refine Run.jump ((ih5 (q + 1, _, _) ⟨by dsimp only; omega, by simp [hzl]⟩ (by dsimp only; omega))) ⟨rfl, rfl, rfl, rfl, rfl, rfl, trivial⟩ (Grew.of (congrArg (· * _) (congrArg (· * _) (congrArg (· * _) (congrArg (· * _) as1)))) (Grew.refl _))
          · obtain rfl : q = (bs).length := by omega
            clear ih5
            refine Run.seq ?_
            refine Run.seq ?_
            refine Run.region ?_
            refine RunL.ok (OpOk.move rfl) rfl ?_
            refine RunL.ok (OpOk.move rfl) rfl ?_
            refine RunL.know (fun w s => (s.conv rfl).ownRd0) (fun rdq1 => ?_)
            refine RunL.ok (OpOk.lenR rfl rfl (Rd.right rdq1) rfl) rfl ?_
            refine RunL.ok (OpOk.asF (OpOk.lss rfl rfl) (by omega)) rfl ?_
            refine RunL.nil ?_
            refine Run.condF rfl ?_
            refine Run.exit rfl ?_
            refine Run.inBlock ?_
            refine Run.region ?_
            refine RunL.ok (OpOk.move rfl) rfl ?_
            refine RunL.ok (OpOk.addN _ 1 rfl rfl rfl rfl (by omega)) rfl ?_
            refine RunL.ok (OpOk.assign rfl) rfl ?_
            refine RunL.nil ?_
            refine Run.jump ((ih (i + 1, _, v, max (ops.getD i default).2.1 (-1), (ops.getD i default).2.1, bs) ⟨by dsimp only; omega, by dsimp only; omega, hB1, hB2, hB3⟩ (by dsimp only; omega))) ⟨rfl, rfl, rfl, rfl, trivial⟩ (Grew.of (Eq.trans (frc (frl rfl) (frc (frl rfl) (frc (frl rfl) rfl))) (congrArg (· * _) (congrArg (· * _) (congrArg (· * _) (asg as1))))) (Grew.refl _))
        refine Run.know (fun w s => (s.conv (frl (frl rfl))).ownRd0) (fun rdy11 => ?_)
        refine Run.drop [10] ?_
        (apply Run.drawD [] (by rfl) (Eq.trans (frc (frl rfl) (frc (frl rfl) (frc (frl rfl) rfl))) (asg (asg rfl))); case hchk => kernel_rfl)
        refine Sd.quiet 0 _ _ rfl rfl rfl rfl rfl (QOp.ok (fun X => OpOk.move rfl)) ?_
        refine Sd.quiet 1 _ _ rfl rfl rfl rfl rfl (QOp.ok (fun X => OpOk.fieldAddr fld68_1 rfl)) ?_
        refine Sd.quiet 2 _ _ rfl rfl rfl rfl rfl (QOp.ok (fun X => OpOk.load rfl rfl rfl (Blk.out Blk.pts.left.left _ _ rfl))) ?_
        refine Sd.quiet 4 _ _ rfl rfl rfl rfl rfl (QOp.ok (fun X => OpOk.move rfl)) ?_
        refine Sd.quiet 5 _ _ rfl rfl rfl rfl rfl (QOp.ok (fun X => OpOk.fieldAddr fld68_1 rfl)) ?_
        refine Sd.quiet 6 _ _ rfl rfl rfl rfl rfl (QOp.ok (fun X => OpOk.load rfl rfl rfl (Blk.out Blk.pts.left.left _ _ rfl))) ?_
        (refine Sd.exec 3 rfl rfl rfl rfl rfl ?hrest (by rfl) (fun Xy12 Ky12 hKy12 => ?_); case hrest => kernel_rfl)
        refine RunL.mem (fl2 (sep_emp _) (flS (flS rfl))) ?_
        refine RunL.mem (frc (frl rfl) (frc (frl rfl) rfl)) ?_
        rcases Decidable.em ((ops.getD i default).2.1 < 0 ∨ (bs.length : Int) < (ops.getD i default).2.1) with hc | hc
        · have hB1 : bs.length ≤ 1048576 * (i + 1) := by omega
          have hB2 := hw
          have hB3 := hw2
          refine RunL.call cal35 rfl (s35a (by assumption)) rfl (fun vz1 Az1 hz1 => ?_)
          obtain ⟨rfl, rfl⟩ := hz1
          refine Sd.ret hKy12 (Eq.trans (frc (frl (frl rfl)) rfl) (gp2 rfl (asg rfl))) ⟨_, (emp_sep _).symm⟩ ?_
          (refine Sd.exec 7 rfl rfl rfl rfl rfl ?hrest (by rfl) (fun Xz2 Kz2 hKz2 => ?_); case hrest => kernel_rfl)
          refine RunL.mem (fl2 (flS rfl) rfl) ?_
          refine RunL.call cal36 rfl (s36a (by assumption)) rfl (fun vz3 Az3 hz3 => ?_)
          obtain ⟨rfl, rfl⟩ := hz3
          refine Sd.ret hKz2 (Eq.trans rfl (gp2 (sep_emp _).symm (asg (asg rfl)))) ⟨_, rfl⟩ ?_
          refine Sd.quiet 8 _ _ rfl rfl rfl rfl rfl (QOp.ok (fun X => OpOk.asT (OpOk.eql rfl rfl) (by omega))) ?_
          refine Sd.quiet 9 _ _ rfl rfl rfl rfl rfl (QOp.ok (fun X => OpOk.assign rfl)) ?_
          (apply Sd.tail; case hall => kernel_rfl)
          refine RunL.mem (fl2 (flS (flS rfl)) (sep_emp _)) ?_
          refine RunL.nil ?_
          refine Run.inBlock ?_
          refine Run.seq ?_
          refine Run.region ?_
          refine RunL.ok (OpOk.move rfl) rfl ?_
          refine RunL.mem (frc (frl rfl) (frc (frl rfl) rfl)) ?_
          refine RunL.call cal31 rfl (s31 (by omega)) rfl (fun vz4 Az4 hz4 => ?_)
          obtain rfl := hz4
          refine RunL.ok (OpOk.assign rfl) rfl ?_
          refine RunL.nil ?_
          refine Run.seq ?_
          refine Run.seq ?_
          refine Run.know (fun w s => (s.conv rfl).ownRd0) (fun rdz5 => ?_)
          (apply Run.drawD [] (by rfl) (Eq.trans (frc (frl rfl) (frc (frl rfl) rfl)) (asg rfl)); case hchk => kernel_rfl)
          refine Sd.quiet 0 _ _ rfl rfl rfl rfl rfl (QOp.ok (fun X => OpOk.move rfl)) ?_
          refine Sd.quiet 1 _ _ rfl rfl rfl rfl rfl (QOp.ok (fun X => OpOk.not rfl)) ?_
          refine Sd.quiet 2 _ _ rfl rfl rfl rfl rfl (QOp.ok (fun X => OpOk.move rfl)) ?_
          refine Sd.quiet 3 _ _ rfl rfl rfl rfl rfl (QOp.ok (fun X => OpOk.move rfl)) ?_
          refine Sd.quiet 4 _ _ rfl rfl rfl rfl rfl (QOp.ok (fun X => OpOk.strOf rfl rfl rfl rfl (Rd.right rdz5).left.left)) ?_
          refine Sd.quiet 5 _ _ rfl rfl rfl rfl rfl (QOp.ok (fun X => OpOk.move rfl)) ?_
          refine Sd.quiet 6 _ _ rfl rfl rfl rfl rfl (QOp.ok (fun X => OpOk.nilOk rfl)) ?_
          refine Sd.quiet 7 _ _ rfl rfl rfl rfl rfl (QOp.ok (fun X => OpOk.fieldAddr fld75_2 rfl)) ?_
          refine Sd.quiet 8 _ _ rfl rfl rfl rfl rfl (QOp.ok (fun X => OpOk.load rfl rfl rfl (Blk.out Blk.pts.left.left.left _ _ rfl))) ?_
          refine Sd.quiet 9 _ _ rfl rfl rfl rfl rfl (QOp.ok (fun X => OpOk.neqSS rfl rfl)) ?_
          refine Sd.quiet 10 _ _ rfl rfl rfl rfl rfl (QOp.ok (fun X => OpOk.pickF rfl rfl)) ?_
          refine Sd.quiet 11 _ _ rfl rfl rfl rfl rfl (QOp.ok (fun X => OpOk.move rfl)) ?_
          refine Sd.splitBF (bnF (by first | omega | with_reducible rfl | assumption)) ?_
          refine Sd.quiet 12 _ _ rfl rfl rfl rfl rfl (QOp.ok (fun X => OpOk.move rfl)) ?_
          refine Sd.quiet 14 _ _ rfl rfl rfl rfl rfl (QOp.ok (fun X => OpOk.move rfl)) ?_
          refine Sd.quiet 15 _ _ rfl rfl rfl rfl rfl (QOp.ok (fun X => OpOk.lenR rfl rfl (Rd.right rdz5).left.left rfl)) ?_
          (refine Sd.exec 13 rfl rfl rfl rfl rfl ?hrest (by rfl) (fun Xz6 Kz6 hKz6 => ?_); case hrest => kernel_rfl)
          refine RunL.mem (fl2 (sep_emp _) (flS rfl)) ?_
          refine RunL.call cal33 rfl (s33) rfl (fun vz7 Az7 hz7 => ?_)
          obtain ⟨rfl, rfl⟩ := hz7
          refine Sd.ret hKz6 (Eq.trans rfl (gp2 (sep_emp _).symm (asg rfl))) ⟨_, (emp_sep _).symm⟩ ?_
          refine Sd.quiet 16 _ _ rfl rfl rfl rfl rfl (QOp.ok (fun X => OpOk.as (c := false) (OpOk.neq rfl rfl) (by rw [decide_eq_true (by omega)]; rfl))) ?_
          refine Sd.quiet 17 _ _ rfl rfl rfl rfl rfl (QOp.ok (fun X => OpOk.pickF rfl rfl)) ?_
          (apply Sd.tail; case hall => kernel_rfl)
          refine RunL.mem (fl2 (flS rfl) (sep_emp _)) ?_
          refine RunL.nil ?_
          refine Run.condF rfl ?_
          refine Run.skip ?_
          refine Run.seq ?_
          refine Run.region ?_
          refine RunL.ok (OpOk.assign rfl) rfl ?_
          refine RunL.nil ?_
          refine Run.block ?_
          refine Run.jump ((Run.loopJ (X := Nat × Asn × List UInt8) (fun x => [(16, .int .i64 (x.1 : Int)), (15, vz4), (8, .int .i64 (i : Int)), (7, .pointer (some ⟨bx7, 0, none⟩)), (5, .pointer (some ⟨x5, 0, none⟩)), (1, u)]) (fun x => old w0 * x.2.1 * pts x5 (.cells #[.int .i64 (s), .int .i64 (w), v] 100 (0, 0)) * own 5 1 v (bs).length (B (bs)) * pts bx7 (.cells #[.int .i64 (s), .int .i64 (rw), S (bs)] 75 (0, 0)) * own 5 1 vz4 (bs).length (B x.2.2)) (fun x => x.1 ≤ (bs).length ∧ x.2.2.length = (bs).length) (fun x => (bs).length - x.1) (0, _, bs) ⟨Nat.zero_le _, rfl⟩ (fun x hx ih5 => ?_))) ⟨rfl, rfl, rfl, rfl, rfl, rfl, trivial⟩ (Grew.of (Eq.trans (frc (frl (frl rfl)) (frc (frl (frl rfl)) rfl)) (congrArg (· * _) (congrArg (· * _) (congrArg (· * _) (congrArg (· * _) (asg as1)))))) (Grew.refl _))
          obtain ⟨q, J5, zs⟩ := x
          simp only at hx ih5 ⊢
          obtain ⟨hq, hzl⟩ := hx
          rcases Nat.lt_or_ge q (bs).length with hq1 | hq1
          · refine Run.seq ?_
            refine Run.seq ?_
            refine Run.region ?_
            refine RunL.ok (OpOk.move rfl) rfl ?_
            refine RunL.ok (OpOk.move rfl) rfl ?_
            refine RunL.know (fun w s => (s.conv rfl).ownRd0) (fun rdq1 => ?_)
            refine RunL.ok (OpOk.lenR rfl rfl (Rd.right rdq1) rfl) rfl ?_
            refine RunL.ok (OpOk.asT (OpOk.lss rfl rfl) (by omega)) rfl ?_
            refine RunL.nil ?_
            refine Run.condT rfl ?_
            refine Run.skip ?_
            refine Run.seq ?_
            refine Run.block ?_
            refine Run.region ?_
            refine RunL.ok (OpOk.move rfl) rfl ?_
            refine RunL.ok (OpOk.move rfl) rfl ?_
            refine RunL.ok (OpOk.idx1N rfl ti5 rfl (Rd.right rdq1) rfl (by omega)) rfl ?_
            refine RunL.storeOwn ti5 rfl rfl rfl rfl (by omega) ?_
            refine RunL.nil ?_
            refine Run.inBlock ?_
            refine Run.region ?_
            refine RunL.ok (OpOk.move rfl) rfl ?_
            refine RunL.ok (OpOk.addN _ 1 rfl rfl rfl rfl (by omega)) rfl ?_
            refine RunL.ok (OpOk.assign rfl) rfl ?_
            refine RunL.nil ?_
            rw [show (B zs).set q (.int .u8 7) = B (zs.set q 7) from B_set zs q 7]
            refine Run.jump ((ih5 (q + 1, _, _) ⟨by dsimp only; omega, by simp [hzl]⟩ (by dsimp only; omega))) ⟨rfl, rfl, rfl, rfl, rfl, rfl, trivial⟩ (Grew.of (congrArg (· * _) (congrArg (· * _) (congrArg (· * _) (congrArg (· * _) as1)))) (Grew.refl _))
          · obtain rfl : q = (bs).length := by omega
            clear ih5
            refine Run.seq ?_
            refine Run.seq ?_
            refine Run.region ?_
            refine RunL.ok (OpOk.move rfl) rfl ?_
            refine RunL.ok (OpOk.move rfl) rfl ?_
            refine RunL.know (fun w s => (s.conv rfl).ownRd0) (fun rdq1 => ?_)
            refine RunL.ok (OpOk.lenR rfl rfl (Rd.right rdq1) rfl) rfl ?_
            refine RunL.ok (OpOk.asF (OpOk.lss rfl rfl) (by omega)) rfl ?_
            refine RunL.nil ?_
            refine Run.condF rfl ?_
            refine Run.exit rfl ?_
            refine Run.inBlock ?_
            refine Run.region ?_
            refine RunL.ok (OpOk.move rfl) rfl ?_
            refine RunL.ok (OpOk.addN _ 1 rfl rfl rfl rfl (by omega)) rfl ?_
            refine RunL.ok (OpOk.assign rfl) rfl ?_
            refine RunL.nil ?_
            refine Run.jump ((ih (i + 1, _, v, w, rw, bs) ⟨by dsimp only; omega, by dsimp only; omega, hB1, hB2, hB3⟩ (by dsimp only; omega))) ⟨rfl, rfl, rfl, rfl, trivial⟩ (Grew.of (Eq.trans (frc (frl rfl) (frc (frl rfl) (frc (frl rfl) rfl))) (congrArg (· * _) (congrArg (· * _) (congrArg (· * _) (asg as1))))) (Grew.refl _))
        · have htk : (bs.take (ops.getD i default).2.1.toNat).length = (ops.getD i default).2.1.toNat := by rw [List.length_take]; omega
          have hB1 : (bs.take (ops.getD i default).2.1.toNat).length ≤ 1048576 * (i + 1) := by omega
          have hB2 := hw
          have hB3 := hw2
          refine RunL.call cal35 rfl (s35b (by omega) (by omega)) rfl (fun vz2 Az2 hz2 => ?_)
          obtain ⟨z3, ⟨rfl, rfl⟩⟩ := hz2
          refine RunL.know (fun w s => (s.conv rfl).ownRd0) (fun rdz4 => ?_)
          refine Sd.ret hKy12 (Eq.trans (frc (frl (frl rfl)) rfl) (gp2 rfl (asg rfl))) ⟨_, (emp_sep _).symm⟩ ?_
          (refine Sd.exec 7 rfl rfl rfl rfl rfl ?hrest (by rfl) (fun Xz5 Kz5 hKz5 => ?_); case hrest => kernel_rfl)
          refine RunL.mem (fl2 (flS rfl) rfl) ?_
          refine RunL.call cal36 rfl (s36b (by omega) (by omega)) rfl (fun vz7 Az7 hz7 => ?_)
          obtain ⟨rfl, rfl⟩ := hz7
          refine Sd.ret hKz5 (Eq.trans rfl (gp2 (sep_emp _).symm (asg (asg rfl)))) ⟨_, rfl⟩ ?_
          refine Sd.quiet 8 _ _ rfl rfl rfl rfl rfl (QOp.ok (fun X => OpOk.asT (OpOk.eql rfl rfl) (by omega))) ?_
          refine Sd.quiet 9 _ _ rfl rfl rfl rfl rfl (QOp.ok (fun X => OpOk.assign rfl)) ?_
          (apply Sd.tail; case hall => kernel_rfl)
          refine RunL.mem (fl2 (flS (flS rfl)) (sep_emp _)) ?_
          refine RunL.nil ?_
          refine Run.inBlock ?_
          refine Run.seq ?_
          refine Run.region ?_
          refine RunL.ok (OpOk.move rfl) rfl ?_
          refine RunL.mem (frc (frl rfl) (frc (frl rfl) rfl)) ?_
          refine RunL.call cal31 rfl (s31 (by omega)) rfl (fun vz8 Az8 hz8 => ?_)
          obtain rfl := hz8
          refine RunL.ok (OpOk.assign rfl) rfl ?_
          refine RunL.nil ?_
          refine Run.seq ?_
          refine Run.seq ?_
          refine Run.know (fun w s => (s.conv rfl).ownRd0) (fun rdz9 => ?_)
          (apply Run.drawD [] (by rfl) (Eq.trans (frc (frl rfl) (frc (frl rfl) rfl)) (asg rfl)); case hchk => kernel_rfl)
          refine Sd.quiet 0 _ _ rfl rfl rfl rfl rfl (QOp.ok (fun X => OpOk.move rfl)) ?_
          refine Sd.quiet 1 _ _ rfl rfl rfl rfl rfl (QOp.ok (fun X => OpOk.not rfl)) ?_
          refine Sd.quiet 2 _ _ rfl rfl rfl rfl rfl (QOp.ok (fun X => OpOk.move rfl)) ?_
          refine Sd.quiet 3 _ _ rfl rfl rfl rfl rfl (QOp.ok (fun X => OpOk.move rfl)) ?_
          refine Sd.quiet 4 _ _ rfl rfl rfl rfl rfl (QOp.ok (fun X => OpOk.strOf rfl rfl rfl rfl (Rd.right rdz9).left.left)) ?_
          refine Sd.quiet 5 _ _ rfl rfl rfl rfl rfl (QOp.ok (fun X => OpOk.move rfl)) ?_
          refine Sd.quiet 6 _ _ rfl rfl rfl rfl rfl (QOp.ok (fun X => OpOk.nilOk rfl)) ?_
          refine Sd.quiet 7 _ _ rfl rfl rfl rfl rfl (QOp.ok (fun X => OpOk.fieldAddr fld75_2 rfl)) ?_
          refine Sd.quiet 8 _ _ rfl rfl rfl rfl rfl (QOp.ok (fun X => OpOk.load rfl rfl rfl (Blk.out Blk.pts.left.left.left _ _ rfl))) ?_
          refine Sd.quiet 9 _ _ rfl rfl rfl rfl rfl (QOp.ok (fun X => OpOk.neqSS rfl rfl)) ?_
          refine Sd.quiet 10 _ _ rfl rfl rfl rfl rfl (QOp.ok (fun X => OpOk.pickF rfl rfl)) ?_
          refine Sd.quiet 11 _ _ rfl rfl rfl rfl rfl (QOp.ok (fun X => OpOk.move rfl)) ?_
          refine Sd.splitBF (bnF (by first | omega | with_reducible rfl | assumption)) ?_
          refine Sd.quiet 12 _ _ rfl rfl rfl rfl rfl (QOp.ok (fun X => OpOk.move rfl)) ?_
          refine Sd.quiet 14 _ _ rfl rfl rfl rfl rfl (QOp.ok (fun X => OpOk.move rfl)) ?_
          refine Sd.quiet 15 _ _ rfl rfl rfl rfl rfl (QOp.ok (fun X => OpOk.lenR rfl rfl (Rd.right rdz9).left.left rfl)) ?_
          (refine Sd.exec 13 rfl rfl rfl rfl rfl ?hrest (by rfl) (fun Xz10 Kz10 hKz10 => ?_); case hrest => kernel_rfl)
          refine RunL.mem (fl2 (sep_emp _) (flS rfl)) ?_
          refine RunL.call cal33 rfl (s33) rfl (fun vz11 Az11 hz11 => ?_)
          obtain ⟨rfl, rfl⟩ := hz11
          refine Sd.ret hKz10 (Eq.trans rfl (gp2 (sep_emp _).symm (asg rfl))) ⟨_, (emp_sep _).symm⟩ ?_
          refine Sd.quiet 16 _ _ rfl rfl rfl rfl rfl (QOp.ok (fun X => OpOk.as (c := false) (OpOk.neq rfl rfl) (by rw [decide_eq_true (by omega)]; rfl))) ?_
          refine Sd.quiet 17 _ _ rfl rfl rfl rfl rfl (QOp.ok (fun X => OpOk.pickF rfl rfl)) ?_
          (apply Sd.tail; case hall => kernel_rfl)
          refine RunL.mem (fl2 (flS rfl) (sep_emp _)) ?_
          refine RunL.nil ?_
          refine Run.condF rfl ?_
          refine Run.skip ?_
          refine Run.seq ?_
          refine Run.region ?_
          refine RunL.ok (OpOk.assign rfl) rfl ?_
          refine RunL.nil ?_
          refine Run.block ?_
          refine Run.jump ((Run.loopJ (X := Nat × Asn × List UInt8) (fun x => [(16, .int .i64 (x.1 : Int)), (15, vz8), (8, .int .i64 (i : Int)), (7, .pointer (some ⟨bx7, 0, none⟩)), (5, .pointer (some ⟨x5, 0, none⟩)), (1, u)]) (fun x => old w0 * x.2.1 * pts x5 (.cells #[.int .i64 (s), .int .i64 (w), z3] 100 (0, 0)) * own 5 1 z3 ((List.take (ops.getD i default).2.1.toNat bs)).length (B ((List.take (ops.getD i default).2.1.toNat bs))) * pts bx7 (.cells #[.int .i64 (s), .int .i64 (rw), S ((List.take (ops.getD i default).2.1.toNat bs))] 75 (0, 0)) * own 5 1 vz8 ((List.take (ops.getD i default).2.1.toNat bs)).length (B x.2.2)) (fun x => x.1 ≤ ((List.take (ops.getD i default).2.1.toNat bs)).length ∧ x.2.2.length = ((List.take (ops.getD i default).2.1.toNat bs)).length) (fun x => ((List.take (ops.getD i default).2.1.toNat bs)).length - x.1) (0, _, (List.take (ops.getD i default).2.1.toNat bs)) ⟨Nat.zero_le _, rfl⟩ (fun x hx ih5 => ?_))) ⟨rfl, rfl, rfl, rfl, rfl, rfl, trivial⟩ (Grew.of (Eq.trans (frc (frl (frl rfl)) (frc (frl (frl rfl)) rfl)) (congrArg (· * _) (congrArg (· * _) (congrArg (· * _) (congrArg (· * _) (asg as1)))))) (Grew.refl _))
          obtain ⟨q, J5, zs⟩ := x
          simp only at hx ih5 ⊢
          obtain ⟨hq, hzl⟩ := hx
          rcases Nat.lt_or_ge q ((List.take (ops.getD i default).2.1.toNat bs)).length with hq1 | hq1
          · refine Run.seq ?_
            refine Run.seq ?_
            refine Run.region ?_
            refine RunL.ok (OpOk.move rfl) rfl ?_
            refine RunL.ok (OpOk.move rfl) rfl ?_
            refine RunL.know (fun w s => (s.conv rfl).ownRd0) (fun rdq1 => ?_)
            refine RunL.ok (OpOk.lenR rfl rfl (Rd.right rdq1) rfl) rfl ?_
            refine RunL.ok (OpOk.asT (OpOk.lss rfl rfl) (by omega)) rfl ?_
            refine RunL.nil ?_
            refine Run.condT rfl ?_
            refine Run.skip ?_
            refine Run.seq ?_
            refine Run.block ?_
            refine Run.region ?_
            refine RunL.ok (OpOk.move rfl) rfl ?_
            refine RunL.ok (OpOk.move rfl) rfl ?_
            refine RunL.ok (OpOk.idx1N rfl ti5 rfl (Rd.right rdq1) rfl (by omega)) rfl ?_
            refine RunL.storeOwn ti5 rfl rfl rfl rfl (by omega) ?_
            refine RunL.nil ?_
            refine Run.inBlock ?_
            refine Run.region ?_
            refine RunL.ok (OpOk.move rfl) rfl ?_
            refine RunL.ok (OpOk.addN _ 1 rfl rfl rfl rfl (by omega)) rfl ?_
            refine RunL.ok (OpOk.assign rfl) rfl ?_
            refine RunL.nil ?_
            rw [show (B zs).set q (.int .u8 7) = B (zs.set q 7) from B_set zs q 7]
            refine Run.jump ((ih5 (q + 1, _, _) ⟨by dsimp only; omega, by simp [hzl]⟩ (by dsimp only; omega))) ⟨rfl, rfl, rfl, rfl, rfl, rfl, trivial⟩ (Grew.of (congrArg (· * _) (congrArg (· * _) (congrArg (· * _) (congrArg (· * _) as1)))) (Grew.refl _))
          · obtain rfl : q = ((List.take (ops.getD i default).2.1.toNat bs)).length := by omega
            clear ih5
            refine Run.seq ?_
            refine Run.seq ?_
            refine Run.region ?_
            refine RunL.ok (OpOk.move rfl) rfl ?_
            refine RunL.ok (OpOk.move rfl) rfl ?_
            refine RunL.know (fun w s => (s.conv rfl).ownRd0) (fun rdq1 => ?_)
            refine RunL.ok (OpOk.lenR rfl rfl (Rd.right rdq1) rfl) rfl ?_
            refine RunL.ok (OpOk.asF (OpOk.lss rfl rfl) (by omega)) rfl ?_
            refine RunL.nil ?_
            refine Run.condF rfl ?_
            refine Run.exit rfl ?_
            refine Run.inBlock ?_
            refine Run.region ?_
            refine RunL.ok (OpOk.move rfl) rfl ?_
            refine RunL.ok (OpOk.addN _ 1 rfl rfl rfl rfl (by omega)) rfl ?_
            refine RunL.ok (OpOk.assign rfl) rfl ?_
            refine RunL.nil ?_
            refine Run.jump ((ih (i + 1, _, z3, w, rw, (List.take (ops.getD i default).2.1.toNat bs)) ⟨by dsimp only; omega, by dsimp only; omega, hB1, hB2, hB3⟩ (by dsimp only; omega))) ⟨rfl, rfl, rfl, rfl, trivial⟩ (Grew.of (Eq.trans (frc (frl rfl) (frc (frl rfl) (frc (frl rfl) rfl))) (congrArg (· * _) (congrArg (· * _) (congrArg (· * _) (asg as1))))) (Grew.refl _))
      refine Run.exit rfl ?_
      refine Run.seq ?_
      refine Run.know (fun w s => (s.conv (frl rfl)).ownRd0) (fun rdy15 => ?_)
      (apply Run.drawD [] (by rfl) (Eq.trans (frc (frl rfl) (frc (frl rfl) rfl)) (asg rfl)); case hchk => kernel_rfl)
      refine Sd.quiet 0 _ _ rfl rfl rfl rfl rfl (QOp.ok (fun X => OpOk.move rfl)) ?_
      refine Sd.quiet 3 _ _ rfl rfl rfl rfl rfl (QOp.ok (fun X => OpOk.move rfl)) ?_
      refine Sd.quiet 4 _ _ rfl rfl rfl rfl rfl (QOp.ok (fun X => OpOk.nilOk rfl)) ?_
      refine Sd.quiet 5 _ _ rfl rfl rfl rfl rfl (QOp.ok (fun X => OpOk.fieldAddr fld75_2 rfl)) ?_
      refine Sd.quiet 6 _ _ rfl rfl rfl rfl rfl (QOp.ok (fun X => OpOk.load rfl rfl rfl (Blk.out Blk.pts.left.left _ _ rfl))) ?_
      (refine Sd.exec 1 rfl rfl rfl rfl rfl ?hrest (by rfl) (fun Xy16 Ky16 hKy16 => ?_); case hrest => kernel_rfl)
      refine RunL.mem (fl2 (sep_emp _) (flS rfl)) ?_
      refine RunL.call cal31 rfl (s31 (by omega)) rfl (fun vy17 Ay17 hy17 => ?_)
      obtain rfl := hy17
      refine RunL.know (fun w s => (s.conv rfl).ownRd0) (fun rdy18 => ?_)
      refine Sd.ret hKy16 (Eq.trans rfl (gp2 (sep_emp _).symm (asg (asg rfl)))) ⟨_, (emp_sep _).symm⟩ ?_
      refine Sd.quiet 2 _ _ rfl rfl rfl rfl rfl (QOp.ok (fun X => OpOk.strOf rfl rfl rfl rfl (Rd.right (Rd.right rdy18)).left)) ?_
      refine Sd.quiet 7 _ _ rfl rfl rfl rfl rfl (QOp.ok (fun X => OpOk.eqlSS rfl rfl)) ?_
      refine Sd.quiet 8 _ _ rfl rfl rfl rfl rfl (QOp.ok (fun X => OpOk.assign rfl)) ?_
      (apply Sd.tail; case hall => kernel_rfl)
      refine RunL.mem (fl2 (flS (flS rfl)) (sep_emp _)) ?_
      refine RunL.nil ?_
      refine Run.ret1 Try.func10 rfl rfl ?_
      rw [decide_eq_true (by first | omega | with_reducible rfl | assumption)]
      exact ⟨rfl, ⟨_, (asg (asg (asg (asg as1))))⟩⟩
    · obtain rfl : i = ops.length := by omega
      clear ih
      refine Run.seq ?_
      refine Run.seq ?_
      refine Run.region ?_
      refine RunL.ok (OpOk.move rfl) rfl ?_
      refine RunL.ok (OpOk.move rfl) rfl ?_
      refine RunL.ok (OpOk.lenR rfl rfl rd.left.left.left.left rfl) rfl ?_
      refine RunL.ok (OpOk.asF (OpOk.lss rfl rfl) (by omega)) rfl ?_
      refine RunL.ok (OpOk.move rfl) rfl ?_
      refine RunL.off rfl rfl rfl rfl ?_
      refine RunL.off rfl rfl rfl rfl ?_
      refine RunL.ok (OpOk.pickF rfl rfl) rfl ?_
      refine RunL.nil ?_
      refine Run.condF rfl ?_
      refine Run.exit rfl ?_
      refine Run.seq ?_
      refine Run.know (fun w s => (s.conv (frl rfl)).ownRd0) (fun rdy1 => ?_)
      (apply Run.drawD [] (by rfl) (Eq.trans (frc (frl rfl) (frc (frl rfl) rfl)) (asg rfl)); case hchk => kernel_rfl)
      refine Sd.quiet 0 _ _ rfl rfl rfl rfl rfl (QOp.ok (fun X => OpOk.move rfl)) ?_
      refine Sd.quiet 3 _ _ rfl rfl rfl rfl rfl (QOp.ok (fun X => OpOk.move rfl)) ?_
      refine Sd.quiet 4 _ _ rfl rfl rfl rfl rfl (QOp.ok (fun X => OpOk.nilOk rfl)) ?_
      refine Sd.quiet 5 _ _ rfl rfl rfl rfl rfl (QOp.ok (fun X => OpOk.fieldAddr fld75_2 rfl)) ?_
      refine Sd.quiet 6 _ _ rfl rfl rfl rfl rfl (QOp.ok (fun X => OpOk.load rfl rfl rfl (Blk.out Blk.pts.left.left _ _ rfl))) ?_
      (refine Sd.exec 1 rfl rfl rfl rfl rfl ?hrest (by rfl) (fun Xy2 Ky2 hKy2 => ?_); case hrest => kernel_rfl)
      refine RunL.mem (fl2 (sep_emp _) (flS rfl)) ?_
      refine RunL.call cal31 rfl (s31 (by omega)) rfl (fun vy3 Ay3 hy3 => ?_)
      obtain rfl := hy3
      refine RunL.know (fun w s => (s.conv rfl).ownRd0) (fun rdy4 => ?_)
      refine Sd.ret hKy2 (Eq.trans rfl (gp2 (sep_emp _).symm (asg (asg rfl)))) ⟨_, (emp_sep _).symm⟩ ?_
      refine Sd.quiet 2 _ _ rfl rfl rfl rfl rfl (QOp.ok (fun X => OpOk.strOf rfl rfl rfl rfl (Rd.right (Rd.right rdy4)).left)) ?_
      refine Sd.quiet 7 _ _ rfl rfl rfl rfl rfl (QOp.ok (fun X => OpOk.eqlSS rfl rfl)) ?_
      refine Sd.quiet 8 _ _ rfl rfl rfl rfl rfl (QOp.ok (fun X => OpOk.assign rfl)) ?_
      (apply Sd.tail; case hall => kernel_rfl)
      refine RunL.mem (fl2 (flS (flS rfl)) (sep_emp _)) ?_
      refine RunL.nil ?_
      refine Run.ret1 Try.func10 rfl rfl ?_
      rw [decide_eq_true (by first | omega | with_reducible rfl | assumption)]
      exact ⟨rfl, ⟨_, (asg (asg (asg (asg as1))))⟩⟩
end Go.Proofs.Ytlmehpjcmdipmaa
