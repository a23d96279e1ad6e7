/- The law JournalKeeps, walked. -/
import Derived.Test.YteopadjihklkmaaJnN
namespace Go.Proofs.Yteopadjihklkmaa
open Go Go.Proofs
set_option maxRecDepth 100000
set_option maxHeartbeats 4000000
set_option linter.unusedSimpArgs false
set_option linter.unusedVariables false
section
variable {w0 : World} {A : Asn}
theorem journalKeeps_spec {u : Value} {ops : List JOp} (rd : Rd w0 (old w0) u 3 ops.length (Fl encT60 ops)) (hok : ∀ o ∈ ops, JOk w0 o) :
    Spec Try.prog w0 6 [u] (old w0) (fun v' A' => v' = .bool true ∧ Grew (old w0) A') := by
  have hmx := rd.max
  refine Spec.of_run [(0, u)] Try.func6 rfl (Nat.le_of_ble_eq_true rfl) (by repeat (first | exact trivial | refine ⟨rfl, ?_⟩)) ?_
  refine Run.seq ?_
  refine Run.region ?_
  refine RunL.alloc ti4 rfl (fun bx1 => ?_)
  refine RunL.nil ?_
  refine Run.seq ?_
  refine Run.seq ?_
  refine Run.region ?_
  refine RunL.call cal23 rfl (s23) rfl (fun vx2 Ax2 hx2 => ?_)
  obtain ⟨x3, ⟨rfl, rfl⟩⟩ := hx2
  refine RunL.ok (OpOk.not rfl) rfl ?_
  refine RunL.nil ?_
  refine Run.condF rfl ?_
  refine Run.skip ?_
  refine Run.seq ?_
  refine Run.region ?_
  refine RunL.call cal24 rfl (s24b (by omega)) rfl (fun vx5 Ax5 hx5 => ?_)
  obtain ⟨x6, ⟨x7, ⟨rfl, rfl⟩⟩⟩ := hx5
  refine RunL.ok (OpOk.move rfl) rfl ?_
  refine RunL.ok (OpOk.ext20 rfl) rfl ?_
  refine RunL.ok (OpOk.ext21 rfl) rfl ?_
  refine RunL.ok (OpOk.assign rfl) rfl ?_
  refine RunL.ok (OpOk.assign rfl) rfl ?_
  refine RunL.nil ?_
  refine Run.seq ?_
  refine Run.region ?_
  refine RunL.ok (OpOk.move rfl) rfl ?_
  refine RunL.call cal25 rfl (s25b (by decide)) rfl (fun vx8 Ax8 hx8 => ?_)
  obtain ⟨x9, ⟨x10, ⟨x11, ⟨x12, ⟨x13, ⟨x14, ⟨rfl, ⟨x15, rfl⟩⟩⟩⟩⟩⟩⟩⟩ := hx8
  refine RunL.ok (OpOk.move rfl) rfl ?_
  refine RunL.ok (OpOk.ext20 rfl) rfl ?_
  refine RunL.ok (OpOk.ext21 rfl) rfl ?_
  refine RunL.ok (OpOk.assign rfl) rfl ?_
  refine RunL.ok (OpOk.assign rfl) rfl ?_
  refine RunL.nil ?_
  refine Run.seq ?_
  refine Run.seq ?_
  refine Run.region ?_
  refine RunL.ok (OpOk.move rfl) rfl ?_
  refine RunL.ok (OpOk.eqlPN rfl rfl) rfl ?_
  refine RunL.ok (OpOk.move rfl) rfl ?_
  refine RunL.on rfl rfl ?_
  refine RunL.ok (OpOk.move rfl) rfl ?_
  refine RunL.on rfl rfl ?_
  refine RunL.ok (OpOk.as (c := false) (OpOk.neq rfl rfl) (by rw [decide_eq_true (by omega)]; rfl)) rfl ?_
  refine RunL.ok (OpOk.pickF rfl rfl) rfl ?_
  refine RunL.ok (OpOk.move rfl) rfl ?_
  refine RunL.on rfl rfl ?_
  refine RunL.ok (OpOk.move rfl) rfl ?_
  refine RunL.on rfl rfl ?_
  refine RunL.ok (OpOk.eqlPN rfl rfl) rfl ?_
  refine RunL.ok (OpOk.pickF rfl rfl) rfl ?_
  refine RunL.ok (OpOk.move rfl) rfl ?_
  refine RunL.on rfl rfl ?_
  refine RunL.ok (OpOk.move rfl) rfl ?_
  refine RunL.on rfl rfl ?_
  refine RunL.ok (OpOk.as (c := false) (OpOk.neq rfl rfl) (by rw [decide_eq_true (by omega)]; rfl)) rfl ?_
  refine RunL.ok (OpOk.pickF rfl rfl) rfl ?_
  refine RunL.nil ?_
  refine Run.condF rfl ?_
  refine Run.skip ?_
  refine Run.seq ?_
  refine Run.region ?_
  refine RunL.alloc ti57 rfl (fun bx16 => ?_)
  refine RunL.nil ?_
  refine Run.seq ?_
  refine Run.seq ?_
  refine Run.region ?_
  refine RunL.ok (OpOk.assign rfl) rfl ?_
  refine RunL.nil ?_
  refine Run.block ?_
  have hx : x13 = [] := List.map_eq_nil_iff.1 (show x13.map Prod.snd = [] from x15)
  subst hx
  rw [show contC [] = (([], false, []) : Cn) from rfl, show (says []).2 = 0 from rfl, List.take_nil]
  dsimp only
  have asBytes : True := trivial
  have e1 : own 9 1 (Value.slice none 0 0) ((List.nil : List (Value × List UInt8)).map Prod.snd).length (Fl encS ((List.nil : List (Value × List UInt8)).map Prod.snd)) = emp := own_nil_eq 9 1
  refine Run.mem (A' := old w0 * (x3 * x14) * pts bx1 (.cells #[.bool false] 4 (0, 0)) * pts bx16 (.cells #[.slice none 0 0] 57 (0, 0)) * pts x6 (.cells #[.int .i64 (1048576), .int .i64 ((-1)), x12] 145 (0, 0)) * own 5 1 x12 ((List.nil : List UInt8)).length (B ((List.nil : List UInt8))) * pts x9 (.cells #[x10, .bool false, x11, .pointer (some ⟨x6, 0, none⟩), .bool false] 149 (0, 0)) * own 5 1 x10 ((List.nil : List UInt8)).length (B ((List.nil : List UInt8))) * own 63 1 x11 ((List.nil : List (Value × List UInt8))).length (Fl encV ((List.nil : List (Value × List UInt8)))) * ownsB 5 ((List.nil : List (Value × List UInt8))) * own 9 1 (Value.slice none 0 0) ((List.nil : List (Value × List UInt8)).map Prod.snd).length (Fl encS ((List.nil : List (Value × List UInt8)).map Prod.snd))) ?_ ?_
  · rw [e1, sep_emp]
    simp only [← sep_assoc]
    exact (frc (frl rfl) (frc (frl rfl) (frc (frl rfl) (frc (frl rfl) (frc (frl rfl) (frc (frl rfl) (frc rfl (frc (frl (frl rfl)) rfl))))))))
  · refine Run.jump ((Run.loopM0 (X := Nat × List Nat × Asn × (Int × List UInt8 × Value) × (Nat × Value × Value × List UInt8 × Bool) × Value × List (Value × List UInt8)) (fun x => x.2.1) (fun x => [(8, .int .i64 (x.1 : Int)), (7, .pointer (some ⟨bx16, 0, none⟩)), (5, .pointer (some ⟨x.2.2.2.2.1.1, 0, none⟩)), (3, .pointer (some ⟨x6, 0, none⟩)), (2, .pointer (some ⟨bx1, 0, none⟩)), (0, u)]) (fun x => old w0 * x.2.2.1 * pts bx1 (.cells #[.bool false] 4 (0, 0)) * pts bx16 (.cells #[x.2.2.2.2.2.1] 57 (0, 0)) * pts x6 (.cells #[.int .i64 (1048576), .int .i64 ((x.2.2.2.1.1)), (x.2.2.2.1.2.2)] 145 (0, 0)) * own 5 1 (x.2.2.2.1.2.2) ((x.2.2.2.1.2.1)).length (B ((x.2.2.2.1.2.1))) * pts (x.2.2.2.2.1.1) (.cells #[(x.2.2.2.2.1.2.1), .bool (x.2.2.2.2.1.2.2.2.2), (x.2.2.2.2.1.2.2.1), .pointer (some ⟨x6, 0, none⟩), .bool false] 149 (0, 0)) * own 5 1 (x.2.2.2.2.1.2.1) ((x.2.2.2.2.1.2.2.2.1)).length (B ((x.2.2.2.2.1.2.2.2.1))) * own 63 1 (x.2.2.2.2.1.2.2.1) ((x.2.2.2.2.2.2)).length (Fl encV ((x.2.2.2.2.2.2))) * ownsB 5 ((x.2.2.2.2.2.2)) * own 9 1 x.2.2.2.2.2.1 (x.2.2.2.2.2.2.map Prod.snd).length (Fl encS (x.2.2.2.2.2.2.map Prod.snd))) (fun x => x.1 ≤ ops.length ∧ x.1 ≤ 60 ∧ Tidy x.2.2.2.1.2.1 (x.2.2.2.2.1.2.2.2.1, x.2.2.2.2.1.2.2.2.2, x.2.2.2.2.2.2.map Prod.snd) ∧ x.2.2.2.1.2.1.length ≤ 1048576 ∧ x.2.2.2.1.1 ≤ 9223372036854775807) (fun x => ops.length - x.1) (0, [], _, (-1, [], x12), (x9, x10, x11, [], false), .slice none 0 0, []) ⟨Nat.zero_le _, Nat.zero_le _, Tidy.nil, Nat.zero_le _, (by decide : (-1 : Int) ≤ 9223372036854775807)⟩ rfl (fun x hx ih => ?_))) ⟨rfl, rfl, rfl, rfl, rfl, rfl, trivial⟩ (Grew.of (congrArg (· * _) (congrArg (· * _) (congrArg (· * _) (congrArg (· * _) (congrArg (· * _) (congrArg (· * _) (congrArg (· * _) (congrArg (· * _) (congrArg (· * _) as1))))))))) (Grew.refl _))
    obtain ⟨i, ds, J, ⟨w, bs, fv⟩, ⟨jp, sv, rv, snap, has⟩, av, recs⟩ := x
    simp only at hx ih ⊢
    obtain ⟨hi, hi6, ht, hbl, hwl⟩ := hx
    have hcok := contC_ok bs
    rw [ht.cont] at hcok
    obtain ⟨hsn, hrl, hrb⟩ := hcok
    dsimp only at hsn hrl hrb
    rw [List.length_map] at hrl
    rcases Nat.lt_or_ge i ops.length with hlt | hge
    · rcases Nat.lt_or_ge i 60 with h60 | h60
      · have ho := hok _ (getD_mem hlt)
        obtain ⟨o, hoe⟩ : ∃ o, ops.getD i default = o := ⟨_, rfl⟩
        rw [hoe] at ho
        obtain ⟨ok, on, os, ol⟩ := o
        obtain ⟨rdo, alo, hnm, hlo, hhi⟩ := ho
        dsimp only at rdo alo hnm hlo hhi
        have hone : ∀ w ∈ (Value.agg (encT60 (ok, on, os, ol)).toArray).cells.toList, w.oneCell' = true := fun w hw => OneC.one (enc := encT60) (ok, on, os, ol) w hw
        have hml : (recs.map Prod.snd).length = recs.length := List.length_map ..
        have hwm : max on (-1) ≤ 9223372036854775807 := by omega
        rcases Decidable.em (ok = 1) with hk | hk
        · subst hk
          have hub : (UInt8.ofNat i).toNat = i := by rw [UInt8.toNat_ofNat']; omega
          obtain ⟨hf, hsz, w2, hw2, hW⟩ | hW | hW | ⟨hf, hsz, hj, hW⟩ := Wr.split (s := 1048576) (M := 9223372036854775807) (bs := bs) (k := 2) (C := (snap, has, recs.map Prod.snd)) (l := [[UInt8.ofNat i]]) hwm
          · refine Run.seq ?_
            refine Run.seq ?_
            refine Run.region ?_
            refine RunL.ok (OpOk.move rfl) rfl ?_
            refine RunL.ok (OpOk.move rfl) rfl ?_
            refine RunL.ok (OpOk.lenR rfl rfl rd.left.left.left.left.left.left.left.left.left.left.left rfl) rfl ?_
            refine RunL.ok (OpOk.asT (OpOk.lss rfl rfl) (by omega)) rfl ?_
            refine RunL.ok (OpOk.move rfl) rfl ?_
            refine RunL.on rfl rfl ?_
            refine RunL.ok (OpOk.move rfl) rfl ?_
            refine RunL.on rfl rfl ?_
            refine RunL.ok (OpOk.asT (OpOk.lss rfl rfl) (by omega)) rfl ?_
            refine RunL.ok (OpOk.pickT rfl rfl) rfl ?_
            refine RunL.nil ?_
            refine Run.condT rfl ?_
            refine Run.skip ?_
            refine Run.seq ?_
            refine Run.block ?_
            refine Run.seq ?_
            refine Run.region ?_
            refine RunL.ok (OpOk.move rfl) rfl ?_
            refine RunL.ok (OpOk.move rfl) rfl ?_
            refine RunL.ok (OpOk.idxN rfl ti60 rfl rd.left.left.left.left.left.left.left.left.left.left.left rfl (by omega)) rfl ?_
            refine RunL.ok (OpOk.loadFlE (by assumption) rfl rfl ti60 rfl rd.left.left.left.left.left.left.left.left.left.left.left (fun _ => rfl) rfl (by omega)) rfl ?_
            refine RunL.alloc ti60 rfl (fun by1 => ?_)
            refine RunL.storeAll ti60 rfl rfl rfl (fun w hw => OneC.one (enc := encT60) ((1, on, os, ol)) w hw) rfl rfl ?_
            refine RunL.nil ?_
            refine Run.seq ?_
            refine Run.region ?_
            refine RunL.ok (OpOk.move rfl) rfl ?_
            refine RunL.ok (OpOk.fieldAddr fld60_1 rfl) rfl ?_
            refine RunL.ok (OpOk.load rfl rfl rfl (Blk.out Blk.pts _ _ (by first | rfl | assumption))) rfl ?_
            refine RunL.know (fun w s => (s.conv (frl (frl (frl rfl)))).ownsB0) (fun aly2 => ?_)
            refine RunL.mem (frc (frl (frl (frl (frl (frl (frl (frl rfl))))))) (frc (frl (frl (frl (frl (frl (frl (frl rfl))))))) rfl)) ?_
            refine RunL.call cal26 rfl (s26) rfl (fun vy3 Ay3 hy3 => ?_)
            obtain ⟨rfl, rfl⟩ := hy3
            refine RunL.nil ?_
            refine Run.seq ?_
            refine Run.region ?_
            refine RunL.ok (OpOk.assign rfl) rfl ?_
            refine RunL.nil ?_
            refine Run.seq ?_
            refine Run.seq ?_
            refine Run.region ?_
            refine RunL.ok (OpOk.fieldAddr fld60_0 rfl) rfl ?_
            refine RunL.ok (OpOk.load rfl rfl rfl (Blk.out Blk.pts.left.left _ _ (by first | rfl | assumption))) rfl ?_
            refine RunL.nil ?_
            refine Run.block ?_
            refine Run.seq ?_
            refine Run.region ?_
            refine RunL.ok (OpOk.asT (OpOk.eql rfl rfl) (by omega)) rfl ?_
            refine RunL.ok (OpOk.assign rfl) rfl ?_
            refine RunL.nil ?_
            refine Run.condT rfl ?_
            refine Run.seq ?_
            refine Run.region ?_
            refine RunL.ok (OpOk.move rfl) rfl ?_
            refine RunL.ok (OpOk.move rfl) rfl ?_
            refine RunL.ok (OpOk.convInt rfl rfl rfl (wrapU8n _)) rfl ?_
            refine RunL.litB (xs := [UInt8.ofNat i]) rfl ti5 rfl rfl rfl (by decide) rfl (fun vy4 rdy4 => ?_)
            refine RunL.know (fun w s => (s.conv rfl).ownRd0) (fun rdy5 => ?_)
            refine RunL.mem (frc (frl (frl (frl (frl (frl (frl rfl)))))) (frc (frl (frl (frl (frl (frl (frl rfl)))))) (frc (frl (frl (frl (frl (frl (frl rfl)))))) (frc (frl (frl (frl (frl (frl (frl rfl)))))) (frc (frl rfl) (frc (frl rfl) rfl)))))) ?_
            refine RunL.call cal27 rfl (s27 (Rd.right rdy5) (by assumption) (by omega) (by omega) (by omega) (by omega) (by assumption)) rfl (fun vy6 Ay6 hy6 => ?_)
            obtain ⟨y7, ⟨y8, ⟨y9, ⟨y10, ⟨y11, ⟨rfl, ⟨y12, rfl⟩⟩⟩⟩⟩⟩⟩ := hy6
            refine RunL.ok (OpOk.assign rfl) rfl ?_
            refine RunL.nil ?_
            refine Run.seq ?_
            refine Run.region ?_
            refine RunL.ok (OpOk.move rfl) rfl ?_
            refine RunL.ok (OpOk.asT (OpOk.eql rfl rfl) (by omega)) rfl ?_
            refine RunL.nil ?_
            refine Run.condT rfl ?_
            refine Run.region ?_
            refine RunL.store ti57 rfl rfl rfl (frl (frl (frl (frl (frl (frl (frl (frl (frl (frl (frl rfl))))))))))) (by exact Nat.le_of_ble_eq_true rfl) (.inl rfl) ?_
            refine RunL.nil ?_
            refine Run.inBlock ?_
            refine Run.seq ?_
            refine Run.seq ?_
            refine Run.region ?_
            refine RunL.ok (OpOk.move rfl) rfl ?_
            refine RunL.ok (OpOk.as (c := true) (OpOk.neq rfl rfl) (by rw [decide_eq_false (by omega)]; rfl)) rfl ?_
            refine RunL.nil ?_
            refine Run.condT rfl ?_
            refine Run.exit rfl ?_
            refine Run.region ?_
            refine RunL.ok (OpOk.move rfl) rfl ?_
            refine RunL.ok (OpOk.addN _ 1 rfl rfl rfl rfl (by omega)) rfl ?_
            refine RunL.ok (OpOk.assign rfl) rfl ?_
            refine RunL.nil ?_
            rw [takes_two] at y12 ⊢
            dsimp only at y12 ⊢
            have hy : y10 = [] := List.map_eq_nil_iff.1 y12
            subst hy
            have ht2 : Tidy (bs ++ rowsB 2 [[UInt8.ofNat i]]) ([UInt8.ofNat i], true, (List.nil : List (Value × List UInt8)).map Prod.snd) := by
              have := ht.more (k := 2) (.inr rfl) hf
              rwa [takes_two] at this
            refine Run.mem (sep_emp _).symm ?_
            rw [← e1]
            refine Run.jump ((ih (i + 1, ds, _, (w2, bs ++ rowsB 2 [[UInt8.ofNat i]], y9), (jp, y7, y8, [UInt8.ofNat i], true), .slice none 0 0, []) ⟨by dsimp only; omega, by dsimp only; omega, ht2, by dsimp only; omega, hw2⟩ (by dsimp only; omega))) ⟨rfl, rfl, rfl, rfl, rfl, rfl, trivial⟩ (Grew.of (Eq.trans (frc (frl (frl (frl (frl (frl (frl (frl (frl (frl (frl (frl rfl))))))))))) (frc rfl (frc (frl rfl) (frc (frl rfl) (frc (frl rfl) (frc (frl rfl) (frc (frl rfl) (frc (frl rfl) (frc rfl (frc (frl (frl (frl (frl rfl)))) rfl)))))))))) (congrArg (· * _) (congrArg (· * _) (congrArg (· * _) (congrArg (· * _) (congrArg (· * _) (congrArg (· * _) (congrArg (· * _) (congrArg (· * _) (congrArg (· * _) (congrArg (· * _) (asg (asg (asg (asg as1))))))))))))))) (Grew.refl _))
          · refine Run.seq ?_
            refine Run.seq ?_
            refine Run.region ?_
            refine RunL.ok (OpOk.move rfl) rfl ?_
            refine RunL.ok (OpOk.move rfl) rfl ?_
            refine RunL.ok (OpOk.lenR rfl rfl rd.left.left.left.left.left.left.left.left.left.left.left rfl) rfl ?_
            refine RunL.ok (OpOk.asT (OpOk.lss rfl rfl) (by omega)) rfl ?_
            refine RunL.ok (OpOk.move rfl) rfl ?_
            refine RunL.on rfl rfl ?_
            refine RunL.ok (OpOk.move rfl) rfl ?_
            refine RunL.on rfl rfl ?_
            refine RunL.ok (OpOk.asT (OpOk.lss rfl rfl) (by omega)) rfl ?_
            refine RunL.ok (OpOk.pickT rfl rfl) rfl ?_
            refine RunL.nil ?_
            refine Run.condT rfl ?_
            refine Run.skip ?_
            refine Run.seq ?_
            refine Run.block ?_
            refine Run.seq ?_
            refine Run.region ?_
            refine RunL.ok (OpOk.move rfl) rfl ?_
            refine RunL.ok (OpOk.move rfl) rfl ?_
            refine RunL.ok (OpOk.idxN rfl ti60 rfl rd.left.left.left.left.left.left.left.left.left.left.left rfl (by omega)) rfl ?_
            refine RunL.ok (OpOk.loadFlE (by assumption) rfl rfl ti60 rfl rd.left.left.left.left.left.left.left.left.left.left.left (fun _ => rfl) rfl (by omega)) rfl ?_
            refine RunL.alloc ti60 rfl (fun by1 => ?_)
            refine RunL.storeAll ti60 rfl rfl rfl (fun w hw => OneC.one (enc := encT60) ((1, on, os, ol)) w hw) rfl rfl ?_
            refine RunL.nil ?_
            refine Run.seq ?_
            refine Run.region ?_
            refine RunL.ok (OpOk.move rfl) rfl ?_
            refine RunL.ok (OpOk.fieldAddr fld60_1 rfl) rfl ?_
            refine RunL.ok (OpOk.load rfl rfl rfl (Blk.out Blk.pts _ _ (by first | rfl | assumption))) rfl ?_
            refine RunL.know (fun w s => (s.conv (frl (frl (frl rfl)))).ownsB0) (fun aly2 => ?_)
            refine RunL.mem (frc (frl (frl (frl (frl (frl (frl (frl rfl))))))) (frc (frl (frl (frl (frl (frl (frl (frl rfl))))))) rfl)) ?_
            refine RunL.call cal26 rfl (s26) rfl (fun vy3 Ay3 hy3 => ?_)
            obtain ⟨rfl, rfl⟩ := hy3
            refine RunL.nil ?_
            refine Run.seq ?_
            refine Run.region ?_
            refine RunL.ok (OpOk.assign rfl) rfl ?_
            refine RunL.nil ?_
            refine Run.seq ?_
            refine Run.seq ?_
            refine Run.region ?_
            refine RunL.ok (OpOk.fieldAddr fld60_0 rfl) rfl ?_
            refine RunL.ok (OpOk.load rfl rfl rfl (Blk.out Blk.pts.left.left _ _ (by first | rfl | assumption))) rfl ?_
            refine RunL.nil ?_
            refine Run.block ?_
            refine Run.seq ?_
            refine Run.region ?_
            refine RunL.ok (OpOk.asT (OpOk.eql rfl rfl) (by omega)) rfl ?_
            refine RunL.ok (OpOk.assign rfl) rfl ?_
            refine RunL.nil ?_
            refine Run.condT rfl ?_
            refine Run.seq ?_
            refine Run.region ?_
            refine RunL.ok (OpOk.move rfl) rfl ?_
            refine RunL.ok (OpOk.move rfl) rfl ?_
            refine RunL.ok (OpOk.convInt rfl rfl rfl (wrapU8n _)) rfl ?_
            refine RunL.litB (xs := [UInt8.ofNat i]) rfl ti5 rfl rfl rfl (by decide) rfl (fun vy4 rdy4 => ?_)
            refine RunL.know (fun w s => (s.conv rfl).ownRd0) (fun rdy5 => ?_)
            refine RunL.mem (frc (frl (frl (frl (frl (frl (frl rfl)))))) (frc (frl (frl (frl (frl (frl (frl rfl)))))) (frc (frl (frl (frl (frl (frl (frl rfl)))))) (frc (frl (frl (frl (frl (frl (frl rfl)))))) (frc (frl rfl) (frc (frl rfl) rfl)))))) ?_
            refine RunL.call cal27 rfl (s27 (Rd.right rdy5) (by assumption) (by omega) (by omega) (by omega) (by omega) (by assumption)) rfl (fun vy6 Ay6 hy6 => ?_)
            obtain ⟨y7, ⟨y8, ⟨y9, ⟨y10, ⟨y11, ⟨rfl, ⟨y12, rfl⟩⟩⟩⟩⟩⟩⟩ := hy6
            refine RunL.ok (OpOk.assign rfl) rfl ?_
            refine RunL.nil ?_
            refine Run.seq ?_
            refine Run.region ?_
            refine RunL.ok (OpOk.move rfl) rfl ?_
            refine RunL.ok (OpOk.asF (OpOk.eql rfl rfl) (by omega)) rfl ?_
            refine RunL.nil ?_
            refine Run.condF rfl ?_
            refine Run.skip ?_
            refine Run.inBlock ?_
            refine Run.seq ?_
            refine Run.seq ?_
            refine Run.region ?_
            refine RunL.ok (OpOk.move rfl) rfl ?_
            refine RunL.ok (OpOk.as (c := true) (OpOk.neq rfl rfl) (by rw [decide_eq_false (by omega)]; rfl)) rfl ?_
            refine RunL.nil ?_
            refine Run.condT rfl ?_
            refine Run.exit rfl ?_
            refine Run.region ?_
            refine RunL.ok (OpOk.move rfl) rfl ?_
            refine RunL.ok (OpOk.addN _ 1 rfl rfl rfl rfl (by omega)) rfl ?_
            refine RunL.ok (OpOk.assign rfl) rfl ?_
            refine RunL.nil ?_
            dsimp only at y12 ⊢
            rw [← y12] at ht ⊢
            refine Run.jump ((ih (i + 1, ds, _, (max on (-1), bs, y9), (jp, y7, y8, snap, has), av, y10) ⟨by dsimp only; omega, by dsimp only; omega, ht, hbl, hwm⟩ (by dsimp only; omega))) ⟨rfl, rfl, rfl, rfl, rfl, rfl, trivial⟩ (Grew.of (Eq.trans (frc (frl (frl (frl (frl (frl (frl (frl (frl (frl rfl))))))))) (frc (frl (frl (frl (frl (frl (frl (frl (frl (frl rfl))))))))) (frc rfl (frc rfl (frc rfl (frc rfl (frc rfl (frc rfl (frc (frl (frl (frl rfl))) (frc (frl (frl (frl rfl))) rfl)))))))))) (congrArg (· * _) (congrArg (· * _) (congrArg (· * _) (congrArg (· * _) (congrArg (· * _) (congrArg (· * _) (congrArg (· * _) (congrArg (· * _) (congrArg (· * _) (congrArg (· * _) (asg (asg (asg as1)))))))))))))) (Grew.refl _))
          · refine Run.seq ?_
            refine Run.seq ?_
            refine Run.region ?_
            refine RunL.ok (OpOk.move rfl) rfl ?_
            refine RunL.ok (OpOk.move rfl) rfl ?_
            refine RunL.ok (OpOk.lenR rfl rfl rd.left.left.left.left.left.left.left.left.left.left.left rfl) rfl ?_
            refine RunL.ok (OpOk.asT (OpOk.lss rfl rfl) (by omega)) rfl ?_
            refine RunL.ok (OpOk.move rfl) rfl ?_
            refine RunL.on rfl rfl ?_
            refine RunL.ok (OpOk.move rfl) rfl ?_
            refine RunL.on rfl rfl ?_
            refine RunL.ok (OpOk.asT (OpOk.lss rfl rfl) (by omega)) rfl ?_
            refine RunL.ok (OpOk.pickT rfl rfl) rfl ?_
            refine RunL.nil ?_
            refine Run.condT rfl ?_
            refine Run.skip ?_
            refine Run.seq ?_
            refine Run.block ?_
            refine Run.seq ?_
            refine Run.region ?_
            refine RunL.ok (OpOk.move rfl) rfl ?_
            refine RunL.ok (OpOk.move rfl) rfl ?_
            refine RunL.ok (OpOk.idxN rfl ti60 rfl rd.left.left.left.left.left.left.left.left.left.left.left rfl (by omega)) rfl ?_
            refine RunL.ok (OpOk.loadFlE (by assumption) rfl rfl ti60 rfl rd.left.left.left.left.left.left.left.left.left.left.left (fun _ => rfl) rfl (by omega)) rfl ?_
            refine RunL.alloc ti60 rfl (fun by1 => ?_)
            refine RunL.storeAll ti60 rfl rfl rfl (fun w hw => OneC.one (enc := encT60) ((1, on, os, ol)) w hw) rfl rfl ?_
            refine RunL.nil ?_
            refine Run.seq ?_
            refine Run.region ?_
            refine RunL.ok (OpOk.move rfl) rfl ?_
            refine RunL.ok (OpOk.fieldAddr fld60_1 rfl) rfl ?_
            refine RunL.ok (OpOk.load rfl rfl rfl (Blk.out Blk.pts _ _ (by first | rfl | assumption))) rfl ?_
            refine RunL.know (fun w s => (s.conv (frl (frl (frl rfl)))).ownsB0) (fun aly2 => ?_)
            refine RunL.mem (frc (frl (frl (frl (frl (frl (frl (frl rfl))))))) (frc (frl (frl (frl (frl (frl (frl (frl rfl))))))) rfl)) ?_
            refine RunL.call cal26 rfl (s26) rfl (fun vy3 Ay3 hy3 => ?_)
            obtain ⟨rfl, rfl⟩ := hy3
            refine RunL.nil ?_
            refine Run.seq ?_
            refine Run.region ?_
            refine RunL.ok (OpOk.assign rfl) rfl ?_
            refine RunL.nil ?_
            refine Run.seq ?_
            refine Run.seq ?_
            refine Run.region ?_
            refine RunL.ok (OpOk.fieldAddr fld60_0 rfl) rfl ?_
            refine RunL.ok (OpOk.load rfl rfl rfl (Blk.out Blk.pts.left.left _ _ (by first | rfl | assumption))) rfl ?_
            refine RunL.nil ?_
            refine Run.block ?_
            refine Run.seq ?_
            refine Run.region ?_
            refine RunL.ok (OpOk.asT (OpOk.eql rfl rfl) (by omega)) rfl ?_
            refine RunL.ok (OpOk.assign rfl) rfl ?_
            refine RunL.nil ?_
            refine Run.condT rfl ?_
            refine Run.seq ?_
            refine Run.region ?_
            refine RunL.ok (OpOk.move rfl) rfl ?_
            refine RunL.ok (OpOk.move rfl) rfl ?_
            refine RunL.ok (OpOk.convInt rfl rfl rfl (wrapU8n _)) rfl ?_
            refine RunL.litB (xs := [UInt8.ofNat i]) rfl ti5 rfl rfl rfl (by decide) rfl (fun vy4 rdy4 => ?_)
            refine RunL.know (fun w s => (s.conv rfl).ownRd0) (fun rdy5 => ?_)
            refine RunL.mem (frc (frl (frl (frl (frl (frl (frl rfl)))))) (frc (frl (frl (frl (frl (frl (frl rfl)))))) (frc (frl (frl (frl (frl (frl (frl rfl)))))) (frc (frl (frl (frl (frl (frl (frl rfl)))))) (frc (frl rfl) (frc (frl rfl) rfl)))))) ?_
            refine RunL.call cal27 rfl (s27 (Rd.right rdy5) (by assumption) (by omega) (by omega) (by omega) (by omega) (by assumption)) rfl (fun vy6 Ay6 hy6 => ?_)
            obtain ⟨y7, ⟨y8, ⟨y9, ⟨y10, ⟨y11, ⟨rfl, ⟨y12, rfl⟩⟩⟩⟩⟩⟩⟩ := hy6
            refine RunL.ok (OpOk.assign rfl) rfl ?_
            refine RunL.nil ?_
            refine Run.seq ?_
            refine Run.region ?_
            refine RunL.ok (OpOk.move rfl) rfl ?_
            refine RunL.ok (OpOk.asF (OpOk.eql rfl rfl) (by omega)) rfl ?_
            refine RunL.nil ?_
            refine Run.condF rfl ?_
            refine Run.skip ?_
            refine Run.inBlock ?_
            refine Run.seq ?_
            refine Run.seq ?_
            refine Run.region ?_
            refine RunL.ok (OpOk.move rfl) rfl ?_
            refine RunL.ok (OpOk.as (c := true) (OpOk.neq rfl rfl) (by rw [decide_eq_false (by omega)]; rfl)) rfl ?_
            refine RunL.nil ?_
            refine Run.condT rfl ?_
            refine Run.exit rfl ?_
            refine Run.region ?_
            refine RunL.ok (OpOk.move rfl) rfl ?_
            refine RunL.ok (OpOk.addN _ 1 rfl rfl rfl rfl (by omega)) rfl ?_
            refine RunL.ok (OpOk.assign rfl) rfl ?_
            refine RunL.nil ?_
            dsimp only at y12 ⊢
            rw [← y12] at ht ⊢
            refine Run.jump ((ih (i + 1, ds, _, (max on (-1), bs, y9), (jp, y7, y8, snap, has), av, y10) ⟨by dsimp only; omega, by dsimp only; omega, ht, hbl, hwm⟩ (by dsimp only; omega))) ⟨rfl, rfl, rfl, rfl, rfl, rfl, trivial⟩ (Grew.of (Eq.trans (frc (frl (frl (frl (frl (frl (frl (frl (frl (frl rfl))))))))) (frc (frl (frl (frl (frl (frl (frl (frl (frl (frl rfl))))))))) (frc rfl (frc rfl (frc rfl (frc rfl (frc rfl (frc rfl (frc (frl (frl (frl rfl))) (frc (frl (frl (frl rfl))) rfl)))))))))) (congrArg (· * _) (congrArg (· * _) (congrArg (· * _) (congrArg (· * _) (congrArg (· * _) (congrArg (· * _) (congrArg (· * _) (congrArg (· * _) (congrArg (· * _) (congrArg (· * _) (asg (asg (asg as1)))))))))))))) (Grew.refl _))
          · obtain ⟨q, hq, hC, htq, hlq, hlb⟩ := ht.torn (k := 2) (.inr rfl) hf hj
            obtain rfl : q = 0 := by simp at hq; omega
            have drawStop : True := trivial
            refine Run.seq ?_
            refine Run.seq ?_
            refine Run.region ?_
            refine RunL.ok (OpOk.move rfl) rfl ?_
            refine RunL.ok (OpOk.move rfl) rfl ?_
            refine RunL.ok (OpOk.lenR rfl rfl rd.left.left.left.left.left.left.left.left.left.left.left rfl) rfl ?_
            refine RunL.ok (OpOk.asT (OpOk.lss rfl rfl) (by omega)) rfl ?_
            refine RunL.ok (OpOk.move rfl) rfl ?_
            refine RunL.on rfl rfl ?_
            refine RunL.ok (OpOk.move rfl) rfl ?_
            refine RunL.on rfl rfl ?_
            refine RunL.ok (OpOk.asT (OpOk.lss rfl rfl) (by omega)) rfl ?_
            refine RunL.ok (OpOk.pickT rfl rfl) rfl ?_
            refine RunL.nil ?_
            refine Run.condT rfl ?_
            refine Run.skip ?_
            refine Run.seq ?_
            refine Run.block ?_
            refine Run.seq ?_
            refine Run.region ?_
            refine RunL.ok (OpOk.move rfl) rfl ?_
            refine RunL.ok (OpOk.move rfl) rfl ?_
            refine RunL.ok (OpOk.idxN rfl ti60 rfl rd.left.left.left.left.left.left.left.left.left.left.left rfl (by omega)) rfl ?_
            refine RunL.ok (OpOk.loadFlE (by assumption) rfl rfl ti60 rfl rd.left.left.left.left.left.left.left.left.left.left.left (fun _ => rfl) rfl (by omega)) rfl ?_
            refine RunL.alloc ti60 rfl (fun by1 => ?_)
            refine RunL.storeAll ti60 rfl rfl rfl (fun w hw => OneC.one (enc := encT60) ((1, on, os, ol)) w hw) rfl rfl ?_
            refine RunL.nil ?_
            refine Run.seq ?_
            refine Run.region ?_
            refine RunL.ok (OpOk.move rfl) rfl ?_
            refine RunL.ok (OpOk.fieldAddr fld60_1 rfl) rfl ?_
            refine RunL.ok (OpOk.load rfl rfl rfl (Blk.out Blk.pts _ _ (by first | rfl | assumption))) rfl ?_
            refine RunL.know (fun w s => (s.conv (frl (frl (frl rfl)))).ownsB0) (fun aly2 => ?_)
            refine RunL.mem (frc (frl (frl (frl (frl (frl (frl (frl rfl))))))) (frc (frl (frl (frl (frl (frl (frl (frl rfl))))))) rfl)) ?_
            refine RunL.call cal26 rfl (s26) rfl (fun vy3 Ay3 hy3 => ?_)
            obtain ⟨rfl, rfl⟩ := hy3
            refine RunL.nil ?_
            refine Run.seq ?_
            refine Run.region ?_
            refine RunL.ok (OpOk.assign rfl) rfl ?_
            refine RunL.nil ?_
            refine Run.seq ?_
            refine Run.seq ?_
            refine Run.region ?_
            refine RunL.ok (OpOk.fieldAddr fld60_0 rfl) rfl ?_
            refine RunL.ok (OpOk.load rfl rfl rfl (Blk.out Blk.pts.left.left _ _ (by first | rfl | assumption))) rfl ?_
            refine RunL.nil ?_
            refine Run.block ?_
            refine Run.seq ?_
            refine Run.region ?_
            refine RunL.ok (OpOk.asT (OpOk.eql rfl rfl) (by omega)) rfl ?_
            refine RunL.ok (OpOk.assign rfl) rfl ?_
            refine RunL.nil ?_
            refine Run.condT rfl ?_
            refine Run.seq ?_
            refine Run.region ?_
            refine RunL.ok (OpOk.move rfl) rfl ?_
            refine RunL.ok (OpOk.move rfl) rfl ?_
            refine RunL.ok (OpOk.convInt rfl rfl rfl (wrapU8n _)) rfl ?_
            refine RunL.litB (xs := [UInt8.ofNat i]) rfl ti5 rfl rfl rfl (by decide) rfl (fun vy4 rdy4 => ?_)
            refine RunL.know (fun w s => (s.conv rfl).ownRd0) (fun rdy5 => ?_)
            refine RunL.mem (frc (frl (frl (frl (frl (frl (frl rfl)))))) (frc (frl (frl (frl (frl (frl (frl rfl)))))) (frc (frl (frl (frl (frl (frl (frl rfl)))))) (frc (frl (frl (frl (frl (frl (frl rfl)))))) (frc (frl rfl) (frc (frl rfl) rfl)))))) ?_
            refine RunL.call cal27 rfl (s27 (Rd.right rdy5) (by assumption) (by omega) (by omega) (by omega) (by omega) (by assumption)) rfl (fun vy6 Ay6 hy6 => ?_)
            obtain ⟨y7, ⟨y8, ⟨y9, ⟨y10, ⟨y11, ⟨rfl, ⟨y12, rfl⟩⟩⟩⟩⟩⟩⟩ := hy6
            refine RunL.ok (OpOk.assign rfl) rfl ?_
            refine RunL.nil ?_
            refine Run.seq ?_
            refine Run.region ?_
            refine RunL.ok (OpOk.move rfl) rfl ?_
            refine RunL.ok (OpOk.asF (OpOk.eql rfl rfl) (by omega)) rfl ?_
            refine RunL.nil ?_
            refine Run.condF rfl ?_
            refine Run.skip ?_
            refine Run.inBlock ?_
            refine Run.seq ?_
            refine Run.seq ?_
            refine Run.region ?_
            refine RunL.ok (OpOk.move rfl) rfl ?_
            refine RunL.ok (OpOk.as (c := false) (OpOk.neq rfl rfl) (by rw [decide_eq_true (by omega)]; rfl)) rfl ?_
            refine RunL.nil ?_
            refine Run.condF rfl ?_
            refine Run.skip ?_
            refine Run.seq ?_
            refine Run.region ?_
            refine RunL.ok (OpOk.move rfl) rfl ?_
            refine RunL.know (fun w s => (s.conv rfl).ownsB0) (fun aly13 => ?_)
            refine RunL.mem (frc (frl (frl (frl (frl rfl)))) (frc (frl (frl (frl (frl rfl)))) rfl)) ?_
            refine RunL.call cal26 rfl (s26) rfl (fun vy14 Ay14 hy14 => ?_)
            obtain ⟨rfl, rfl⟩ := hy14
            refine RunL.nil ?_
            refine Run.seq ?_
            refine Run.region ?_
            refine RunL.ok (OpOk.move rfl) rfl ?_
            refine RunL.call cal25 rfl (s25b (by omega)) rfl (fun vy15 Ay15 hy15 => ?_)
            obtain ⟨y16, ⟨y17, ⟨y18, ⟨y19, ⟨y20, ⟨y21, ⟨rfl, ⟨y22, rfl⟩⟩⟩⟩⟩⟩⟩⟩ := hy15
            refine RunL.ok (OpOk.move rfl) rfl ?_
            refine RunL.ok (OpOk.ext20 rfl) rfl ?_
            refine RunL.ok (OpOk.ext21 rfl) rfl ?_
            refine RunL.ok (OpOk.assign rfl) rfl ?_
            refine RunL.ok (OpOk.assign rfl) rfl ?_
            refine RunL.nil ?_
            refine Run.seq ?_
            refine Run.seq ?_
            clear drawStop
            rw [hC] at y22 ⊢
            generalize List.take (says (bs ++ (rowsB 2 [[UInt8.ofNat i]]).take (max on (-1)).toNat)).2 (bs ++ (rowsB 2 [[UInt8.ofNat i]]).take (max on (-1)).toNat) = cut at htq hlq ⊢
            rw [List.take_zero, show takesC 2 (snap, has, recs.map Prod.snd) [] = (snap, has, recs.map Prod.snd) from rfl] at y22 htq ⊢
            dsimp only at y22 htq ⊢
            rw [← y22] at htq
            have hnl : y20.length = recs.length := by
              have := congrArg List.length y22
              rwa [List.length_map, List.length_map] at this
            have y22 : y20.map Prod.snd = recs.map Prod.snd ++ [] := by rw [List.append_nil]; exact y22
            have hcq := contC_ok cut
            rw [htq.cont] at hcq
            obtain ⟨_, _, hrb2⟩ := hcq
            dsimp only at hrb2
            have hb : ∀ r ∈ y20, r.2.length ≤ 65535 := recs_ok rfl hrb2
            refine Run.know (fun w s => (s.conv (frl (frl (frl (frl (frl (frl (frl (frl (frl (frl (frl (frl (frl (frl (frl rfl)))))))))))))))).ownRd0) (fun rdz1 => ?_)
            refine Run.know (fun w s => (s.conv (frl (frl (frl (frl (frl (frl (frl (frl (frl rfl)))))))))).ownRd0) (fun rdz2 => ?_)
            refine Run.know (fun w s => (s.conv (frl (frl (frl (frl (frl (frl (frl (frl rfl))))))))).ownRd0) (fun rdz3 => ?_)
            refine Run.know (fun w s => (s.conv (frl (frl (frl (frl rfl))))).ownRd0) (fun rdz4 => ?_)
            refine Run.know (fun w s => (s.conv (frl (frl rfl))).ownRd0) (fun rdz5 => ?_)
            refine Run.know (fun w s => (s.conv (frl rfl)).ownRd0) (fun rdz6 => ?_)
            (apply Run.drawD [] (by rfl) (Eq.trans rfl (asg (asg (asg rfl)))); case hchk => kernel_rfl)
            refine Sd.quiet 0 _ _ rfl rfl rfl rfl rfl (QOp.ok (fun X => OpOk.move rfl)) ?_
            refine Sd.quiet 1 _ _ rfl rfl rfl rfl rfl (QOp.ok (fun X => OpOk.eqlPN rfl rfl)) ?_
            refine Sd.quiet 2 _ _ rfl rfl rfl rfl rfl (QOp.ok (fun X => OpOk.move rfl)) ?_
            refine Sd.quiet 3 _ _ rfl rfl rfl rfl rfl (QOp.ok (fun X => OpOk.move rfl)) ?_
            refine Sd.quiet 4 _ _ rfl rfl rfl rfl rfl (QOp.ok (fun X => OpOk.as (c := false) (OpOk.neq rfl rfl) (by rw [decide_eq_true (by omega)]; rfl))) ?_
            refine Sd.quiet 5 _ _ rfl rfl rfl rfl rfl (QOp.ok (fun X => OpOk.pickF rfl rfl)) ?_
            refine Sd.quiet 6 _ _ rfl rfl rfl rfl rfl (QOp.ok (fun X => OpOk.move rfl)) ?_
            refine Sd.quiet 7 _ _ rfl rfl rfl rfl rfl (QOp.ok (fun X => OpOk.move rfl)) ?_
            refine Sd.quiet 9 _ _ rfl rfl rfl rfl rfl (QOp.ok (fun X => OpOk.load rfl rfl rfl (Blk.out Blk.pts.left.left.left.left.left.left.left.left.left.left.left.left.left.left _ _ (by first | rfl | assumption)))) ?_
            refine Sd.quiet 10 _ _ rfl rfl rfl rfl rfl (QOp.ok (fun X => OpOk.lenR rfl rfl (Rd.right rdz1).left.left.left.left.left.left.left.left.left.left.left.left.left rfl)) ?_
            (refine Sd.exec 8 rfl rfl rfl rfl rfl ?hrest (by rfl) (fun Xz7 Kz7 hKz7 => ?_); case hrest => kernel_rfl)
            refine RunL.mem (fl2 (sep_emp _) (flS (flS (flS rfl)))) ?_
            refine RunL.know (fun w s => (s.conv rfl).ownsB0) (fun alz8 => ?_)
            refine RunL.call cal29 rfl (s29) rfl (fun vz9 Az9 hz9 => ?_)
            obtain ⟨rfl, rfl⟩ := hz9
            refine Sd.ret hKz7 (Eq.trans rfl (gp2 (asg (asg (asg rfl))) (sep_emp _).symm)) ⟨emp, (sep_emp _).symm⟩ ?_
            refine Sd.quiet 11 _ _ rfl rfl rfl rfl rfl (QOp.ok (fun X => OpOk.asF (OpOk.lss rfl rfl) (by omega))) ?_
            refine Sd.quiet 12 _ _ rfl rfl rfl rfl rfl (QOp.ok (fun X => OpOk.pickF rfl rfl)) ?_
            refine Sd.quiet 13 _ _ rfl rfl rfl rfl rfl (QOp.ok (fun X => OpOk.move rfl)) ?_
            refine Sd.quiet 14 _ _ rfl rfl rfl rfl rfl (QOp.ok (fun X => OpOk.move rfl)) ?_
            refine Sd.quiet 16 _ _ rfl rfl rfl rfl rfl (QOp.ok (fun X => OpOk.load rfl rfl rfl (Blk.out Blk.pts.left.left.left.left.left.left.left.left.left.left.left.left.left.left _ _ (by first | rfl | assumption)))) ?_
            refine Sd.quiet 17 _ _ rfl rfl rfl rfl rfl (QOp.ok (fun X => OpOk.lenR rfl rfl (Rd.right rdz1).left.left.left.left.left.left.left.left.left.left.left.left.left rfl)) ?_
            refine Sd.quiet 18 _ _ rfl rfl rfl rfl rfl (QOp.ok (fun X => OpOk.fieldAddr fld60_2 rfl)) ?_
            refine Sd.quiet 19 _ _ rfl rfl rfl rfl rfl (QOp.ok (fun X => OpOk.load rfl rfl rfl (Blk.out Blk.pts.left.left.left.left.left.left.left.left.left.left.left _ _ (by first | rfl | assumption)))) ?_
            refine Sd.quiet 20 _ _ rfl rfl rfl rfl rfl (QOp.ok (fun X => OpOk.lenR rfl rfl rdo.left.left.left.left.left.left.left.left.left.left.left.left.left.left.left.left.left rfl)) ?_
            refine Sd.quiet 21 _ _ rfl rfl rfl rfl rfl (QOp.ok (fun X => OpOk.addN _ _ rfl rfl rfl rfl (by omega))) ?_
            (refine Sd.exec 15 rfl rfl rfl rfl rfl ?hrest (by rfl) (fun Xz10 Kz10 hKz10 => ?_); case hrest => kernel_rfl)
            refine RunL.mem (fl2 (sep_emp _) (flS (flS (flS rfl)))) ?_
            refine RunL.call cal29 rfl (s29) rfl (fun vz11 Az11 hz11 => ?_)
            obtain ⟨rfl, rfl⟩ := hz11
            refine Sd.ret hKz10 (Eq.trans rfl (gp2 (asg (asg (asg rfl))) (sep_emp _).symm)) ⟨emp, (sep_emp _).symm⟩ ?_
            refine Sd.quiet 22 _ _ rfl rfl rfl rfl rfl (QOp.ok (fun X => OpOk.asF (OpOk.gtr rfl rfl) (by omega))) ?_
            refine Sd.quiet 23 _ _ rfl rfl rfl rfl rfl (QOp.ok (fun X => OpOk.pickF rfl rfl)) ?_
            refine Sd.quiet 24 _ _ rfl rfl rfl rfl rfl (QOp.ok (fun X => OpOk.move rfl)) ?_
            refine Sd.quiet 25 _ _ rfl rfl rfl rfl rfl (QOp.ok (fun X => OpOk.fieldAddr fld60_0 rfl)) ?_
            refine Sd.quiet 26 _ _ rfl rfl rfl rfl rfl (QOp.ok (fun X => OpOk.load rfl rfl rfl (Blk.out Blk.pts.left.left.left.left.left.left.left.left.left.left.left _ _ (by first | rfl | assumption)))) ?_
            refine Sd.quiet 27 _ _ rfl rfl rfl rfl rfl (QOp.ok (fun X => OpOk.asT (OpOk.eql rfl rfl) (by omega))) ?_
            refine Sd.quiet 28 _ _ rfl rfl rfl rfl rfl (QOp.ok (fun X => OpOk.move rfl)) ?_
            refine Sd.quiet 29 _ _ rfl rfl rfl rfl rfl (QOp.ok (fun X => OpOk.move rfl)) ?_
            refine Sd.quiet 31 _ _ rfl rfl rfl rfl rfl (QOp.ok (fun X => OpOk.load rfl rfl rfl (Blk.out Blk.pts.left.left.left.left.left.left.left.left.left.left.left.left.left.left _ _ (by first | rfl | assumption)))) ?_
            refine Sd.quiet 32 _ _ rfl rfl rfl rfl rfl (QOp.ok (fun X => OpOk.lenR rfl rfl (Rd.right rdz1).left.left.left.left.left.left.left.left.left.left.left.left.left rfl)) ?_
            (refine Sd.exec 30 rfl rfl rfl rfl rfl ?hrest (by rfl) (fun Xz12 Kz12 hKz12 => ?_); case hrest => kernel_rfl)
            refine RunL.mem (fl2 (sep_emp _) (flS (flS (flS rfl)))) ?_
            refine RunL.call cal29 rfl (s29) rfl (fun vz13 Az13 hz13 => ?_)
            obtain ⟨rfl, rfl⟩ := hz13
            refine Sd.ret hKz12 (Eq.trans rfl (gp2 (sep_emp _).symm (asg (asg (asg rfl))))) ⟨_, (emp_sep _).symm⟩ ?_
            refine Sd.quiet 33 _ _ rfl rfl rfl rfl rfl (QOp.ok (fun X => OpOk.as (c := false) (OpOk.neq rfl rfl) (by rw [decide_eq_true (by omega)]; rfl))) ?_
            refine Sd.quiet 34 _ _ rfl rfl rfl rfl rfl (QOp.ok (fun X => OpOk.pickT rfl rfl)) ?_
            refine Sd.quiet 35 _ _ rfl rfl rfl rfl rfl (QOp.ok (fun X => OpOk.pickF rfl rfl)) ?_
            (apply Sd.tail; case hall => kernel_rfl)
            refine RunL.mem (fl2 (flS (flS (flS rfl))) (sep_emp _)) ?_
            refine RunL.nil ?_
            refine Run.condF rfl ?_
            refine Run.skip ?_
            refine Run.seq ?_
            refine Run.region ?_
            refine RunL.alloc ti3 rfl (fun bz14 => ?_)
            refine RunL.store ti3 rfl rfl rfl rfl (by exact Nat.le_of_ble_eq_true rfl) (.inl rfl) ?_
            refine RunL.nil ?_
            refine Run.seq ?_
            refine Run.region ?_
            refine RunL.alloc ti57 rfl (fun bz15 => ?_)
            refine RunL.nil ?_
            refine Run.seq ?_
            refine Run.seq ?_
            refine Run.region ?_
            refine RunL.ok (OpOk.move rfl) rfl ?_
            refine RunL.mem (frc (frl (frl rfl)) (frc (frl (frl rfl)) (frc (frl (frl rfl)) (frc (frl (frl rfl)) rfl)))) ?_
            refine RunL.call cal30 rfl (s30 (by omega)) rfl (fun vz16 Az16 hz16 => ?_)
            obtain ⟨z17, ⟨z18, ⟨rfl, rfl⟩⟩⟩ := hz16
            refine RunL.nil ?_
            refine Run.block ?_
            refine Run.ent (Ent.ownNil' _ 9 1 (Fl encS []) rfl) ?_
            refine Run.rangeF (Z := Asn × Int × Value × List (List UInt8)) (iterJ (recs := y20) (b := z17) (v := z18) (by omega) (fun r hr => Nat.le_trans (hb r hr) (by decide))) rfl rfl (fun z => old w0 * z.1 * pts bx1 (.cells #[.bool false] 4 (0, 0)) * pts bx16 (.cells #[av] 57 (0, 0)) * own 9 1 av (recs.map Prod.snd).length (Fl encS (recs.map Prod.snd)) * pts by1 (.cells (Value.agg (encT60 (1, on, os, ol)).toArray).cells 60 (0, 0)) * pts x6 (.cells #[.int .i64 (1048576), .int .i64 ((max (-1) (-1))), y19] 145 (0, 0)) * own 5 1 y19 (cut).length (B (cut)) * pts y16 (.cells #[y17, .bool has, y18, .pointer (some ⟨x6, 0, none⟩), .bool false] 149 (0, 0)) * own 5 1 y17 snap.length (B snap) * own 63 1 y18 y20.length (Fl encV y20) * pts bz14 (.cells #[.int .i64 z.2.1] 3 (0, 0)) * pts bz15 (.cells #[z.2.2.1] 57 (0, 0)) * own 9 1 z.2.2.1 z.2.2.2.length (Fl encS z.2.2.2)) (fun i z => z.2.1 = (i : Int) ∧ z.2.2.2 = (y20.map Prod.snd).take i) (fun _ _ => False) (J * own 5 1 vy4 1 (B [UInt8.ofNat i]) * y11 * pts jp (.cells #[y7, .bool has, y8, .pointer (some ⟨x6, 0, none⟩), .bool true] 149 (0, 0)) * own 5 1 y7 (snap).length (B (snap)) * own 63 1 y8 (y10).length (Fl encV (y10)) * ownsB 5 (y10) * y21, 0, .slice none 0 0, []) ⟨rfl, by simp⟩ ?_ (fun RR l rc j z uu J3 hj hz hgo _ _ => ?_) (fun z J3 D hz => ?_) (fun c z J3 D hz => hz.elim)
            · show _ * pts bz14 (.cells #[.int .i64 0] 3 (0, 0)) * pts bz15 (.cells #[.slice none 0 0] 57 (0, 0)) * _ * _ * _ * _ * _ * _ * _ = _
              dsimp only
              simp only [← sep_assoc]
              exact (frc (frl (frl (frl (frl (frl (frl (frl (frl (frl (frl (frl (frl (frl (frl (frl (frl (frl (frl (frl rfl))))))))))))))))))) (frc (frl (frl (frl rfl))) (frc (frl rfl) (frc (frl rfl) (frc rfl (frc (frl (frl (frl rfl))) (frc (frl (frl (frl rfl))) (frc rfl (frc rfl (frc rfl (frc rfl (frc rfl (frc (frl (frl (frl (frl (frl (frl (frl rfl))))))) (frc (frl (frl (frl (frl (frl (frl (frl rfl))))))) (frc (frl (frl (frl (frl (frl (frl (frl rfl))))))) (frc (frl (frl (frl (frl (frl (frl (frl rfl))))))) rfl))))))))))))))))
            · obtain ⟨J2, nk, nv, ys⟩ := z
              obtain ⟨hz1, hz2⟩ : nk = (j : Int) ∧ ys = (y20.map Prod.snd).take j := hz
              subst hz1
              dsimp only at hgo ⊢
              have hyl : ys.length ≤ 4194304 := by rw [hz2, List.length_take, List.length_map]; omega
              have hbi := hb _ (getD_mem hj)
              have hyn : ys ++ [(y20.getD j default).2] = (y20.map Prod.snd).take (j + 1) := by rw [hz2, take_next (by simpa using hj), snd_get hj]
              rcases Nat.lt_or_ge j recs.length with hjr | hjr
              · have hbd : (y20.getD j default).2 = (recs.map Prod.snd).getD j default := by
                  rw [← snd_get hj, y22, List.getD_eq_getElem?_getD, List.getElem?_append_left (by rw [List.length_map]; omega), ← List.getD_eq_getElem?_getD]
                refine Run.region ?_
                refine RunL.ok (OpOk.assign rfl) rfl ?_
                refine RunL.nil ?_
                refine Run.beginRound ?_
                refine Run.block ?_
                refine Run.seq ?_
                refine Run.seq ?_
                refine Run.know (fun w s => (s.conv (frl (frl (frl rfl)))).ownRd0) (fun rdt1 => ?_)
                refine Run.know (fun w s => (s.conv (frl (frl rfl))).ownRd0) (fun rdt2 => ?_)
                (apply Run.drawD [] (by rfl) (sep_emp _).symm; case hchk => kernel_rfl)
                refine Sd.quiet 0 _ _ rfl rfl rfl rfl rfl (QOp.ok (fun X => OpOk.load rfl rfl rfl (Blk.out Blk.pts.left.left.left.left.left.left.left _ _ (by first | rfl | assumption)))) ?_
                refine Sd.quiet 1 _ _ rfl rfl rfl rfl rfl (QOp.ok (fun X => OpOk.load rfl rfl rfl (Blk.out Blk.pts.left.left.left.left.left.left.left.left.left.left.left.left.left.left.left _ _ (by first | rfl | assumption)))) ?_
                refine Sd.quiet 2 _ _ rfl rfl rfl rfl rfl (QOp.ok (fun X => OpOk.lenR rfl rfl (Rd.right rdz1).left.left.left.left.left.left.left.left.left.left.left.left.left.left rfl)) ?_
                refine Sd.quiet 3 _ _ rfl rfl rfl rfl rfl (QOp.ok (fun X => OpOk.asT (OpOk.lss rfl rfl) (by omega))) ?_
                refine Sd.quiet 4 _ _ rfl rfl rfl rfl rfl (QOp.ok (fun X => OpOk.move rfl)) ?_
                refine Sd.quiet 5 _ _ rfl rfl rfl rfl rfl (QOp.ok (fun X => OpOk.move rfl)) ?_
                refine Sd.quiet 6 _ _ rfl rfl rfl rfl rfl (QOp.ok (fun X => OpOk.strOf rfl rfl rfl rfl (Rd.right rdt2).left.left.left.left)) ?_
                refine Sd.quiet 7 _ _ rfl rfl rfl rfl rfl (QOp.ok (fun X => OpOk.load rfl rfl rfl (Blk.out Blk.pts.left.left.left.left.left.left.left.left.left.left.left.left.left.left.left _ _ (by first | rfl | assumption)))) ?_
                refine Sd.quiet 8 _ _ rfl rfl rfl rfl rfl (QOp.ok (fun X => OpOk.load rfl rfl rfl (Blk.out Blk.pts.left.left.left.left.left.left.left _ _ (by first | rfl | assumption)))) ?_
                refine Sd.quiet 9 _ _ rfl rfl rfl rfl rfl (QOp.ok (fun X => OpOk.idx1N rfl ti9 rfl (Rd.right rdz1).left.left.left.left.left.left.left.left.left.left.left.left.left.left rfl (by omega))) ?_
                refine Sd.quiet 10 _ _ rfl rfl rfl rfl rfl (QOp.ok (fun X => OpOk.loadStr rfl rfl rfl (Rd.right rdz1).left.left.left.left.left.left.left.left.left.left.left.left.left.left (by omega))) ?_
                refine Sd.quiet 11 _ _ rfl rfl rfl rfl rfl (QOp.ok (fun X => OpOk.as (c := false) (OpOk.neqSS rfl rfl) (by rw [decide_eq_true (by omega)]; rfl))) ?_
                refine Sd.quiet 12 _ _ rfl rfl rfl rfl rfl (QOp.ok (fun X => OpOk.pickT rfl rfl)) ?_
                refine Sd.quiet 13 _ _ rfl rfl rfl rfl rfl (QOp.ok (fun X => OpOk.move rfl)) ?_
                refine Sd.quiet 14 _ _ rfl rfl rfl rfl rfl (QOp.ok (fun X => OpOk.load rfl rfl rfl (Blk.out Blk.pts.left.left.left.left.left.left.left _ _ (by first | rfl | assumption)))) ?_
                refine Sd.quiet 15 _ _ rfl rfl rfl rfl rfl (QOp.ok (fun X => OpOk.load rfl rfl rfl (Blk.out Blk.pts.left.left.left.left.left.left.left.left.left.left.left.left.left.left.left _ _ (by first | rfl | assumption)))) ?_
                refine Sd.quiet 16 _ _ rfl rfl rfl rfl rfl (QOp.ok (fun X => OpOk.lenR rfl rfl (Rd.right rdz1).left.left.left.left.left.left.left.left.left.left.left.left.left.left rfl)) ?_
                refine Sd.quiet 17 _ _ rfl rfl rfl rfl rfl (QOp.ok (fun X => OpOk.asF (OpOk.geq rfl rfl) (by omega))) ?_
                refine Sd.quiet 18 _ _ rfl rfl rfl rfl rfl (QOp.ok (fun X => OpOk.move rfl)) ?_
                refine Sd.skip 19 _ rfl rfl rfl rfl rfl ?_
                refine Sd.skip 20 _ rfl rfl rfl rfl rfl ?_
                refine Sd.skip 21 _ rfl rfl rfl rfl rfl ?_
                refine Sd.skip 22 _ rfl rfl rfl rfl rfl ?_
                refine Sd.skip 23 _ rfl rfl rfl rfl rfl ?_
                refine Sd.skip 24 _ rfl rfl rfl rfl rfl ?_
                refine Sd.skip 25 _ rfl rfl rfl rfl rfl ?_
                refine Sd.skip 26 _ rfl rfl rfl rfl rfl ?_
                refine Sd.skip 27 _ rfl rfl rfl rfl rfl ?_
                refine Sd.skip 28 _ rfl rfl rfl rfl rfl ?_
                refine Sd.skip 29 _ rfl rfl rfl rfl rfl ?_
                refine Sd.skip 30 _ rfl rfl rfl rfl rfl ?_
                refine Sd.quiet 31 _ _ rfl rfl rfl rfl rfl (QOp.ok (fun X => OpOk.pickF rfl rfl)) ?_
                refine Sd.quiet 32 _ _ rfl rfl rfl rfl rfl (QOp.ok (fun X => OpOk.pickF rfl rfl)) ?_
                (apply Sd.tail; case hall => kernel_rfl)
                refine RunL.mem (fl2 (sep_emp _) (sep_emp _)) ?_
                refine RunL.nil ?_
                refine Run.condF rfl ?_
                refine Run.skip ?_
                refine Run.seq ?_
                refine Run.region ?_
                refine RunL.ok (OpOk.load rfl rfl rfl (Blk.out Blk.pts.left.left.left.left _ _ (by first | rfl | assumption))) rfl ?_
                refine RunL.ok (OpOk.move rfl) rfl ?_
                refine RunL.ok (OpOk.strOf rfl rfl rfl rfl (Rd.right rdt2).left.left) rfl ?_
                refine RunL.litS (ss := [(y20.getD j default).snd]) rfl ti9 rfl rfl rfl (by decide) rfl (fun vt3 rdt3 => ?_)
                refine RunL.know (fun w s => (s.conv rfl).ownRd0) (fun rdt5 => ?_)
                refine RunL.appendF rfl ti9 rfl rfl rfl (frl (frl (frl (frl rfl)))) (Rd.right rdt5) rfl (by decide) (by omega) (by simp only [maxLen]; omega) rfl (fun vt4 rdt4 => ?_)
                refine RunL.know (fun w s => (s.conv rfl).ownRd0) (fun rdt6 => ?_)
                refine RunL.store ti57 rfl rfl (Rd.one rdt6) (frl (frl (frl (frl (frl rfl))))) (by exact Nat.le_of_ble_eq_true rfl) (.inl rfl) ?_
                refine RunL.nil ?_
                refine Run.region ?_
                refine RunL.ok (OpOk.load rfl rfl rfl (Blk.out Blk.pts.left.left.left.left.left.left _ _ (by first | rfl | assumption))) rfl ?_
                refine RunL.ok (OpOk.addN _ 1 rfl rfl rfl rfl (by omega)) rfl ?_
                refine RunL.store ti3 rfl rfl rfl (frl (frl (frl (frl (frl (frl rfl)))))) (by exact Nat.le_of_ble_eq_true rfl) (.inl rfl) ?_
                refine RunL.nil ?_
                refine Run.inBlock ?_
                rw [show ys.length + 1 = (ys ++ [(y20.getD j default).2]).length by simp]
                refine Run.jump ((hgo (_, ((j + 1 : Nat) : Int), vt4, ys ++ [(y20.getD j default).2]) ⟨rfl, hyn⟩ [])) trivial (Grew.of (Eq.trans (frc (frl (frl (frl (frl rfl)))) (frc (frl (frl (frl (frl rfl)))) (frc (frl (frl rfl)) (frc (frl rfl) (frc rfl (frc (frl (frl rfl)) (frc (frl (frl rfl)) (frc (frl (frl rfl)) (frc (frl (frl rfl)) (frc (frl (frl rfl)) (frc (frl (frl rfl)) (frc (frl (frl rfl)) (frc (frl (frl rfl)) (frc (frl (frl rfl)) rfl)))))))))))))) (congrArg (· * _) (congrArg (· * _) (congrArg (· * _) (congrArg (· * _) (congrArg (· * _) (congrArg (· * _) (congrArg (· * _) (congrArg (· * _) (congrArg (· * _) (congrArg (· * _) (congrArg (· * _) (congrArg (· * _) (congrArg (· * _) (congrArg (· * _) (asg (asg as1))))))))))))))))) (Grew.refl _))
              · exact absurd hjr (by omega)
            · obtain ⟨J2, nk, nv, ys⟩ := z
              obtain ⟨hz1, hz2⟩ : nk = (y20.length : Int) ∧ ys = (y20.map Prod.snd).take y20.length := hz
              subst hz1
              dsimp only
              have hys2 : ys = y20.map Prod.snd := by rw [hz2]; exact List.take_of_length_le (by simp)
              subst hys2
              refine Run.inBlock ?_
              refine Run.region ?_
              refine RunL.ok (OpOk.load rfl rfl rfl (Blk.out Blk.pts.left.left.left.left _ _ (by first | rfl | assumption))) rfl ?_
              refine RunL.know (fun w s => (s.conv (frl (frl (frl rfl)))).ownRd0) (fun rdt1 => ?_)
              refine RunL.store ti57 rfl rfl (Rd.one rdt1) (frl (frl (frl (frl (frl (frl (frl (frl (frl (frl (frl (frl (frl rfl))))))))))))) (by exact Nat.le_of_ble_eq_true rfl) (.inl rfl) ?_
              refine RunL.nil ?_
              refine Run.inBlock ?_
              refine Run.region ?_
              refine RunL.ok (OpOk.move rfl) rfl ?_
              refine RunL.ok (OpOk.addN _ 1 rfl rfl rfl rfl (by omega)) rfl ?_
              refine RunL.ok (OpOk.assign rfl) rfl ?_
              refine RunL.nil ?_
              refine Run.jump ((ih (i + 1, D :: ds, _, (max (-1) (-1), cut, y19), (y16, y17, y18, snap, has), nv, y20) ⟨by dsimp only; omega, by dsimp only; omega, htq, by dsimp only; omega, (by decide : max (-1 : Int) (-1) ≤ 9223372036854775807)⟩ (by dsimp only; omega))) ⟨rfl, rfl, rfl, rfl, rfl, rfl, trivial⟩ (Grew.of (Eq.trans (frc (frl rfl) (frc (frl (frl (frl rfl))) (frc (frl (frl rfl)) (frc (frl (frl (frl (frl rfl)))) (frc (frl (frl (frl (frl rfl)))) (frc (frl (frl (frl (frl rfl)))) (frc (frl (frl (frl (frl rfl)))) (frc (frl (frl (frl (frl rfl)))) (frc rfl (frc (frl (frl (frl (frl (frl rfl))))) rfl)))))))))) (congrArg (· * _) (congrArg (· * _) (congrArg (· * _) (congrArg (· * _) (congrArg (· * _) (congrArg (· * _) (congrArg (· * _) (congrArg (· * _) (congrArg (· * _) (congrArg (· * _) (asg (asg (asg (asg (asg as1)))))))))))))))) (Grew.refl _))
        · obtain ⟨hf, hsz, w2, hw2, hW⟩ | hW | hW | ⟨hf, hsz, hj, hW⟩ := Wr.split (s := 1048576) (M := 9223372036854775807) (bs := bs) (k := 1) (C := (snap, has, recs.map Prod.snd)) (l := ol.map Prod.snd) hwm
          · refine Run.seq ?_
            refine Run.seq ?_
            refine Run.region ?_
            refine RunL.ok (OpOk.move rfl) rfl ?_
            refine RunL.ok (OpOk.move rfl) rfl ?_
            refine RunL.ok (OpOk.lenR rfl rfl rd.left.left.left.left.left.left.left.left.left.left.left rfl) rfl ?_
            refine RunL.ok (OpOk.asT (OpOk.lss rfl rfl) (by omega)) rfl ?_
            refine RunL.ok (OpOk.move rfl) rfl ?_
            refine RunL.on rfl rfl ?_
            refine RunL.ok (OpOk.move rfl) rfl ?_
            refine RunL.on rfl rfl ?_
            refine RunL.ok (OpOk.asT (OpOk.lss rfl rfl) (by omega)) rfl ?_
            refine RunL.ok (OpOk.pickT rfl rfl) rfl ?_
            refine RunL.nil ?_
            refine Run.condT rfl ?_
            refine Run.skip ?_
            refine Run.seq ?_
            refine Run.block ?_
            refine Run.seq ?_
            refine Run.region ?_
            refine RunL.ok (OpOk.move rfl) rfl ?_
            refine RunL.ok (OpOk.move rfl) rfl ?_
            refine RunL.ok (OpOk.idxN rfl ti60 rfl rd.left.left.left.left.left.left.left.left.left.left.left rfl (by omega)) rfl ?_
            refine RunL.ok (OpOk.loadFlE (by assumption) rfl rfl ti60 rfl rd.left.left.left.left.left.left.left.left.left.left.left (fun _ => rfl) rfl (by omega)) rfl ?_
            refine RunL.alloc ti60 rfl (fun by1 => ?_)
            refine RunL.storeAll ti60 rfl rfl rfl (fun w hw => OneC.one (enc := encT60) ((ok, on, os, ol)) w hw) rfl rfl ?_
            refine RunL.nil ?_
            refine Run.seq ?_
            refine Run.region ?_
            refine RunL.ok (OpOk.move rfl) rfl ?_
            refine RunL.ok (OpOk.fieldAddr fld60_1 rfl) rfl ?_
            refine RunL.ok (OpOk.load rfl rfl rfl (Blk.out Blk.pts _ _ (by first | rfl | assumption))) rfl ?_
            refine RunL.know (fun w s => (s.conv (frl (frl (frl rfl)))).ownsB0) (fun aly2 => ?_)
            refine RunL.mem (frc (frl (frl (frl (frl (frl (frl (frl rfl))))))) (frc (frl (frl (frl (frl (frl (frl (frl rfl))))))) rfl)) ?_
            refine RunL.call cal26 rfl (s26) rfl (fun vy3 Ay3 hy3 => ?_)
            obtain ⟨rfl, rfl⟩ := hy3
            refine RunL.nil ?_
            refine Run.seq ?_
            refine Run.region ?_
            refine RunL.ok (OpOk.assign rfl) rfl ?_
            refine RunL.nil ?_
            refine Run.seq ?_
            refine Run.seq ?_
            refine Run.region ?_
            refine RunL.ok (OpOk.fieldAddr fld60_0 rfl) rfl ?_
            refine RunL.ok (OpOk.load rfl rfl rfl (Blk.out Blk.pts.left.left _ _ (by first | rfl | assumption))) rfl ?_
            refine RunL.nil ?_
            refine Run.block ?_
            refine Run.seq ?_
            refine Run.region ?_
            refine RunL.ok (OpOk.asF (OpOk.eql rfl rfl) (by omega)) rfl ?_
            refine RunL.ok (OpOk.assign rfl) rfl ?_
            refine RunL.nil ?_
            refine Run.condF rfl ?_
            refine Run.seq ?_
            refine Run.region ?_
            refine RunL.ok (OpOk.move rfl) rfl ?_
            refine RunL.ok (OpOk.fieldAddr fld60_2 rfl) rfl ?_
            refine RunL.ok (OpOk.load rfl rfl rfl (Blk.out Blk.pts.left.left _ _ (by first | rfl | assumption))) rfl ?_
            refine RunL.mem (frc (frl (frl (frl (frl (frl rfl))))) (frc (frl (frl (frl (frl (frl rfl))))) (frc (frl (frl (frl (frl (frl rfl))))) (frc (frl (frl (frl (frl (frl rfl))))) (frc rfl (frc rfl rfl)))))) ?_
            refine RunL.call cal28 rfl (s28 rdo.left.left.left.left.left.left alo.left.left.left.left.left.left (by assumption) (by assumption) (by omega) (by omega) (by omega) (by omega) (by assumption)) rfl (fun vy4 Ay4 hy4 => ?_)
            obtain ⟨y5, ⟨y6, ⟨y7, ⟨y8, ⟨y9, ⟨rfl, ⟨y10, rfl⟩⟩⟩⟩⟩⟩⟩ := hy4
            refine RunL.ok (OpOk.assign rfl) rfl ?_
            refine RunL.nil ?_
            refine Run.seq ?_
            refine Run.region ?_
            refine RunL.ok (OpOk.move rfl) rfl ?_
            refine RunL.ok (OpOk.asT (OpOk.eql rfl rfl) (by omega)) rfl ?_
            refine RunL.nil ?_
            refine Run.condT rfl ?_
            refine Run.seq ?_
            refine Run.region ?_
            refine RunL.ok (OpOk.assign rfl) rfl ?_
            refine RunL.nil ?_
            refine Run.block ?_
            rw [takes_one] at y10
            rw [takes_one]
            dsimp only at y10 ⊢
            have ht2 : Tidy (bs ++ rowsB 1 (ol.map Prod.snd)) (snap, has, y8.map Prod.snd) := by
              have := ht.more (k := 1) (.inl rfl) hf
              rw [takes_one] at this
              rw [y10]; exact this
            refine Run.jump ((Run.loopJ (X := Nat × Asn × Value × List (List UInt8)) (fun x => [(11, .int .i64 (x.1 : Int)), (10, .int .i64 0), (9, .pointer (some ⟨by1, 0, none⟩)), (8, .int .i64 (i : Int)), (7, .pointer (some ⟨bx16, 0, none⟩)), (5, .pointer (some ⟨jp, 0, none⟩)), (3, .pointer (some ⟨x6, 0, none⟩)), (2, .pointer (some ⟨bx1, 0, none⟩)), (0, u)]) (fun x => old w0 * x.2.1 * pts bx1 (.cells #[.bool false] 4 (0, 0)) * pts bx16 (.cells #[x.2.2.1] 57 (0, 0)) * own 9 1 x.2.2.1 x.2.2.2.length (Fl encS x.2.2.2) * marks ds * pts by1 (.cells (Value.agg (encT60 (ok, on, os, ol)).toArray).cells 60 (0, 0)) * pts x6 (.cells #[.int .i64 (1048576), .int .i64 (w2), y7] 145 (0, 0)) * own 5 1 y7 ((bs ++ rowsB 1 (ol.map Prod.snd))).length (B ((bs ++ rowsB 1 (ol.map Prod.snd)))) * pts jp (.cells #[y5, .bool has, y6, .pointer (some ⟨x6, 0, none⟩), .bool false] 149 (0, 0)) * own 5 1 y5 (snap).length (B (snap)) * own 63 1 y6 (y8).length (Fl encV (y8)) * ownsB 5 (y8)) (fun x => x.1 ≤ ol.length ∧ x.2.2.2 = recs.map Prod.snd ++ (ol.map Prod.snd).take x.1) (fun x => ol.length - x.1) (0, _, av, recs.map Prod.snd) ⟨Nat.zero_le _, by simp⟩ (fun x hx ih2 => ?_))) ⟨rfl, rfl, rfl, rfl, rfl, rfl, rfl, rfl, rfl, trivial⟩ (Grew.of (Eq.trans (frc rfl (frc rfl (frc rfl (frc rfl (frc rfl (frc rfl (frc (frl rfl) (frc (frl rfl) (frc (frl rfl) (frc (frl rfl) (frc (frl rfl) rfl))))))))))) (congrArg (· * _) (congrArg (· * _) (congrArg (· * _) (congrArg (· * _) (congrArg (· * _) (congrArg (· * _) (congrArg (· * _) (congrArg (· * _) (congrArg (· * _) (congrArg (· * _) (congrArg (· * _) (asg as1))))))))))))) (Grew.refl _))
            obtain ⟨k, J2, av2, ys⟩ := x
            simp only at hx ih2 ⊢
            obtain ⟨hk2, hys⟩ := hx
            have hyl : ys.length ≤ 4194304 := by rw [hys, List.length_append, List.length_take, List.length_map, List.length_map]; omega
            rcases Nat.lt_or_ge k ol.length with hk1 | hk1
            · have rdk : Rd w0 (old w0) (ol.getD k default).1 1 (ol.getD k default).2.length (B (ol.getD k default).2) := alo.get hk1
              have hvk := Fl_V ol k hk1
              have hbk := fine_fail hk1 hf
              have drawApart : av2 = av2 := rfl
              refine Run.seq ?_
              refine Run.seq ?_
              refine Run.region ?_
              refine RunL.ok (OpOk.move rfl) rfl ?_
              refine RunL.ok (OpOk.fieldAddr fld60_2 rfl) rfl ?_
              refine RunL.ok (OpOk.load rfl rfl rfl (Blk.out Blk.pts.left.left.left.left.left.left _ _ (by first | rfl | assumption))) rfl ?_
              refine RunL.ok (OpOk.lenR rfl rfl rdo.left.left.left.left.left.left.left.left.left.left.left.left rfl) rfl ?_
              refine RunL.ok (OpOk.asT (OpOk.lss rfl rfl) (by omega)) rfl ?_
              refine RunL.nil ?_
              refine Run.condT rfl ?_
              refine Run.skip ?_
              refine Run.seq ?_
              refine Run.block ?_
              refine Run.know (fun w s => (s.conv (frl (frl (frl (frl (frl (frl (frl (frl rfl))))))))).ownRd0) (fun rdt1 => ?_)
              refine Run.know (fun w s => (s.conv (frl (frl (frl (frl rfl))))).ownRd0) (fun rdt2 => ?_)
              refine Run.know (fun w s => (s.conv (frl (frl rfl))).ownRd0) (fun rdt3 => ?_)
              refine Run.know (fun w s => (s.conv (frl rfl)).ownRd0) (fun rdt4 => ?_)
              (apply Run.drawD [9] (by rfl) (Eq.trans (frc (frl (frl (frl (frl (frl (frl (frl (frl rfl)))))))) rfl) rfl); case hchk => kernel_rfl)
              refine Sd.quiet 0 _ _ rfl rfl rfl rfl rfl (QOp.ok (fun X => OpOk.load rfl rfl rfl (Blk.out Blk.pts.left.left.left.left.left.left.left.left.left.left _ _ (by first | rfl | assumption)))) ?_
              refine Sd.quiet 1 _ _ rfl rfl rfl rfl rfl (QOp.ok (fun X => OpOk.fieldAddr fld60_2 rfl)) ?_
              refine Sd.quiet 2 _ _ rfl rfl rfl rfl rfl (QOp.ok (fun X => OpOk.load rfl rfl rfl (Blk.out Blk.pts.left.left.left.left.left.left.left.left _ _ (by first | rfl | assumption)))) ?_
              refine Sd.quiet 3 _ _ rfl rfl rfl rfl rfl (QOp.ok (fun X => OpOk.move rfl)) ?_
              refine Sd.quiet 4 _ _ rfl rfl rfl rfl rfl (QOp.ok (fun X => OpOk.idx1N rfl ti63 rfl rdo.left.left.left.left.left.left.left.left.left.left.left.left.left rfl (by omega))) ?_
              refine Sd.quiet 5 _ _ rfl rfl rfl rfl rfl (QOp.ok (fun X => OpOk.loadRow default rfl rfl rfl rdo.left.left.left.left.left.left.left.left.left.left.left.left.left (fun _ => rfl) (by omega) rfl)) ?_
              refine Sd.quiet 6 _ _ rfl rfl rfl rfl rfl (QOp.ok (fun X => OpOk.strOf rfl rfl rfl rfl rdk.left.left.left.left.left.left.left.left.left.left.left.left.left)) ?_
              (refine Sd.exec 7 rfl rfl rfl rfl rfl ?hrest (by rfl) (fun Xt5 Kt5 hKt5 => ?_); case hrest => kernel_rfl)
              refine RunL.mem (fl2 (sep_emp _) rfl) ?_
              refine RunL.litS (ss := [(ol.getD k default).snd]) rfl ti9 rfl rfl rfl (by decide) rfl (fun vt6 rdt6 => ?_)
              refine RunL.know (fun w s => (s.conv rfl).ownRd0) (fun rdt7 => ?_)
              refine Sd.ret hKt5 (Eq.trans (frc (frl rfl) rfl) (gp2 rfl rfl)) ⟨_, (emp_sep _).symm⟩ ?_
              (refine Sd.exec 8 rfl rfl rfl rfl rfl ?hrest (by rfl) (fun Xt8 Kt8 hKt8 => ?_); case hrest => kernel_rfl)
              refine RunL.mem (fl2 rfl rfl) ?_
              refine RunL.appendF rfl ti9 rfl rfl rfl rfl (Rd.right rdt7).left rfl (by decide) (by omega) (by simp only [maxLen]; omega) rfl (fun vt9 rdt9 => ?_)
              refine RunL.know (fun w s => (s.conv rfl).ownRd0) (fun rdt10 => ?_)
              refine Sd.ret hKt8 (Eq.trans rfl (gp2 (sep_emp _).symm (asg rfl))) ⟨_, rfl⟩ ?_
              (apply Sd.tail; case hall => kernel_rfl)
              refine RunL.mem (fl2 (flS rfl) (sep_emp _)) ?_
              refine RunL.store ti57 rfl rfl (Rd.one rdt10) (frl (frl (frl (frl (frl (frl (frl (frl (frl (frl rfl)))))))))) (by exact Nat.le_of_ble_eq_true rfl) (.inl rfl) ?_
              refine RunL.nil ?_
              refine Run.inBlock ?_
              refine Run.region ?_
              refine RunL.ok (OpOk.move rfl) rfl ?_
              refine RunL.ok (OpOk.addN _ 1 rfl rfl rfl rfl (by omega)) rfl ?_
              refine RunL.ok (OpOk.assign rfl) rfl ?_
              refine RunL.nil ?_
              rw [show ys.length + 1 = (ys ++ [(ol.getD k default).2]).length by simp]
              refine Run.jump ((ih2 (k + 1, _, vt9, ys ++ [(ol.getD k default).2]) ⟨by dsimp only; omega, by dsimp only; rw [hys, take_next (by simpa using hk1), snd_get hk1, List.append_assoc]⟩ (by dsimp only; omega))) ⟨rfl, rfl, rfl, rfl, rfl, rfl, rfl, rfl, rfl, trivial⟩ (Grew.of (Eq.trans (frc (frl (frl (frl rfl))) (frc (frl (frl (frl rfl))) (frc (frl (frl (frl rfl))) (frc (frl (frl (frl rfl))) (frc (frl (frl (frl rfl))) (frc (frl (frl (frl rfl))) (frc (frl (frl (frl rfl))) (frc (frl (frl (frl rfl))) (frc (frl rfl) (frc rfl (frc (frl rfl) rfl))))))))))) (congrArg (· * _) (congrArg (· * _) (congrArg (· * _) (congrArg (· * _) (congrArg (· * _) (congrArg (· * _) (congrArg (· * _) (congrArg (· * _) (congrArg (· * _) (congrArg (· * _) (congrArg (· * _) (asg as1))))))))))))) (Grew.refl _))
            · obtain rfl : k = ol.length := by omega
              clear ih2
              rw [List.take_of_length_le (by simp)] at hys
              have hys2 : ys = y8.map Prod.snd := hys.trans y10.symm
              subst hys2
              refine Run.seq ?_
              refine Run.seq ?_
              refine Run.region ?_
              refine RunL.ok (OpOk.move rfl) rfl ?_
              refine RunL.ok (OpOk.fieldAddr fld60_2 rfl) rfl ?_
              refine RunL.ok (OpOk.load rfl rfl rfl (Blk.out Blk.pts.left.left.left.left.left.left _ _ (by first | rfl | assumption))) rfl ?_
              refine RunL.ok (OpOk.lenR rfl rfl rdo.left.left.left.left.left.left.left.left.left.left.left.left rfl) rfl ?_
              refine RunL.ok (OpOk.asF (OpOk.lss rfl rfl) (by omega)) rfl ?_
              refine RunL.nil ?_
              refine Run.condF rfl ?_
              refine Run.exit rfl ?_
              refine Run.inBlock ?_
              refine Run.seq ?_
              refine Run.seq ?_
              refine Run.region ?_
              refine RunL.ok (OpOk.move rfl) rfl ?_
              refine RunL.ok (OpOk.as (c := true) (OpOk.neq rfl rfl) (by rw [decide_eq_false (by omega)]; rfl)) rfl ?_
              refine RunL.nil ?_
              refine Run.condT rfl ?_
              refine Run.exit rfl ?_
              refine Run.region ?_
              refine RunL.ok (OpOk.move rfl) rfl ?_
              refine RunL.ok (OpOk.addN _ 1 rfl rfl rfl rfl (by omega)) rfl ?_
              refine RunL.ok (OpOk.assign rfl) rfl ?_
              refine RunL.nil ?_
              refine Run.jump ((ih (i + 1, ds, _, (w2, bs ++ rowsB 1 (ol.map Prod.snd), y7), (jp, y5, y6, snap, has), av2, y8) ⟨by dsimp only; omega, by dsimp only; omega, ht2, by dsimp only; omega, hw2⟩ (by dsimp only; omega))) ⟨rfl, rfl, rfl, rfl, rfl, rfl, trivial⟩ (Grew.of (Eq.trans (frc (frl (frl (frl (frl (frl (frl (frl rfl))))))) (frc (frl (frl (frl (frl (frl (frl (frl rfl))))))) (frc rfl (frc rfl (frc rfl (frc rfl (frc rfl (frc rfl (frc (frl rfl) (frc (frl rfl) rfl)))))))))) (congrArg (· * _) (congrArg (· * _) (congrArg (· * _) (congrArg (· * _) (congrArg (· * _) (congrArg (· * _) (congrArg (· * _) (congrArg (· * _) (congrArg (· * _) (congrArg (· * _) (asg as1)))))))))))) (Grew.refl _))
          · refine Run.seq ?_
            refine Run.seq ?_
            refine Run.region ?_
            refine RunL.ok (OpOk.move rfl) rfl ?_
            refine RunL.ok (OpOk.move rfl) rfl ?_
            refine RunL.ok (OpOk.lenR rfl rfl rd.left.left.left.left.left.left.left.left.left.left.left rfl) rfl ?_
            refine RunL.ok (OpOk.asT (OpOk.lss rfl rfl) (by omega)) rfl ?_
            refine RunL.ok (OpOk.move rfl) rfl ?_
            refine RunL.on rfl rfl ?_
            refine RunL.ok (OpOk.move rfl) rfl ?_
            refine RunL.on rfl rfl ?_
            refine RunL.ok (OpOk.asT (OpOk.lss rfl rfl) (by omega)) rfl ?_
            refine RunL.ok (OpOk.pickT rfl rfl) rfl ?_
            refine RunL.nil ?_
            refine Run.condT rfl ?_
            refine Run.skip ?_
            refine Run.seq ?_
            refine Run.block ?_
            refine Run.seq ?_
            refine Run.region ?_
            refine RunL.ok (OpOk.move rfl) rfl ?_
            refine RunL.ok (OpOk.move rfl) rfl ?_
            refine RunL.ok (OpOk.idxN rfl ti60 rfl rd.left.left.left.left.left.left.left.left.left.left.left rfl (by omega)) rfl ?_
            refine RunL.ok (OpOk.loadFlE (by assumption) rfl rfl ti60 rfl rd.left.left.left.left.left.left.left.left.left.left.left (fun _ => rfl) rfl (by omega)) rfl ?_
            refine RunL.alloc ti60 rfl (fun by1 => ?_)
            refine RunL.storeAll ti60 rfl rfl rfl (fun w hw => OneC.one (enc := encT60) ((ok, on, os, ol)) w hw) rfl rfl ?_
            refine RunL.nil ?_
            refine Run.seq ?_
            refine Run.region ?_
            refine RunL.ok (OpOk.move rfl) rfl ?_
            refine RunL.ok (OpOk.fieldAddr fld60_1 rfl) rfl ?_
            refine RunL.ok (OpOk.load rfl rfl rfl (Blk.out Blk.pts _ _ (by first | rfl | assumption))) rfl ?_
            refine RunL.know (fun w s => (s.conv (frl (frl (frl rfl)))).ownsB0) (fun aly2 => ?_)
            refine RunL.mem (frc (frl (frl (frl (frl (frl (frl (frl rfl))))))) (frc (frl (frl (frl (frl (frl (frl (frl rfl))))))) rfl)) ?_
            refine RunL.call cal26 rfl (s26) rfl (fun vy3 Ay3 hy3 => ?_)
            obtain ⟨rfl, rfl⟩ := hy3
            refine RunL.nil ?_
            refine Run.seq ?_
            refine Run.region ?_
            refine RunL.ok (OpOk.assign rfl) rfl ?_
            refine RunL.nil ?_
            refine Run.seq ?_
            refine Run.seq ?_
            refine Run.region ?_
            refine RunL.ok (OpOk.fieldAddr fld60_0 rfl) rfl ?_
            refine RunL.ok (OpOk.load rfl rfl rfl (Blk.out Blk.pts.left.left _ _ (by first | rfl | assumption))) rfl ?_
            refine RunL.nil ?_
            refine Run.block ?_
            refine Run.seq ?_
            refine Run.region ?_
            refine RunL.ok (OpOk.asF (OpOk.eql rfl rfl) (by omega)) rfl ?_
            refine RunL.ok (OpOk.assign rfl) rfl ?_
            refine RunL.nil ?_
            refine Run.condF rfl ?_
            refine Run.seq ?_
            refine Run.region ?_
            refine RunL.ok (OpOk.move rfl) rfl ?_
            refine RunL.ok (OpOk.fieldAddr fld60_2 rfl) rfl ?_
            refine RunL.ok (OpOk.load rfl rfl rfl (Blk.out Blk.pts.left.left _ _ (by first | rfl | assumption))) rfl ?_
            refine RunL.mem (frc (frl (frl (frl (frl (frl rfl))))) (frc (frl (frl (frl (frl (frl rfl))))) (frc (frl (frl (frl (frl (frl rfl))))) (frc (frl (frl (frl (frl (frl rfl))))) (frc rfl (frc rfl rfl)))))) ?_
            refine RunL.call cal28 rfl (s28 rdo.left.left.left.left.left.left alo.left.left.left.left.left.left (by assumption) (by assumption) (by omega) (by omega) (by omega) (by omega) (by assumption)) rfl (fun vy4 Ay4 hy4 => ?_)
            obtain ⟨y5, ⟨y6, ⟨y7, ⟨y8, ⟨y9, ⟨rfl, ⟨y10, rfl⟩⟩⟩⟩⟩⟩⟩ := hy4
            refine RunL.ok (OpOk.assign rfl) rfl ?_
            refine RunL.nil ?_
            refine Run.seq ?_
            refine Run.region ?_
            refine RunL.ok (OpOk.move rfl) rfl ?_
            refine RunL.ok (OpOk.asF (OpOk.eql rfl rfl) (by omega)) rfl ?_
            refine RunL.nil ?_
            refine Run.condF rfl ?_
            refine Run.skip ?_
            refine Run.inBlock ?_
            refine Run.seq ?_
            refine Run.seq ?_
            refine Run.region ?_
            refine RunL.ok (OpOk.move rfl) rfl ?_
            refine RunL.ok (OpOk.as (c := true) (OpOk.neq rfl rfl) (by rw [decide_eq_false (by omega)]; rfl)) rfl ?_
            refine RunL.nil ?_
            refine Run.condT rfl ?_
            refine Run.exit rfl ?_
            refine Run.region ?_
            refine RunL.ok (OpOk.move rfl) rfl ?_
            refine RunL.ok (OpOk.addN _ 1 rfl rfl rfl rfl (by omega)) rfl ?_
            refine RunL.ok (OpOk.assign rfl) rfl ?_
            refine RunL.nil ?_
            dsimp only at y10 ⊢
            rw [← y10] at ht ⊢
            refine Run.jump ((ih (i + 1, ds, _, (max on (-1), bs, y7), (jp, y5, y6, snap, has), av, y8) ⟨by dsimp only; omega, by dsimp only; omega, ht, hbl, hwm⟩ (by dsimp only; omega))) ⟨rfl, rfl, rfl, rfl, rfl, rfl, trivial⟩ (Grew.of (Eq.trans (frc (frl (frl (frl (frl (frl (frl (frl (frl rfl)))))))) (frc (frl (frl (frl (frl (frl (frl (frl (frl rfl)))))))) (frc rfl (frc rfl (frc rfl (frc rfl (frc rfl (frc rfl (frc (frl (frl rfl)) (frc (frl (frl rfl)) rfl)))))))))) (congrArg (· * _) (congrArg (· * _) (congrArg (· * _) (congrArg (· * _) (congrArg (· * _) (congrArg (· * _) (congrArg (· * _) (congrArg (· * _) (congrArg (· * _) (congrArg (· * _) (asg (asg as1))))))))))))) (Grew.refl _))
          · refine Run.seq ?_
            refine Run.seq ?_
            refine Run.region ?_
            refine RunL.ok (OpOk.move rfl) rfl ?_
            refine RunL.ok (OpOk.move rfl) rfl ?_
            refine RunL.ok (OpOk.lenR rfl rfl rd.left.left.left.left.left.left.left.left.left.left.left rfl) rfl ?_
            refine RunL.ok (OpOk.asT (OpOk.lss rfl rfl) (by omega)) rfl ?_
            refine RunL.ok (OpOk.move rfl) rfl ?_
            refine RunL.on rfl rfl ?_
            refine RunL.ok (OpOk.move rfl) rfl ?_
            refine RunL.on rfl rfl ?_
            refine RunL.ok (OpOk.asT (OpOk.lss rfl rfl) (by omega)) rfl ?_
            refine RunL.ok (OpOk.pickT rfl rfl) rfl ?_
            refine RunL.nil ?_
            refine Run.condT rfl ?_
            refine Run.skip ?_
            refine Run.seq ?_
            refine Run.block ?_
            refine Run.seq ?_
            refine Run.region ?_
            refine RunL.ok (OpOk.move rfl) rfl ?_
            refine RunL.ok (OpOk.move rfl) rfl ?_
            refine RunL.ok (OpOk.idxN rfl ti60 rfl rd.left.left.left.left.left.left.left.left.left.left.left rfl (by omega)) rfl ?_
            refine RunL.ok (OpOk.loadFlE (by assumption) rfl rfl ti60 rfl rd.left.left.left.left.left.left.left.left.left.left.left (fun _ => rfl) rfl (by omega)) rfl ?_
            refine RunL.alloc ti60 rfl (fun by1 => ?_)
            refine RunL.storeAll ti60 rfl rfl rfl (fun w hw => OneC.one (enc := encT60) ((ok, on, os, ol)) w hw) rfl rfl ?_
            refine RunL.nil ?_
            refine Run.seq ?_
            refine Run.region ?_
            refine RunL.ok (OpOk.move rfl) rfl ?_
            refine RunL.ok (OpOk.fieldAddr fld60_1 rfl) rfl ?_
            refine RunL.ok (OpOk.load rfl rfl rfl (Blk.out Blk.pts _ _ (by first | rfl | assumption))) rfl ?_
            refine RunL.know (fun w s => (s.conv (frl (frl (frl rfl)))).ownsB0) (fun aly2 => ?_)
            refine RunL.mem (frc (frl (frl (frl (frl (frl (frl (frl rfl))))))) (frc (frl (frl (frl (frl (frl (frl (frl rfl))))))) rfl)) ?_
            refine RunL.call cal26 rfl (s26) rfl (fun vy3 Ay3 hy3 => ?_)
            obtain ⟨rfl, rfl⟩ := hy3
            refine RunL.nil ?_
            refine Run.seq ?_
            refine Run.region ?_
            refine RunL.ok (OpOk.assign rfl) rfl ?_
            refine RunL.nil ?_
            refine Run.seq ?_
            refine Run.seq ?_
            refine Run.region ?_
            refine RunL.ok (OpOk.fieldAddr fld60_0 rfl) rfl ?_
            refine RunL.ok (OpOk.load rfl rfl rfl (Blk.out Blk.pts.left.left _ _ (by first | rfl | assumption))) rfl ?_
            refine RunL.nil ?_
            refine Run.block ?_
            refine Run.seq ?_
            refine Run.region ?_
            refine RunL.ok (OpOk.asF (OpOk.eql rfl rfl) (by omega)) rfl ?_
            refine RunL.ok (OpOk.assign rfl) rfl ?_
            refine RunL.nil ?_
            refine Run.condF rfl ?_
            refine Run.seq ?_
            refine Run.region ?_
            refine RunL.ok (OpOk.move rfl) rfl ?_
            refine RunL.ok (OpOk.fieldAddr fld60_2 rfl) rfl ?_
            refine RunL.ok (OpOk.load rfl rfl rfl (Blk.out Blk.pts.left.left _ _ (by first | rfl | assumption))) rfl ?_
            refine RunL.mem (frc (frl (frl (frl (frl (frl rfl))))) (frc (frl (frl (frl (frl (frl rfl))))) (frc (frl (frl (frl (frl (frl rfl))))) (frc (frl (frl (frl (frl (frl rfl))))) (frc rfl (frc rfl rfl)))))) ?_
            refine RunL.call cal28 rfl (s28 rdo.left.left.left.left.left.left alo.left.left.left.left.left.left (by assumption) (by assumption) (by omega) (by omega) (by omega) (by omega) (by assumption)) rfl (fun vy4 Ay4 hy4 => ?_)
            obtain ⟨y5, ⟨y6, ⟨y7, ⟨y8, ⟨y9, ⟨rfl, ⟨y10, rfl⟩⟩⟩⟩⟩⟩⟩ := hy4
            refine RunL.ok (OpOk.assign rfl) rfl ?_
            refine RunL.nil ?_
            refine Run.seq ?_
            refine Run.region ?_
            refine RunL.ok (OpOk.move rfl) rfl ?_
            refine RunL.ok (OpOk.asF (OpOk.eql rfl rfl) (by omega)) rfl ?_
            refine RunL.nil ?_
            refine Run.condF rfl ?_
            refine Run.skip ?_
            refine Run.inBlock ?_
            refine Run.seq ?_
            refine Run.seq ?_
            refine Run.region ?_
            refine RunL.ok (OpOk.move rfl) rfl ?_
            refine RunL.ok (OpOk.as (c := true) (OpOk.neq rfl rfl) (by rw [decide_eq_false (by omega)]; rfl)) rfl ?_
            refine RunL.nil ?_
            refine Run.condT rfl ?_
            refine Run.exit rfl ?_
            refine Run.region ?_
            refine RunL.ok (OpOk.move rfl) rfl ?_
            refine RunL.ok (OpOk.addN _ 1 rfl rfl rfl rfl (by omega)) rfl ?_
            refine RunL.ok (OpOk.assign rfl) rfl ?_
            refine RunL.nil ?_
            dsimp only at y10 ⊢
            rw [← y10] at ht ⊢
            refine Run.jump ((ih (i + 1, ds, _, (max on (-1), bs, y7), (jp, y5, y6, snap, has), av, y8) ⟨by dsimp only; omega, by dsimp only; omega, ht, hbl, hwm⟩ (by dsimp only; omega))) ⟨rfl, rfl, rfl, rfl, rfl, rfl, trivial⟩ (Grew.of (Eq.trans (frc (frl (frl (frl (frl (frl (frl (frl (frl rfl)))))))) (frc (frl (frl (frl (frl (frl (frl (frl (frl rfl)))))))) (frc rfl (frc rfl (frc rfl (frc rfl (frc rfl (frc rfl (frc (frl (frl rfl)) (frc (frl (frl rfl)) rfl)))))))))) (congrArg (· * _) (congrArg (· * _) (congrArg (· * _) (congrArg (· * _) (congrArg (· * _) (congrArg (· * _) (congrArg (· * _) (congrArg (· * _) (congrArg (· * _) (congrArg (· * _) (asg (asg as1))))))))))))) (Grew.refl _))
          · obtain ⟨q, hq, hC, htq, hlq, hlb⟩ := ht.torn (k := 1) (.inl rfl) hf hj
            have drawStop : True := trivial
            refine Run.seq ?_
            refine Run.seq ?_
            refine Run.region ?_
            refine RunL.ok (OpOk.move rfl) rfl ?_
            refine RunL.ok (OpOk.move rfl) rfl ?_
            refine RunL.ok (OpOk.lenR rfl rfl rd.left.left.left.left.left.left.left.left.left.left.left rfl) rfl ?_
            refine RunL.ok (OpOk.asT (OpOk.lss rfl rfl) (by omega)) rfl ?_
            refine RunL.ok (OpOk.move rfl) rfl ?_
            refine RunL.on rfl rfl ?_
            refine RunL.ok (OpOk.move rfl) rfl ?_
            refine RunL.on rfl rfl ?_
            refine RunL.ok (OpOk.asT (OpOk.lss rfl rfl) (by omega)) rfl ?_
            refine RunL.ok (OpOk.pickT rfl rfl) rfl ?_
            refine RunL.nil ?_
            refine Run.condT rfl ?_
            refine Run.skip ?_
            refine Run.seq ?_
            refine Run.block ?_
            refine Run.seq ?_
            refine Run.region ?_
            refine RunL.ok (OpOk.move rfl) rfl ?_
            refine RunL.ok (OpOk.move rfl) rfl ?_
            refine RunL.ok (OpOk.idxN rfl ti60 rfl rd.left.left.left.left.left.left.left.left.left.left.left rfl (by omega)) rfl ?_
            refine RunL.ok (OpOk.loadFlE (by assumption) rfl rfl ti60 rfl rd.left.left.left.left.left.left.left.left.left.left.left (fun _ => rfl) rfl (by omega)) rfl ?_
            refine RunL.alloc ti60 rfl (fun by1 => ?_)
            refine RunL.storeAll ti60 rfl rfl rfl (fun w hw => OneC.one (enc := encT60) ((ok, on, os, ol)) w hw) rfl rfl ?_
            refine RunL.nil ?_
            refine Run.seq ?_
            refine Run.region ?_
            refine RunL.ok (OpOk.move rfl) rfl ?_
            refine RunL.ok (OpOk.fieldAddr fld60_1 rfl) rfl ?_
            refine RunL.ok (OpOk.load rfl rfl rfl (Blk.out Blk.pts _ _ (by first | rfl | assumption))) rfl ?_
            refine RunL.know (fun w s => (s.conv (frl (frl (frl rfl)))).ownsB0) (fun aly2 => ?_)
            refine RunL.mem (frc (frl (frl (frl (frl (frl (frl (frl rfl))))))) (frc (frl (frl (frl (frl (frl (frl (frl rfl))))))) rfl)) ?_
            refine RunL.call cal26 rfl (s26) rfl (fun vy3 Ay3 hy3 => ?_)
            obtain ⟨rfl, rfl⟩ := hy3
            refine RunL.nil ?_
            refine Run.seq ?_
            refine Run.region ?_
            refine RunL.ok (OpOk.assign rfl) rfl ?_
            refine RunL.nil ?_
            refine Run.seq ?_
            refine Run.seq ?_
            refine Run.region ?_
            refine RunL.ok (OpOk.fieldAddr fld60_0 rfl) rfl ?_
            refine RunL.ok (OpOk.load rfl rfl rfl (Blk.out Blk.pts.left.left _ _ (by first | rfl | assumption))) rfl ?_
            refine RunL.nil ?_
            refine Run.block ?_
            refine Run.seq ?_
            refine Run.region ?_
            refine RunL.ok (OpOk.asF (OpOk.eql rfl rfl) (by omega)) rfl ?_
            refine RunL.ok (OpOk.assign rfl) rfl ?_
            refine RunL.nil ?_
            refine Run.condF rfl ?_
            refine Run.seq ?_
            refine Run.region ?_
            refine RunL.ok (OpOk.move rfl) rfl ?_
            refine RunL.ok (OpOk.fieldAddr fld60_2 rfl) rfl ?_
            refine RunL.ok (OpOk.load rfl rfl rfl (Blk.out Blk.pts.left.left _ _ (by first | rfl | assumption))) rfl ?_
            refine RunL.mem (frc (frl (frl (frl (frl (frl rfl))))) (frc (frl (frl (frl (frl (frl rfl))))) (frc (frl (frl (frl (frl (frl rfl))))) (frc (frl (frl (frl (frl (frl rfl))))) (frc rfl (frc rfl rfl)))))) ?_
            refine RunL.call cal28 rfl (s28 rdo.left.left.left.left.left.left alo.left.left.left.left.left.left (by assumption) (by assumption) (by omega) (by omega) (by omega) (by omega) (by assumption)) rfl (fun vy4 Ay4 hy4 => ?_)
            obtain ⟨y5, ⟨y6, ⟨y7, ⟨y8, ⟨y9, ⟨rfl, ⟨y10, rfl⟩⟩⟩⟩⟩⟩⟩ := hy4
            refine RunL.ok (OpOk.assign rfl) rfl ?_
            refine RunL.nil ?_
            refine Run.seq ?_
            refine Run.region ?_
            refine RunL.ok (OpOk.move rfl) rfl ?_
            refine RunL.ok (OpOk.asF (OpOk.eql rfl rfl) (by omega)) rfl ?_
            refine RunL.nil ?_
            refine Run.condF rfl ?_
            refine Run.skip ?_
            refine Run.inBlock ?_
            refine Run.seq ?_
            refine Run.seq ?_
            refine Run.region ?_
            refine RunL.ok (OpOk.move rfl) rfl ?_
            refine RunL.ok (OpOk.as (c := false) (OpOk.neq rfl rfl) (by rw [decide_eq_true (by omega)]; rfl)) rfl ?_
            refine RunL.nil ?_
            refine Run.condF rfl ?_
            refine Run.skip ?_
            refine Run.seq ?_
            refine Run.region ?_
            refine RunL.ok (OpOk.move rfl) rfl ?_
            refine RunL.know (fun w s => (s.conv rfl).ownsB0) (fun aly11 => ?_)
            refine RunL.mem (frc (frl (frl (frl (frl rfl)))) (frc (frl (frl (frl (frl rfl)))) rfl)) ?_
            refine RunL.call cal26 rfl (s26) rfl (fun vy12 Ay12 hy12 => ?_)
            obtain ⟨rfl, rfl⟩ := hy12
            refine RunL.nil ?_
            refine Run.seq ?_
            refine Run.region ?_
            refine RunL.ok (OpOk.move rfl) rfl ?_
            refine RunL.call cal25 rfl (s25b (by omega)) rfl (fun vy13 Ay13 hy13 => ?_)
            obtain ⟨y14, ⟨y15, ⟨y16, ⟨y17, ⟨y18, ⟨y19, ⟨rfl, ⟨y20, rfl⟩⟩⟩⟩⟩⟩⟩⟩ := hy13
            refine RunL.ok (OpOk.move rfl) rfl ?_
            refine RunL.ok (OpOk.ext20 rfl) rfl ?_
            refine RunL.ok (OpOk.ext21 rfl) rfl ?_
            refine RunL.ok (OpOk.assign rfl) rfl ?_
            refine RunL.ok (OpOk.assign rfl) rfl ?_
            refine RunL.nil ?_
            refine Run.seq ?_
            refine Run.seq ?_
            clear drawStop
            rw [hC] at y20 ⊢
            generalize List.take (says (bs ++ (rowsB 1 (ol.map Prod.snd)).take (max on (-1)).toNat)).2 (bs ++ (rowsB 1 (ol.map Prod.snd)).take (max on (-1)).toNat) = cut at htq hlq ⊢
            rw [takes_one] at y20 htq ⊢
            dsimp only at y20 htq ⊢
            rw [← y20] at htq
            have hnl : y18.length = recs.length + q := by
              have := congrArg List.length y20
              rw [List.length_map] at hq
              rw [List.length_map, List.length_append, List.length_map, List.length_take, List.length_map] at this
              omega
            rw [List.length_map] at hq
            have hcq := contC_ok cut
            rw [htq.cont] at hcq
            obtain ⟨_, _, hrb2⟩ := hcq
            dsimp only at hrb2
            have hb : ∀ r ∈ y18, r.2.length ≤ 65535 := recs_ok rfl hrb2
            refine Run.know (fun w s => (s.conv (frl (frl (frl (frl (frl (frl (frl (frl (frl (frl (frl (frl (frl (frl rfl))))))))))))))).ownRd0) (fun rdz1 => ?_)
            refine Run.know (fun w s => (s.conv (frl (frl (frl (frl (frl (frl (frl (frl (frl rfl)))))))))).ownRd0) (fun rdz2 => ?_)
            refine Run.know (fun w s => (s.conv (frl (frl (frl (frl (frl (frl (frl (frl rfl))))))))).ownRd0) (fun rdz3 => ?_)
            refine Run.know (fun w s => (s.conv (frl (frl (frl (frl rfl))))).ownRd0) (fun rdz4 => ?_)
            refine Run.know (fun w s => (s.conv (frl (frl rfl))).ownRd0) (fun rdz5 => ?_)
            refine Run.know (fun w s => (s.conv (frl rfl)).ownRd0) (fun rdz6 => ?_)
            (apply Run.drawD [] (by rfl) (Eq.trans rfl (asg (asg (asg rfl)))); case hchk => kernel_rfl)
            refine Sd.quiet 0 _ _ rfl rfl rfl rfl rfl (QOp.ok (fun X => OpOk.move rfl)) ?_
            refine Sd.quiet 1 _ _ rfl rfl rfl rfl rfl (QOp.ok (fun X => OpOk.eqlPN rfl rfl)) ?_
            refine Sd.quiet 2 _ _ rfl rfl rfl rfl rfl (QOp.ok (fun X => OpOk.move rfl)) ?_
            refine Sd.quiet 3 _ _ rfl rfl rfl rfl rfl (QOp.ok (fun X => OpOk.move rfl)) ?_
            refine Sd.quiet 4 _ _ rfl rfl rfl rfl rfl (QOp.ok (fun X => OpOk.as (c := false) (OpOk.neq rfl rfl) (by rw [decide_eq_true (by omega)]; rfl))) ?_
            refine Sd.quiet 5 _ _ rfl rfl rfl rfl rfl (QOp.ok (fun X => OpOk.pickF rfl rfl)) ?_
            refine Sd.quiet 6 _ _ rfl rfl rfl rfl rfl (QOp.ok (fun X => OpOk.move rfl)) ?_
            refine Sd.quiet 7 _ _ rfl rfl rfl rfl rfl (QOp.ok (fun X => OpOk.move rfl)) ?_
            refine Sd.quiet 9 _ _ rfl rfl rfl rfl rfl (QOp.ok (fun X => OpOk.load rfl rfl rfl (Blk.out Blk.pts.left.left.left.left.left.left.left.left.left.left.left.left.left _ _ (by first | rfl | assumption)))) ?_
            refine Sd.quiet 10 _ _ rfl rfl rfl rfl rfl (QOp.ok (fun X => OpOk.lenR rfl rfl (Rd.right rdz1).left.left.left.left.left.left.left.left.left.left.left.left rfl)) ?_
            (refine Sd.exec 8 rfl rfl rfl rfl rfl ?hrest (by rfl) (fun Xz7 Kz7 hKz7 => ?_); case hrest => kernel_rfl)
            refine RunL.mem (fl2 (sep_emp _) (flS (flS (flS rfl)))) ?_
            refine RunL.know (fun w s => (s.conv rfl).ownsB0) (fun alz8 => ?_)
            refine RunL.call cal29 rfl (s29) rfl (fun vz9 Az9 hz9 => ?_)
            obtain ⟨rfl, rfl⟩ := hz9
            refine Sd.ret hKz7 (Eq.trans rfl (gp2 (asg (asg (asg rfl))) (sep_emp _).symm)) ⟨emp, (sep_emp _).symm⟩ ?_
            refine Sd.quiet 11 _ _ rfl rfl rfl rfl rfl (QOp.ok (fun X => OpOk.asF (OpOk.lss rfl rfl) (by omega))) ?_
            refine Sd.quiet 12 _ _ rfl rfl rfl rfl rfl (QOp.ok (fun X => OpOk.pickF rfl rfl)) ?_
            refine Sd.quiet 13 _ _ rfl rfl rfl rfl rfl (QOp.ok (fun X => OpOk.move rfl)) ?_
            refine Sd.quiet 14 _ _ rfl rfl rfl rfl rfl (QOp.ok (fun X => OpOk.move rfl)) ?_
            refine Sd.quiet 16 _ _ rfl rfl rfl rfl rfl (QOp.ok (fun X => OpOk.load rfl rfl rfl (Blk.out Blk.pts.left.left.left.left.left.left.left.left.left.left.left.left.left _ _ (by first | rfl | assumption)))) ?_
            refine Sd.quiet 17 _ _ rfl rfl rfl rfl rfl (QOp.ok (fun X => OpOk.lenR rfl rfl (Rd.right rdz1).left.left.left.left.left.left.left.left.left.left.left.left rfl)) ?_
            refine Sd.quiet 18 _ _ rfl rfl rfl rfl rfl (QOp.ok (fun X => OpOk.fieldAddr fld60_2 rfl)) ?_
            refine Sd.quiet 19 _ _ rfl rfl rfl rfl rfl (QOp.ok (fun X => OpOk.load rfl rfl rfl (Blk.out Blk.pts.left.left.left.left.left.left.left.left.left.left _ _ (by first | rfl | assumption)))) ?_
            refine Sd.quiet 20 _ _ rfl rfl rfl rfl rfl (QOp.ok (fun X => OpOk.lenR rfl rfl rdo.left.left.left.left.left.left.left.left.left.left.left.left.left.left.left.left rfl)) ?_
            refine Sd.quiet 21 _ _ rfl rfl rfl rfl rfl (QOp.ok (fun X => OpOk.addN _ _ rfl rfl rfl rfl (by omega))) ?_
            (refine Sd.exec 15 rfl rfl rfl rfl rfl ?hrest (by rfl) (fun Xz10 Kz10 hKz10 => ?_); case hrest => kernel_rfl)
            refine RunL.mem (fl2 (sep_emp _) (flS (flS (flS rfl)))) ?_
            refine RunL.call cal29 rfl (s29) rfl (fun vz11 Az11 hz11 => ?_)
            obtain ⟨rfl, rfl⟩ := hz11
            refine Sd.ret hKz10 (Eq.trans rfl (gp2 (asg (asg (asg rfl))) (sep_emp _).symm)) ⟨emp, (sep_emp _).symm⟩ ?_
            refine Sd.quiet 22 _ _ rfl rfl rfl rfl rfl (QOp.ok (fun X => OpOk.asF (OpOk.gtr rfl rfl) (by omega))) ?_
            refine Sd.quiet 23 _ _ rfl rfl rfl rfl rfl (QOp.ok (fun X => OpOk.pickF rfl rfl)) ?_
            refine Sd.quiet 24 _ _ rfl rfl rfl rfl rfl (QOp.ok (fun X => OpOk.move rfl)) ?_
            refine Sd.quiet 25 _ _ rfl rfl rfl rfl rfl (QOp.ok (fun X => OpOk.fieldAddr fld60_0 rfl)) ?_
            refine Sd.quiet 26 _ _ rfl rfl rfl rfl rfl (QOp.ok (fun X => OpOk.load rfl rfl rfl (Blk.out Blk.pts.left.left.left.left.left.left.left.left.left.left _ _ (by first | rfl | assumption)))) ?_
            refine Sd.quiet 27 _ _ rfl rfl rfl rfl rfl (QOp.ok (fun X => OpOk.asF (OpOk.eql rfl rfl) (by omega))) ?_
            refine Sd.quiet 28 _ _ rfl rfl rfl rfl rfl (QOp.ok (fun X => OpOk.move rfl)) ?_
            refine Sd.skip 29 _ rfl rfl rfl rfl rfl ?_
            refine Sd.skip 30 _ rfl rfl rfl rfl rfl ?_
            refine Sd.skip 31 _ rfl rfl rfl rfl rfl ?_
            refine Sd.skip 32 _ rfl rfl rfl rfl rfl ?_
            refine Sd.skip 33 _ rfl rfl rfl rfl rfl ?_
            refine Sd.quiet 34 _ _ rfl rfl rfl rfl rfl (QOp.ok (fun X => OpOk.pickF rfl rfl)) ?_
            refine Sd.quiet 35 _ _ rfl rfl rfl rfl rfl (QOp.ok (fun X => OpOk.pickF rfl rfl)) ?_
            (apply Sd.tail; case hall => kernel_rfl)
            refine RunL.mem (fl2 (sep_emp _) (flS (flS (flS rfl)))) ?_
            refine RunL.nil ?_
            refine Run.condF rfl ?_
            refine Run.skip ?_
            refine Run.seq ?_
            refine Run.region ?_
            refine RunL.alloc ti3 rfl (fun bz12 => ?_)
            refine RunL.store ti3 rfl rfl rfl rfl (by exact Nat.le_of_ble_eq_true rfl) (.inl rfl) ?_
            refine RunL.nil ?_
            refine Run.seq ?_
            refine Run.region ?_
            refine RunL.alloc ti57 rfl (fun bz13 => ?_)
            refine RunL.nil ?_
            refine Run.seq ?_
            refine Run.seq ?_
            refine Run.region ?_
            refine RunL.ok (OpOk.move rfl) rfl ?_
            refine RunL.mem (frc (frl (frl rfl)) (frc (frl (frl rfl)) (frc (frl (frl rfl)) (frc (frl (frl rfl)) rfl)))) ?_
            refine RunL.call cal30 rfl (s30 (by omega)) rfl (fun vz14 Az14 hz14 => ?_)
            obtain ⟨z15, ⟨z16, ⟨rfl, rfl⟩⟩⟩ := hz14
            refine RunL.nil ?_
            refine Run.block ?_
            refine Run.ent (Ent.ownNil' _ 9 1 (Fl encS []) rfl) ?_
            refine Run.rangeF (Z := Asn × Int × Value × List (List UInt8)) (iterJ (recs := y18) (b := z15) (v := z16) (by omega) (fun r hr => Nat.le_trans (hb r hr) (by decide))) rfl rfl (fun z => old w0 * z.1 * pts bx1 (.cells #[.bool false] 4 (0, 0)) * pts bx16 (.cells #[av] 57 (0, 0)) * own 9 1 av (recs.map Prod.snd).length (Fl encS (recs.map Prod.snd)) * pts by1 (.cells (Value.agg (encT60 (ok, on, os, ol)).toArray).cells 60 (0, 0)) * pts x6 (.cells #[.int .i64 (1048576), .int .i64 ((max (-1) (-1))), y17] 145 (0, 0)) * own 5 1 y17 (cut).length (B (cut)) * pts y14 (.cells #[y15, .bool has, y16, .pointer (some ⟨x6, 0, none⟩), .bool false] 149 (0, 0)) * own 5 1 y15 snap.length (B snap) * own 63 1 y16 y18.length (Fl encV y18) * pts bz12 (.cells #[.int .i64 z.2.1] 3 (0, 0)) * pts bz13 (.cells #[z.2.2.1] 57 (0, 0)) * own 9 1 z.2.2.1 z.2.2.2.length (Fl encS z.2.2.2)) (fun i z => z.2.1 = (i : Int) ∧ z.2.2.2 = (y18.map Prod.snd).take i) (fun _ _ => False) (J * y9 * pts jp (.cells #[y5, .bool has, y6, .pointer (some ⟨x6, 0, none⟩), .bool true] 149 (0, 0)) * own 5 1 y5 (snap).length (B (snap)) * own 63 1 y6 (y8).length (Fl encV (y8)) * ownsB 5 (y8) * y19, 0, .slice none 0 0, []) ⟨rfl, by simp⟩ ?_ (fun RR l rc j z uu J3 hj hz hgo _ _ => ?_) (fun z J3 D hz => ?_) (fun c z J3 D hz => hz.elim)
            · show _ * pts bz12 (.cells #[.int .i64 0] 3 (0, 0)) * pts bz13 (.cells #[.slice none 0 0] 57 (0, 0)) * _ * _ * _ * _ * _ * _ * _ = _
              dsimp only
              simp only [← sep_assoc]
              exact (frc (frl (frl (frl (frl (frl (frl (frl (frl (frl (frl (frl (frl (frl (frl (frl (frl (frl (frl rfl)))))))))))))))))) (frc (frl (frl (frl rfl))) (frc (frl rfl) (frc (frl rfl) (frc rfl (frc (frl (frl (frl rfl))) (frc (frl (frl (frl rfl))) (frc rfl (frc rfl (frc rfl (frc rfl (frc rfl (frc (frl (frl (frl (frl (frl (frl rfl)))))) (frc (frl (frl (frl (frl (frl (frl rfl)))))) (frc (frl (frl (frl (frl (frl (frl rfl)))))) (frc (frl (frl (frl (frl (frl (frl rfl)))))) rfl))))))))))))))))
            · obtain ⟨J2, nk, nv, ys⟩ := z
              obtain ⟨hz1, hz2⟩ : nk = (j : Int) ∧ ys = (y18.map Prod.snd).take j := hz
              subst hz1
              dsimp only at hgo ⊢
              have hyl : ys.length ≤ 4194304 := by rw [hz2, List.length_take, List.length_map]; omega
              have hbi := hb _ (getD_mem hj)
              have hyn : ys ++ [(y18.getD j default).2] = (y18.map Prod.snd).take (j + 1) := by rw [hz2, take_next (by simpa using hj), snd_get hj]
              rcases Nat.lt_or_ge j recs.length with hjr | hjr
              · have hbd : (y18.getD j default).2 = (recs.map Prod.snd).getD j default := by
                  rw [← snd_get hj, y20, List.getD_eq_getElem?_getD, List.getElem?_append_left (by rw [List.length_map]; omega), ← List.getD_eq_getElem?_getD]
                refine Run.region ?_
                refine RunL.ok (OpOk.assign rfl) rfl ?_
                refine RunL.nil ?_
                refine Run.beginRound ?_
                refine Run.block ?_
                refine Run.seq ?_
                refine Run.seq ?_
                refine Run.know (fun w s => (s.conv (frl (frl (frl rfl)))).ownRd0) (fun rdt1 => ?_)
                refine Run.know (fun w s => (s.conv (frl (frl rfl))).ownRd0) (fun rdt2 => ?_)
                (apply Run.drawD [] (by rfl) (sep_emp _).symm; case hchk => kernel_rfl)
                refine Sd.quiet 0 _ _ rfl rfl rfl rfl rfl (QOp.ok (fun X => OpOk.load rfl rfl rfl (Blk.out Blk.pts.left.left.left.left.left.left.left _ _ (by first | rfl | assumption)))) ?_
                refine Sd.quiet 1 _ _ rfl rfl rfl rfl rfl (QOp.ok (fun X => OpOk.load rfl rfl rfl (Blk.out Blk.pts.left.left.left.left.left.left.left.left.left.left.left.left.left.left.left _ _ (by first | rfl | assumption)))) ?_
                refine Sd.quiet 2 _ _ rfl rfl rfl rfl rfl (QOp.ok (fun X => OpOk.lenR rfl rfl (Rd.right rdz1).left.left.left.left.left.left.left.left.left.left.left.left.left.left rfl)) ?_
                refine Sd.quiet 3 _ _ rfl rfl rfl rfl rfl (QOp.ok (fun X => OpOk.asT (OpOk.lss rfl rfl) (by omega))) ?_
                refine Sd.quiet 4 _ _ rfl rfl rfl rfl rfl (QOp.ok (fun X => OpOk.move rfl)) ?_
                refine Sd.quiet 5 _ _ rfl rfl rfl rfl rfl (QOp.ok (fun X => OpOk.move rfl)) ?_
                refine Sd.quiet 6 _ _ rfl rfl rfl rfl rfl (QOp.ok (fun X => OpOk.strOf rfl rfl rfl rfl (Rd.right rdt2).left.left.left.left)) ?_
                refine Sd.quiet 7 _ _ rfl rfl rfl rfl rfl (QOp.ok (fun X => OpOk.load rfl rfl rfl (Blk.out Blk.pts.left.left.left.left.left.left.left.left.left.left.left.left.left.left.left _ _ (by first | rfl | assumption)))) ?_
                refine Sd.quiet 8 _ _ rfl rfl rfl rfl rfl (QOp.ok (fun X => OpOk.load rfl rfl rfl (Blk.out Blk.pts.left.left.left.left.left.left.left _ _ (by first | rfl | assumption)))) ?_
                refine Sd.quiet 9 _ _ rfl rfl rfl rfl rfl (QOp.ok (fun X => OpOk.idx1N rfl ti9 rfl (Rd.right rdz1).left.left.left.left.left.left.left.left.left.left.left.left.left.left rfl (by omega))) ?_
                refine Sd.quiet 10 _ _ rfl rfl rfl rfl rfl (QOp.ok (fun X => OpOk.loadStr rfl rfl rfl (Rd.right rdz1).left.left.left.left.left.left.left.left.left.left.left.left.left.left (by omega))) ?_
                refine Sd.quiet 11 _ _ rfl rfl rfl rfl rfl (QOp.ok (fun X => OpOk.as (c := false) (OpOk.neqSS rfl rfl) (by rw [decide_eq_true (by omega)]; rfl))) ?_
                refine Sd.quiet 12 _ _ rfl rfl rfl rfl rfl (QOp.ok (fun X => OpOk.pickT rfl rfl)) ?_
                refine Sd.quiet 13 _ _ rfl rfl rfl rfl rfl (QOp.ok (fun X => OpOk.move rfl)) ?_
                refine Sd.quiet 14 _ _ rfl rfl rfl rfl rfl (QOp.ok (fun X => OpOk.load rfl rfl rfl (Blk.out Blk.pts.left.left.left.left.left.left.left _ _ (by first | rfl | assumption)))) ?_
                refine Sd.quiet 15 _ _ rfl rfl rfl rfl rfl (QOp.ok (fun X => OpOk.load rfl rfl rfl (Blk.out Blk.pts.left.left.left.left.left.left.left.left.left.left.left.left.left.left.left _ _ (by first | rfl | assumption)))) ?_
                refine Sd.quiet 16 _ _ rfl rfl rfl rfl rfl (QOp.ok (fun X => OpOk.lenR rfl rfl (Rd.right rdz1).left.left.left.left.left.left.left.left.left.left.left.left.left.left rfl)) ?_
                refine Sd.quiet 17 _ _ rfl rfl rfl rfl rfl (QOp.ok (fun X => OpOk.asF (OpOk.geq rfl rfl) (by omega))) ?_
                refine Sd.quiet 18 _ _ rfl rfl rfl rfl rfl (QOp.ok (fun X => OpOk.move rfl)) ?_
                refine Sd.skip 19 _ rfl rfl rfl rfl rfl ?_
                refine Sd.skip 20 _ rfl rfl rfl rfl rfl ?_
                refine Sd.skip 21 _ rfl rfl rfl rfl rfl ?_
                refine Sd.skip 22 _ rfl rfl rfl rfl rfl ?_
                refine Sd.skip 23 _ rfl rfl rfl rfl rfl ?_
                refine Sd.skip 24 _ rfl rfl rfl rfl rfl ?_
                refine Sd.skip 25 _ rfl rfl rfl rfl rfl ?_
                refine Sd.skip 26 _ rfl rfl rfl rfl rfl ?_
                refine Sd.skip 27 _ rfl rfl rfl rfl rfl ?_
                refine Sd.skip 28 _ rfl rfl rfl rfl rfl ?_
                refine Sd.skip 29 _ rfl rfl rfl rfl rfl ?_
                refine Sd.skip 30 _ rfl rfl rfl rfl rfl ?_
                refine Sd.quiet 31 _ _ rfl rfl rfl rfl rfl (QOp.ok (fun X => OpOk.pickF rfl rfl)) ?_
                refine Sd.quiet 32 _ _ rfl rfl rfl rfl rfl (QOp.ok (fun X => OpOk.pickF rfl rfl)) ?_
                (apply Sd.tail; case hall => kernel_rfl)
                refine RunL.mem (fl2 (sep_emp _) (sep_emp _)) ?_
                refine RunL.nil ?_
                refine Run.condF rfl ?_
                refine Run.skip ?_
                refine Run.seq ?_
                refine Run.region ?_
                refine RunL.ok (OpOk.load rfl rfl rfl (Blk.out Blk.pts.left.left.left.left _ _ (by first | rfl | assumption))) rfl ?_
                refine RunL.ok (OpOk.move rfl) rfl ?_
                refine RunL.ok (OpOk.strOf rfl rfl rfl rfl (Rd.right rdt2).left.left) rfl ?_
                refine RunL.litS (ss := [(y18.getD j default).snd]) rfl ti9 rfl rfl rfl (by decide) rfl (fun vt3 rdt3 => ?_)
                refine RunL.know (fun w s => (s.conv rfl).ownRd0) (fun rdt5 => ?_)
                refine RunL.appendF rfl ti9 rfl rfl rfl (frl (frl (frl (frl rfl)))) (Rd.right rdt5) rfl (by decide) (by omega) (by simp only [maxLen]; omega) rfl (fun vt4 rdt4 => ?_)
                refine RunL.know (fun w s => (s.conv rfl).ownRd0) (fun rdt6 => ?_)
                refine RunL.store ti57 rfl rfl (Rd.one rdt6) (frl (frl (frl (frl (frl rfl))))) (by exact Nat.le_of_ble_eq_true rfl) (.inl rfl) ?_
                refine RunL.nil ?_
                refine Run.region ?_
                refine RunL.ok (OpOk.load rfl rfl rfl (Blk.out Blk.pts.left.left.left.left.left.left _ _ (by first | rfl | assumption))) rfl ?_
                refine RunL.ok (OpOk.addN _ 1 rfl rfl rfl rfl (by omega)) rfl ?_
                refine RunL.store ti3 rfl rfl rfl (frl (frl (frl (frl (frl (frl rfl)))))) (by exact Nat.le_of_ble_eq_true rfl) (.inl rfl) ?_
                refine RunL.nil ?_
                refine Run.inBlock ?_
                rw [show ys.length + 1 = (ys ++ [(y18.getD j default).2]).length by simp]
                refine Run.jump ((hgo (_, ((j + 1 : Nat) : Int), vt4, ys ++ [(y18.getD j default).2]) ⟨rfl, hyn⟩ [])) trivial (Grew.of (Eq.trans (frc (frl (frl (frl (frl rfl)))) (frc (frl (frl (frl (frl rfl)))) (frc (frl (frl rfl)) (frc (frl rfl) (frc rfl (frc (frl (frl rfl)) (frc (frl (frl rfl)) (frc (frl (frl rfl)) (frc (frl (frl rfl)) (frc (frl (frl rfl)) (frc (frl (frl rfl)) (frc (frl (frl rfl)) (frc (frl (frl rfl)) (frc (frl (frl rfl)) rfl)))))))))))))) (congrArg (· * _) (congrArg (· * _) (congrArg (· * _) (congrArg (· * _) (congrArg (· * _) (congrArg (· * _) (congrArg (· * _) (congrArg (· * _) (congrArg (· * _) (congrArg (· * _) (congrArg (· * _) (congrArg (· * _) (congrArg (· * _) (congrArg (· * _) (asg (asg as1))))))))))))))))) (Grew.refl _))
              · have hmo : j - (recs.map Prod.snd).length < ol.length := by omega
                have rdm : Rd w0 (old w0) (ol.getD (j - (recs.map Prod.snd).length) default).1 1 (ol.getD (j - (recs.map Prod.snd).length) default).2.length (B (ol.getD (j - (recs.map Prod.snd).length) default).2) := alo.get hmo
                have hvm := Fl_V ol (j - (recs.map Prod.snd).length) hmo
                have hbd : (y18.getD j default).2 = (ol.getD (j - (recs.map Prod.snd).length) default).2 := by
                  rw [← snd_get hj, y20, List.getD_eq_getElem?_getD, List.getElem?_append_right (by rw [List.length_map]; omega), List.getElem?_take, if_pos (by omega), ← List.getD_eq_getElem?_getD, snd_get hmo]
                have hbm : (ol.getD (j - (recs.map Prod.snd).length) default).2.length ≤ 65535 := by rw [← hbd]; exact hbi
                refine Run.region ?_
                refine RunL.ok (OpOk.assign rfl) rfl ?_
                refine RunL.nil ?_
                refine Run.beginRound ?_
                refine Run.block ?_
                refine Run.seq ?_
                refine Run.seq ?_
                refine Run.know (fun w s => (s.conv (frl (frl (frl rfl)))).ownRd0) (fun rdt1 => ?_)
                refine Run.know (fun w s => (s.conv (frl (frl rfl))).ownRd0) (fun rdt2 => ?_)
                (apply Run.drawD [] (by rfl) (sep_emp _).symm; case hchk => kernel_rfl)
                refine Sd.quiet 0 _ _ rfl rfl rfl rfl rfl (QOp.ok (fun X => OpOk.load rfl rfl rfl (Blk.out Blk.pts.left.left.left.left.left.left.left _ _ (by first | rfl | assumption)))) ?_
                refine Sd.quiet 1 _ _ rfl rfl rfl rfl rfl (QOp.ok (fun X => OpOk.load rfl rfl rfl (Blk.out Blk.pts.left.left.left.left.left.left.left.left.left.left.left.left.left.left.left _ _ (by first | rfl | assumption)))) ?_
                refine Sd.quiet 2 _ _ rfl rfl rfl rfl rfl (QOp.ok (fun X => OpOk.lenR rfl rfl (Rd.right rdz1).left.left.left.left.left.left.left.left.left.left.left.left.left.left rfl)) ?_
                refine Sd.quiet 3 _ _ rfl rfl rfl rfl rfl (QOp.ok (fun X => OpOk.asF (OpOk.lss rfl rfl) (by omega))) ?_
                refine Sd.quiet 4 _ _ rfl rfl rfl rfl rfl (QOp.ok (fun X => OpOk.move rfl)) ?_
                refine Sd.skip 5 _ rfl rfl rfl rfl rfl ?_
                refine Sd.skip 6 _ rfl rfl rfl rfl rfl ?_
                refine Sd.skip 7 _ rfl rfl rfl rfl rfl ?_
                refine Sd.skip 8 _ rfl rfl rfl rfl rfl ?_
                refine Sd.skip 9 _ rfl rfl rfl rfl rfl ?_
                refine Sd.skip 10 _ rfl rfl rfl rfl rfl ?_
                refine Sd.skip 11 _ rfl rfl rfl rfl rfl ?_
                refine Sd.quiet 12 _ _ rfl rfl rfl rfl rfl (QOp.ok (fun X => OpOk.pickF rfl rfl)) ?_
                refine Sd.quiet 13 _ _ rfl rfl rfl rfl rfl (QOp.ok (fun X => OpOk.move rfl)) ?_
                refine Sd.quiet 14 _ _ rfl rfl rfl rfl rfl (QOp.ok (fun X => OpOk.load rfl rfl rfl (Blk.out Blk.pts.left.left.left.left.left.left.left _ _ (by first | rfl | assumption)))) ?_
                refine Sd.quiet 15 _ _ rfl rfl rfl rfl rfl (QOp.ok (fun X => OpOk.load rfl rfl rfl (Blk.out Blk.pts.left.left.left.left.left.left.left.left.left.left.left.left.left.left.left _ _ (by first | rfl | assumption)))) ?_
                refine Sd.quiet 16 _ _ rfl rfl rfl rfl rfl (QOp.ok (fun X => OpOk.lenR rfl rfl (Rd.right rdz1).left.left.left.left.left.left.left.left.left.left.left.left.left.left rfl)) ?_
                refine Sd.quiet 17 _ _ rfl rfl rfl rfl rfl (QOp.ok (fun X => OpOk.asT (OpOk.geq rfl rfl) (by omega))) ?_
                refine Sd.quiet 18 _ _ rfl rfl rfl rfl rfl (QOp.ok (fun X => OpOk.move rfl)) ?_
                refine Sd.quiet 19 _ _ rfl rfl rfl rfl rfl (QOp.ok (fun X => OpOk.move rfl)) ?_
                refine Sd.quiet 20 _ _ rfl rfl rfl rfl rfl (QOp.ok (fun X => OpOk.strOf rfl rfl rfl rfl (Rd.right rdt2).left.left.left.left)) ?_
                refine Sd.quiet 21 _ _ rfl rfl rfl rfl rfl (QOp.ok (fun X => OpOk.fieldAddr fld60_2 rfl)) ?_
                refine Sd.quiet 22 _ _ rfl rfl rfl rfl rfl (QOp.ok (fun X => OpOk.load rfl rfl rfl (Blk.out Blk.pts.left.left.left.left.left.left.left.left.left.left.left.left.left _ _ (by first | rfl | assumption)))) ?_
                refine Sd.quiet 23 _ _ rfl rfl rfl rfl rfl (QOp.ok (fun X => OpOk.load rfl rfl rfl (Blk.out Blk.pts.left.left.left.left.left.left.left _ _ (by first | rfl | assumption)))) ?_
                refine Sd.quiet 24 _ _ rfl rfl rfl rfl rfl (QOp.ok (fun X => OpOk.load rfl rfl rfl (Blk.out Blk.pts.left.left.left.left.left.left.left.left.left.left.left.left.left.left.left _ _ (by first | rfl | assumption)))) ?_
                refine Sd.quiet 25 _ _ rfl rfl rfl rfl rfl (QOp.ok (fun X => OpOk.lenR rfl rfl (Rd.right rdz1).left.left.left.left.left.left.left.left.left.left.left.left.left.left rfl)) ?_
                refine Sd.quiet 26 _ _ rfl rfl rfl rfl rfl (QOp.ok (fun X => OpOk.subN _ _ rfl rfl rfl rfl (by omega) (by omega))) ?_
                refine Sd.quiet 27 _ _ rfl rfl rfl rfl rfl (QOp.ok (fun X => OpOk.idx1N rfl ti63 rfl rdo.left.left.left.left.left.left.left.left.left.left.left.left.left.left.left.left.left.left rfl (by omega))) ?_
                refine Sd.quiet 28 _ _ rfl rfl rfl rfl rfl (QOp.ok (fun X => OpOk.loadRow default rfl rfl rfl rdo.left.left.left.left.left.left.left.left.left.left.left.left.left.left.left.left.left.left (fun _ => rfl) (by omega) rfl)) ?_
                (refine Sd.exec 29 rfl rfl rfl rfl rfl ?hrest (by rfl) (fun Xt3 Kt3 hKt3 => ?_); case hrest => kernel_rfl)
                refine RunL.mem (fl2 (sep_emp _) (sep_emp _)) ?_
                rw [Nat.sub_eq]
                refine RunL.ok (OpOk.strOf rfl rfl rfl rfl rdm.left.left.left.left.left.left.left.left.left.left.left.left.left.left.left.left.left) rfl ?_
                refine Sd.ret hKt3 (Eq.trans rfl (gp2 (sep_emp _).symm (sep_emp _).symm)) ⟨emp, (sep_emp _).symm⟩ ?_
                refine Sd.quiet 30 _ _ rfl rfl rfl rfl rfl (QOp.ok (fun X => OpOk.as (c := false) (OpOk.neqSS rfl rfl) (by rw [decide_eq_true (by omega)]; rfl))) ?_
                refine Sd.quiet 31 _ _ rfl rfl rfl rfl rfl (QOp.ok (fun X => OpOk.pickT rfl rfl)) ?_
                refine Sd.quiet 32 _ _ rfl rfl rfl rfl rfl (QOp.ok (fun X => OpOk.pickF rfl rfl)) ?_
                (apply Sd.tail; case hall => kernel_rfl)
                refine RunL.mem (fl2 (sep_emp _) (sep_emp _)) ?_
                refine RunL.nil ?_
                refine Run.condF rfl ?_
                refine Run.skip ?_
                refine Run.seq ?_
                refine Run.region ?_
                refine RunL.ok (OpOk.load rfl rfl rfl (Blk.out Blk.pts.left.left.left.left _ _ (by first | rfl | assumption))) rfl ?_
                refine RunL.ok (OpOk.move rfl) rfl ?_
                refine RunL.ok (OpOk.strOf rfl rfl rfl rfl (Rd.right rdt2).left.left) rfl ?_
                refine RunL.litS (ss := [(y18.getD j default).snd]) rfl ti9 rfl rfl rfl (by decide) rfl (fun vs1 rds1 => ?_)
                refine RunL.know (fun w s => (s.conv rfl).ownRd0) (fun rds3 => ?_)
                refine RunL.appendF rfl ti9 rfl rfl rfl (frl (frl (frl (frl rfl)))) (Rd.right rds3) rfl (by decide) (by omega) (by simp only [maxLen]; omega) rfl (fun vs2 rds2 => ?_)
                refine RunL.know (fun w s => (s.conv rfl).ownRd0) (fun rds4 => ?_)
                refine RunL.store ti57 rfl rfl (Rd.one rds4) (frl (frl (frl (frl (frl rfl))))) (by exact Nat.le_of_ble_eq_true rfl) (.inl rfl) ?_
                refine RunL.nil ?_
                refine Run.region ?_
                refine RunL.ok (OpOk.load rfl rfl rfl (Blk.out Blk.pts.left.left.left.left.left.left _ _ (by first | rfl | assumption))) rfl ?_
                refine RunL.ok (OpOk.addN _ 1 rfl rfl rfl rfl (by omega)) rfl ?_
                refine RunL.store ti3 rfl rfl rfl (frl (frl (frl (frl (frl (frl rfl)))))) (by exact Nat.le_of_ble_eq_true rfl) (.inl rfl) ?_
                refine RunL.nil ?_
                refine Run.inBlock ?_
                rw [show ys.length + 1 = (ys ++ [(y18.getD j default).2]).length by simp]
                refine Run.jump ((hgo (_, ((j + 1 : Nat) : Int), vs2, ys ++ [(y18.getD j default).2]) ⟨rfl, hyn⟩ [])) trivial (Grew.of (Eq.trans (frc (frl (frl (frl (frl rfl)))) (frc (frl (frl (frl (frl rfl)))) (frc (frl (frl rfl)) (frc (frl rfl) (frc rfl (frc (frl (frl rfl)) (frc (frl (frl rfl)) (frc (frl (frl rfl)) (frc (frl (frl rfl)) (frc (frl (frl rfl)) (frc (frl (frl rfl)) (frc (frl (frl rfl)) (frc (frl (frl rfl)) (frc (frl (frl rfl)) rfl)))))))))))))) (congrArg (· * _) (congrArg (· * _) (congrArg (· * _) (congrArg (· * _) (congrArg (· * _) (congrArg (· * _) (congrArg (· * _) (congrArg (· * _) (congrArg (· * _) (congrArg (· * _) (congrArg (· * _) (congrArg (· * _) (congrArg (· * _) (congrArg (· * _) (asg (asg as1))))))))))))))))) (Grew.refl _))
            · obtain ⟨J2, nk, nv, ys⟩ := z
              obtain ⟨hz1, hz2⟩ : nk = (y18.length : Int) ∧ ys = (y18.map Prod.snd).take y18.length := hz
              subst hz1
              dsimp only
              have hys2 : ys = y18.map Prod.snd := by rw [hz2]; exact List.take_of_length_le (by simp)
              subst hys2
              refine Run.inBlock ?_
              refine Run.region ?_
              refine RunL.ok (OpOk.load rfl rfl rfl (Blk.out Blk.pts.left.left.left.left _ _ (by first | rfl | assumption))) rfl ?_
              refine RunL.know (fun w s => (s.conv (frl (frl (frl rfl)))).ownRd0) (fun rdt1 => ?_)
              refine RunL.store ti57 rfl rfl (Rd.one rdt1) (frl (frl (frl (frl (frl (frl (frl (frl (frl (frl (frl (frl (frl rfl))))))))))))) (by exact Nat.le_of_ble_eq_true rfl) (.inl rfl) ?_
              refine RunL.nil ?_
              refine Run.inBlock ?_
              refine Run.region ?_
              refine RunL.ok (OpOk.move rfl) rfl ?_
              refine RunL.ok (OpOk.addN _ 1 rfl rfl rfl rfl (by omega)) rfl ?_
              refine RunL.ok (OpOk.assign rfl) rfl ?_
              refine RunL.nil ?_
              refine Run.jump ((ih (i + 1, D :: ds, _, (max (-1) (-1), cut, y17), (y14, y15, y16, snap, has), nv, y18) ⟨by dsimp only; omega, by dsimp only; omega, htq, by dsimp only; omega, (by decide : max (-1 : Int) (-1) ≤ 9223372036854775807)⟩ (by dsimp only; omega))) ⟨rfl, rfl, rfl, rfl, rfl, rfl, trivial⟩ (Grew.of (Eq.trans (frc (frl rfl) (frc (frl (frl (frl rfl))) (frc (frl (frl rfl)) (frc (frl (frl (frl (frl rfl)))) (frc (frl (frl (frl (frl rfl)))) (frc (frl (frl (frl (frl rfl)))) (frc (frl (frl (frl (frl rfl)))) (frc (frl (frl (frl (frl rfl)))) (frc rfl (frc (frl (frl (frl (frl (frl rfl))))) rfl)))))))))) (congrArg (· * _) (congrArg (· * _) (congrArg (· * _) (congrArg (· * _) (congrArg (· * _) (congrArg (· * _) (congrArg (· * _) (congrArg (· * _) (congrArg (· * _) (congrArg (· * _) (asg (asg (asg (asg (asg as1)))))))))))))))) (Grew.refl _))
      · refine Run.seq ?_
        refine Run.seq ?_
        refine Run.region ?_
        refine RunL.ok (OpOk.move rfl) rfl ?_
        refine RunL.ok (OpOk.move rfl) rfl ?_
        refine RunL.ok (OpOk.lenR rfl rfl rd.left.left.left.left.left.left.left.left.left.left.left rfl) rfl ?_
        refine RunL.ok (OpOk.asT (OpOk.lss rfl rfl) (by omega)) rfl ?_
        refine RunL.ok (OpOk.move rfl) rfl ?_
        refine RunL.on rfl rfl ?_
        refine RunL.ok (OpOk.move rfl) rfl ?_
        refine RunL.on rfl rfl ?_
        refine RunL.ok (OpOk.asF (OpOk.lss rfl rfl) (by omega)) rfl ?_
        refine RunL.ok (OpOk.pickT rfl rfl) rfl ?_
        refine RunL.nil ?_
        refine Run.condF rfl ?_
        refine Run.exit rfl ?_
        refine Run.seq ?_
        refine Run.region ?_
        refine RunL.store ti4 rfl rfl rfl (frl (frl (frl (frl (frl (frl (frl (frl (frl rfl))))))))) (by exact Nat.le_of_ble_eq_true rfl) (.inl rfl) ?_
        refine RunL.nil ?_
        refine Run.mem (frc (frl rfl) rfl) ?_
        refine Run.shut ?_
        refine Run.retC1 (A' := _) Try.func6 rfl rfl rfl rfl Blk.pts rfl (Grew.refl _) ?_
        exact ⟨rfl, ⟨_, (asg (asg (asg (asg (asg (asg (asg (asg (asg as1)))))))))⟩⟩
    · refine Run.seq ?_
      refine Run.seq ?_
      refine Run.region ?_
      refine RunL.ok (OpOk.move rfl) rfl ?_
      refine RunL.ok (OpOk.move rfl) rfl ?_
      refine RunL.ok (OpOk.lenR rfl rfl rd.left.left.left.left.left.left.left.left.left.left.left rfl) rfl ?_
      refine RunL.ok (OpOk.asF (OpOk.lss rfl rfl) (by omega)) rfl ?_
      refine RunL.ok (OpOk.move rfl) rfl ?_
      refine RunL.off rfl rfl rfl rfl ?_
      refine RunL.off rfl rfl rfl rfl ?_
      refine RunL.ok (OpOk.pickF rfl rfl) rfl ?_
      refine RunL.nil ?_
      refine Run.condF rfl ?_
      refine Run.exit rfl ?_
      refine Run.seq ?_
      refine Run.region ?_
      refine RunL.store ti4 rfl rfl rfl (frl (frl (frl (frl (frl (frl (frl (frl (frl rfl))))))))) (by exact Nat.le_of_ble_eq_true rfl) (.inl rfl) ?_
      refine RunL.nil ?_
      refine Run.mem (frc (frl rfl) rfl) ?_
      refine Run.shut ?_
      refine Run.retC1 (A' := _) Try.func6 rfl rfl rfl rfl Blk.pts rfl (Grew.refl _) ?_
      exact ⟨rfl, ⟨_, (asg (asg (asg (asg (asg (asg (asg (asg (asg as1)))))))))⟩⟩
end
end Go.Proofs.Yteopadjihklkmaa
