/- Part 15 of the proof of ShellChanges. -/
import Derived.Test.YteopadjihklkmaaMShellChanges14
section
namespace Go.Proofs.Yteopadjihklkmaa
open Go Go.Proofs
set_option maxRecDepth 100000
set_option maxHeartbeats 4000000
set_option linter.unusedSimpArgs false
set_option linter.unusedVariables false
section
variable {w0 : World} {A : Asn} {a b q k o i s f : Int} {ad : Option Addr} {m cap n t kk : Nat} {es : List En} {u : Value} {bs xs : List UInt8}
theorem changes_spec {id : Int} {cs : List Ch} (rd : Rd w0 A u 7 cs.length (Fl encT113 cs)) (al : Alls (GC w0) A cs) (al2 : ∀ c ∈ cs, c.2.2.1.length ≤ 140737488355328 ∧ c.2.2.2.2 ≤ 9223372036854775807) :
    Spec Try.prog w0 13 [.int .i64 id, u] A (fun v' A' => ∃ J, v' = .bool true ∧ A' = A * J) := by
  have hmx := rd.max
  have hz0 : (List.replicate 512 (0 : UInt8)).length = 512 := by simp
  have hn := id_named id
  obtain ⟨g1, g2, g3, g4⟩ := id_facts id
  obtain ⟨hS, hc, hi⟩ := fmt_says hz0 hn
  generalize hys : fmtF (List.replicate 512 0) (1 + (id.tmod 65535 + 65535) % 65535) 1 = ys at hS hc hi
  refine Spec.of_run [(0, .int .i64 id), (1, u)] Try.func13 rfl (Nat.le_of_ble_eq_true rfl) (by repeat (first | exact trivial | refine ⟨rfl, ?_⟩)) ?_
  refine Run.seq ?_
  refine Run.region ?_
  refine RunL.ok (OpOk.assign rfl) rfl ?_
  refine RunL.nil ?_
  refine Run.seq ?_
  refine Run.seq ?_
  refine Run.region ?_
  refine RunL.call cal37 rfl (s37) rfl (fun vx1 Ax1 hx1 => ?_)
  obtain ⟨x2, ⟨rfl, rfl⟩⟩ := hx1
  refine RunL.ok (OpOk.not rfl) rfl ?_
  refine RunL.nil ?_
  refine Run.condF rfl ?_
  refine Run.skip ?_
  refine Run.seq ?_
  refine Run.region ?_
  refine RunL.call cal55 rfl (s55) rfl (fun vx3 Ax3 hx3 => ?_)
  obtain ⟨x4, ⟨rfl, rfl⟩⟩ := hx3
  refine RunL.ok (OpOk.assign rfl) rfl ?_
  refine RunL.nil ?_
  refine Run.seq ?_
  refine Run.seq ?_
  refine Run.region ?_
  refine RunL.ok (OpOk.move rfl) rfl ?_
  refine RunL.ok (OpOk.eqlPN rfl rfl) rfl ?_
  refine RunL.ok (OpOk.move rfl) rfl ?_
  refine RunL.on rfl rfl ?_
  refine RunL.ok (OpOk.move rfl) rfl ?_
  refine RunL.on rfl rfl ?_
  refine RunL.ok (OpOk.move rfl) rfl ?_
  refine RunL.on rfl rfl ?_
  refine RunL.ok (OpOk.rem rfl rfl (by decide) rfl) rfl ?_
  refine RunL.on rfl rfl ?_
  refine RunL.ok (OpOk.add rfl rfl (wrapI (by omega) (by omega))) rfl ?_
  refine RunL.on rfl rfl ?_
  refine RunL.ok (OpOk.rem rfl rfl (by decide) (tmodI (by omega))) rfl ?_
  refine RunL.on rfl rfl ?_
  refine RunL.ok (OpOk.add rfl rfl (wrapI (by omega) (by omega))) rfl ?_
  refine RunL.on rfl rfl ?_
  refine RunL.call cal51 rfl (s51d (by assumption) rfl (by omega)) rfl (fun vx8 Ax8 hx8 => ?_)
  obtain ⟨x9, ⟨rfl, rfl⟩⟩ := hx8
  refine RunL.on rfl rfl ?_
  refine RunL.ok (OpOk.as (c := false) (OpOk.neq rfl rfl) (by rw [decide_eq_true (by omega)]; rfl)) rfl ?_
  refine RunL.ok (OpOk.pickF rfl rfl) rfl ?_
  refine RunL.nil ?_
  refine Run.condF rfl ?_
  refine Run.skip ?_
  refine Run.seq ?_
  refine Run.seq ?_
  refine Run.region ?_
  refine RunL.ok (OpOk.assign rfl) rfl ?_
  refine RunL.nil ?_
  refine Run.block ?_
  rw [hys]
  refine Run.jump ((Run.loopJ (X := Nat × Asn × List UInt8 × Int × Nat × List En) (fun x => [(6, .int .i64 (x.1 : Int)), (5, .pointer (some ⟨x4, 0, none⟩)), (1, u)]) (fun x => A * x.2.1 * pts x4 (.cells (B (x.2.2.1) ++ [Value.int .i64 (-1)]).toArray 177 (0, 0))) (fun x => x.1 ≤ cs.length ∧ x.1 ≤ 60 ∧ Says x.2.2.1 x.2.2.2.1 x.2.2.2.2.1 x.2.2.2.2.2) (fun x => cs.length - x.1) (0, _, ys, 1, 1, []) ⟨Nat.zero_le _, Nat.zero_le _, hS⟩ (fun x hx ih => ?_))) ⟨rfl, rfl, rfl, trivial⟩ (Grew.of (congrArg (· * _) (asg as1)) (Grew.refl _))
  obtain ⟨i, J, xs, q, t, es⟩ := x
  simp only at hx ih ⊢
  obtain ⟨hil, hi60, hSx⟩ := hx
  clear hS hc hi hys hz0 hn
  rcases Nat.lt_or_ge i cs.length with hlt | hge
  rcases Nat.lt_or_ge i 60 with hl6 | hg6
  · obtain ⟨c, hoe⟩ : ∃ c, cs.getD i default = c := ⟨_, rfl⟩
    have rdb0 : Rd w0 A (cs.getD i default).2.1.1 1 (cs.getD i default).2.2.1.length (B (cs.getD i default).2.2.1) := al.get hlt
    have hbs := al2 _ (getD_mem hlt)
    rw [hoe] at rdb0 hbs
    obtain ⟨⟨k, o, i2, s⟩, v, bs, f, n⟩ := c
    dsimp only at rdb0 hbs
    obtain ⟨hbs, hnm⟩ := hbs
    have hnm2 : max n (-1) ≤ 9223372036854775807 := by omega
    obtain ⟨a, ha⟩ : ∃ a, cardB (secOf xs 0) = a := ⟨_, rfl⟩
    obtain ⟨b, hb⟩ : ∃ b, issB (secOf xs 0) = b := ⟨_, rfl⟩
    have rw_a := ha
    have rw_b := hb
    have hxl0 := hSx.len
    have hq5 := hSx.facts.2.2.1
    have hq5b : es.length ≤ 1048576 := by omega
    have hbl := rdb0.max
    cases f with
    | true =>
      obtain ⟨kk0, hkk0⟩ : ∃ kk, (storesP q t es k o i2 bs).1.length = kk := ⟨_, rfl⟩
      obtain ⟨ff0, hff0⟩ : ∃ ff, (storesP q t es k o i2 bs).2.1 = ff := ⟨_, rfl⟩
      have hRI0 : RowsIs (storesP q t es k o i2 bs) kk0 ff0 := ⟨hkk0, hff0, (stores_ok hSx k o i2 bs).rows⟩
      obtain ⟨kk, hkk⟩ : ∃ kk, (dropsP q t es o i2).1.length = kk := ⟨_, rfl⟩
      obtain ⟨ff, hff⟩ : ∃ ff, (dropsP q t es o i2).2.1 = ff := ⟨_, rfl⟩
      have hC := drops_is hSx o i2
      have hRI : RowsIs (dropsP q t es o i2) kk ff := ⟨hkk, hff, hC.rows⟩
      by_cases hT : 0 ≤ n ∧ n < kk
      · have hE : errN (dropsP q t es o i2) (max n (-1)) = 30 := by rw [errN, hkk, if_pos (by omega)]
        have hD : donN (dropsP q t es o i2) (max n (-1)) = n.toNat := by rw [donN, hkk, if_pos (by omega), show max n (-1) = n by omega]
        obtain ⟨zs, hzs⟩ : ∃ zs, doneF xs ((dropsP q t es o i2).1.take n.toNat) = zs := ⟨_, rfl⟩
        have hO : OutIs xs (dropsP q t es o i2) (max n (-1)) a b q t zs 30 0 0 0 0 [] := ⟨hE, by rw [vwN, hE]; rfl, by rw [hD, hzs]⟩
        have hSz : Says zs q t es := by rw [← hzs]; exact hC.part _ (by omega)
        have hsm : secOf zs 0 = secOf xs 0 := by rw [← hzs]; exact hC.same _
        have rw_a2 : cardB (secOf zs 0) = a := by rw [hsm, ha]
        have rw_b2 : issB (secOf zs 0) = b := by rw [hsm, hb]
        have hzl := hSz.len
        obtain ⟨hT1, hT2⟩ := hT
        refine Run.seq ?_
        refine Run.seq ?_
        refine Run.region ?_
        refine RunL.ok (OpOk.move rfl) rfl ?_
        refine RunL.ok (OpOk.move rfl) rfl ?_
        refine RunL.ok (OpOk.lenR rfl rfl rd.left.left rfl) rfl ?_
        refine RunL.ok (OpOk.asT (OpOk.lss rfl rfl) (by omega)) rfl ?_
        refine RunL.ok (OpOk.move rfl) rfl ?_
        refine RunL.on rfl rfl ?_
        refine RunL.ok (OpOk.move rfl) rfl ?_
        refine RunL.on rfl rfl ?_
        refine RunL.ok (OpOk.asT (OpOk.lss rfl rfl) (by omega)) rfl ?_
        refine RunL.ok (OpOk.pickT rfl rfl) rfl ?_
        refine RunL.nil ?_
        refine Run.condT rfl ?_
        refine Run.skip ?_
        refine Run.seq ?_
        refine Run.block ?_
        refine Run.seq ?_
        refine Run.region ?_
        refine RunL.ok (OpOk.move rfl) rfl ?_
        refine RunL.ok (OpOk.move rfl) rfl ?_
        refine RunL.ok (OpOk.idxN rfl ti113 rfl rd.left.left rfl (by omega)) rfl ?_
        refine RunL.ok (OpOk.loadFlE (by assumption) rfl rfl ti113 rfl rd.left.left (fun _ => rfl) rfl (by omega)) rfl ?_
        refine RunL.alloc ti113 rfl (fun bz1 => ?_)
        refine RunL.storeAll ti113 rfl rfl rfl (fun w hw => OneC.one (enc := encT113) (((k, o, i2, s), v, bs, true, n)) w hw) rfl rfl ?_
        refine RunL.nil ?_
        refine Run.seq ?_
        refine Run.region ?_
        refine RunL.ok (OpOk.move rfl) rfl ?_
        refine RunL.mem (frc (frl rfl) rfl) ?_
        refine RunL.call cal39 rfl (s39f (by assumption)) rfl (fun vz6 Az6 hz6 => ?_)
        obtain ⟨z7, ⟨z8, ⟨z9, ⟨rfl, rfl⟩⟩⟩⟩ := hz6
        refine RunL.ok (OpOk.move rfl) rfl ?_
        refine RunL.ok (OpOk.ext20 rfl) rfl ?_
        refine RunL.ok (OpOk.ext21 rfl) rfl ?_
        refine RunL.alloc ti86 rfl (fun bz10 => ?_)
        refine RunL.storeAll ti86 rfl rfl rfl (ones rfl) rfl rfl ?_
        refine RunL.ok (OpOk.assign rfl) rfl ?_
        refine RunL.nil ?_
        refine Run.seq ?_
        rw [rw_a]
        rw [rw_b]
        refine Run.region ?_
        refine RunL.ok (OpOk.move rfl) rfl ?_
        refine RunL.mem (frc (frl rfl) rfl) ?_
        refine RunL.call cal49 rfl (s49 (by assumption)) rfl (fun vz11 Az11 hz11 => ?_)
        obtain rfl := hz11
        refine RunL.ok (OpOk.assign rfl) rfl ?_
        refine RunL.nil ?_
        refine Run.seq ?_
        refine Run.seq ?_
        refine Run.region ?_
        refine RunL.ok (OpOk.move rfl) rfl ?_
        refine RunL.ok (OpOk.as (c := false) (OpOk.neq rfl rfl) (by rw [decide_eq_true (by omega)]; rfl)) rfl ?_
        refine RunL.ok (OpOk.move rfl) rfl ?_
        refine RunL.on rfl rfl ?_
        refine RunL.ok (OpOk.move rfl) rfl ?_
        refine RunL.on rfl rfl ?_
        refine RunL.know (fun w s => (s.conv rfl).ownRd0) (fun rdz12 => ?_)
        refine RunL.ok (OpOk.lenR rfl rfl (Rd.right rdz12) rfl) rfl ?_
        refine RunL.on rfl rfl ?_
        refine RunL.ok (OpOk.as (c := false) (OpOk.neq rfl rfl) (by rw [decide_eq_true (by omega)]; rfl)) rfl ?_
        refine RunL.ok (OpOk.pickF rfl rfl) rfl ?_
        refine RunL.nil ?_
        refine Run.condF rfl ?_
        refine Run.skip ?_
        refine Run.seq ?_
        refine Run.region ?_
        refine RunL.lit0B rfl ti5 rfl (fun vz13 rdz13 => ?_)
        refine RunL.ok (OpOk.fieldAddr fld113_1 rfl) rfl ?_
        refine RunL.ok (OpOk.load rfl rfl rfl (Blk.out Blk.pts.left.left.left.left.left.left _ _ (by first | rfl | assumption))) rfl ?_
        refine RunL.appendB0 rfl ti5 rfl rfl rfl rfl rdb0.left.left.left.left.left.left.left.left (by omega) rfl (fun vz14 rdz14 => ?_)
        refine RunL.ok (OpOk.assign rfl) rfl ?_
        refine RunL.nil ?_
        refine Run.seq ?_
        refine Run.know (fun w s => (s.conv (frl (frl (frl (frl rfl))))).ownRd0) (fun rdz15 => ?_)
        refine Run.know (fun w s => (s.conv rfl).ownRd0) (fun rdz16 => ?_)
        (apply Run.drawD [] (by rfl) (sep_emp _).symm; case hchk => kernel_rfl)
        refine Sd.quiet 0 _ _ rfl rfl rfl rfl rfl (QOp.ok (fun X => OpOk.loadS rfl rfl ti86 rfl Blk.pts.left.left.left.left.left rfl)) ?_
        refine Sd.quiet 2 _ _ rfl rfl rfl rfl rfl (QOp.ok (fun X => OpOk.fieldAddr fld113_0 rfl)) ?_
        refine Sd.quiet 3 _ _ rfl rfl rfl rfl rfl (QOp.ok (fun X => OpOk.loadSub rfl rfl ti111 rfl Blk.pts.left.left.left.left.left.left.left.left rfl rfl)) ?_
        refine Sd.quiet 4 _ _ rfl rfl rfl rfl rfl (QOp.ok (fun X => OpOk.fieldAddr fld113_1 rfl)) ?_
        refine Sd.quiet 5 _ _ rfl rfl rfl rfl rfl (QOp.ok (fun X => OpOk.load rfl rfl rfl (Blk.out Blk.pts.left.left.left.left.left.left.left.left _ _ (by first | rfl | assumption)))) ?_
        (refine Sd.exec 1 rfl rfl rfl rfl rfl ?hrest (by rfl) (fun Xz17 Kz17 hKz17 => ?_); case hrest => kernel_rfl)
        refine RunL.mem (fl2 (sep_emp _) (sep_emp _)) ?_
        refine RunL.call cal44 rfl (s44 (Rd.right rdz15).left.left.left.left.left (by assumption)) rfl (fun vz18 Az18 hz18 => ?_)
        obtain ⟨z19, ⟨z20, ⟨z21, ⟨rfl, rfl⟩⟩⟩⟩ := hz18
        refine RunL.know (fun w s => (s.conv rfl).ownRd0) (fun rdz22 => ?_)
        refine Sd.ret hKz17 (Eq.trans rfl (gp2 (sep_emp _).symm (asg rfl))) ⟨_, (emp_sep _).symm⟩ ?_
        (refine Sd.exec 6 rfl rfl rfl rfl rfl ?hrest (by rfl) (fun Xz23 Kz23 hKz23 => ?_); case hrest => kernel_rfl)
        refine RunL.mem (fl2 (flS rfl) (sep_emp _)) ?_
        refine RunL.call cal58 rfl (s58k (Rd.right rdz22) rdb0.left.left.left.left.left.left.left.left.left.left.left (by assumption) (by assumption)) rfl (fun vz24 Az24 hz24 => ?_)
        obtain ⟨z25, ⟨z26, ⟨z27, ⟨z28, ⟨rfl, ⟨z29, ⟨z30, ⟨z31, ⟨z32, rfl⟩⟩⟩⟩⟩⟩⟩⟩⟩ := hz24
        refine RunL.know (fun w s => (s.conv rfl).ownRd0) (fun rdz33 => ?_)
        refine Sd.ret hKz23 (Eq.trans rfl (gp2 (sep_emp _).symm (asg (asg (asg (asg rfl)))))) ⟨_, (asg (asg rfl))⟩ ?_
        refine Sd.quiet 7 _ _ rfl rfl rfl rfl rfl (QOp.ok (fun X => OpOk.move rfl)) ?_
        refine Sd.quiet 8 _ _ rfl rfl rfl rfl rfl (QOp.ok (fun X => OpOk.ext20 rfl)) ?_
        refine Sd.quiet 9 _ _ rfl rfl rfl rfl rfl (QOp.ok (fun X => OpOk.ext21 rfl)) ?_
        refine Sd.quiet 10 _ _ rfl rfl rfl rfl rfl (QOp.ok (fun X => OpOk.assign rfl)) ?_
        refine Sd.quiet 11 _ _ rfl rfl rfl rfl rfl (QOp.ok (fun X => OpOk.assign rfl)) ?_
        (apply Sd.tail; case hall => kernel_rfl)
        refine RunL.mem (fl2 (flS (flS (flS (flS rfl)))) (sep_emp _)) ?_
        refine RunL.nil ?_
        refine Run.seq ?_
        refine Run.seq ?_
        refine Run.region ?_
        refine RunL.ok (OpOk.fieldAddr fld113_2 rfl) rfl ?_
        refine RunL.ok (OpOk.load rfl rfl rfl (Blk.out Blk.pts.left.left.left.left.left.left.left.left.left.left.left _ _ (by first | rfl | assumption))) rfl ?_
        refine RunL.nil ?_
        refine Run.condT rfl ?_
        refine Run.drop [12, 13] ?_
        (apply Run.drawD [] (by rfl) (sep_emp _).symm; case hchk => kernel_rfl)
        refine Sd.quiet 0 _ _ rfl rfl rfl rfl rfl (QOp.ok (fun X => OpOk.loadS rfl rfl ti86 rfl Blk.pts.left.left.left.left.left.left.left.left.left.left rfl)) ?_
        refine Sd.quiet 2 _ _ rfl rfl rfl rfl rfl (QOp.ok (fun X => OpOk.fieldAddr fld113_0 rfl)) ?_
        refine Sd.quiet 3 _ _ rfl rfl rfl rfl rfl (QOp.ok (fun X => OpOk.fieldAddr fld111_1 rfl)) ?_
        refine Sd.quiet 4 _ _ rfl rfl rfl rfl rfl (QOp.ok (fun X => OpOk.load rfl rfl rfl (Blk.out Blk.pts.left.left.left.left.left.left.left.left.left.left.left.left.left _ _ (by first | rfl | assumption)))) ?_
        refine Sd.quiet 5 _ _ rfl rfl rfl rfl rfl (QOp.ok (fun X => OpOk.fieldAddr fld113_0 rfl)) ?_
        refine Sd.quiet 6 _ _ rfl rfl rfl rfl rfl (QOp.ok (fun X => OpOk.fieldAddr fld111_2 rfl)) ?_
        refine Sd.quiet 7 _ _ rfl rfl rfl rfl rfl (QOp.ok (fun X => OpOk.load rfl rfl rfl (Blk.out Blk.pts.left.left.left.left.left.left.left.left.left.left.left.left.left _ _ (by first | rfl | assumption)))) ?_
        (refine Sd.exec 1 rfl rfl rfl rfl rfl ?hrest (by rfl) (fun Xz34 Kz34 hKz34 => ?_); case hrest => kernel_rfl)
        refine RunL.mem (fl2 (sep_emp _) (sep_emp _)) ?_
        refine RunL.call cal44 rfl (s44 (Rd.right rdz15).left.left.left.left.left.left.left.left.left.left (by assumption)) rfl (fun vz35 Az35 hz35 => ?_)
        obtain ⟨z36, ⟨z37, ⟨z38, ⟨rfl, rfl⟩⟩⟩⟩ := hz35
        refine RunL.know (fun w s => (s.conv rfl).ownRd0) (fun rdz39 => ?_)
        refine Sd.ret hKz34 (Eq.trans rfl (gp2 (sep_emp _).symm (asg rfl))) ⟨_, (emp_sep _).symm⟩ ?_
        (refine Sd.exec 8 rfl rfl rfl rfl rfl ?hrest (by rfl) (fun Xz40 Kz40 hKz40 => ?_); case hrest => kernel_rfl)
        refine RunL.mem (fl2 (flS rfl) (sep_emp _)) ?_
        refine RunL.call cal59 rfl (s59k (Rd.right rdz39) (by assumption) (by assumption)) rfl (fun vz41 Az41 hz41 => ?_)
        obtain ⟨z42, ⟨z43, ⟨z44, ⟨z45, ⟨rfl, ⟨z46, ⟨z47, ⟨z48, ⟨z49, rfl⟩⟩⟩⟩⟩⟩⟩⟩⟩ := hz41
        refine RunL.know (fun w s => (s.conv rfl).ownRd0) (fun rdz50 => ?_)
        refine Sd.ret hKz40 (Eq.trans rfl (gp2 (sep_emp _).symm (asg (asg (asg (asg rfl)))))) ⟨_, (asg (asg rfl))⟩ ?_
        refine Sd.quiet 9 _ _ rfl rfl rfl rfl rfl (QOp.ok (fun X => OpOk.move rfl)) ?_
        refine Sd.quiet 10 _ _ rfl rfl rfl rfl rfl (QOp.ok (fun X => OpOk.ext20 rfl)) ?_
        refine Sd.quiet 11 _ _ rfl rfl rfl rfl rfl (QOp.ok (fun X => OpOk.ext21 rfl)) ?_
        refine Sd.quiet 12 _ _ rfl rfl rfl rfl rfl (QOp.ok (fun X => OpOk.assign rfl)) ?_
        refine Sd.quiet 13 _ _ rfl rfl rfl rfl rfl (QOp.ok (fun X => OpOk.assign rfl)) ?_
        (apply Sd.tail; case hall => kernel_rfl)
        refine RunL.mem (fl2 (flS (flS (flS (flS rfl)))) (sep_emp _)) ?_
        refine RunL.nil ?_
        refine Run.seq ?_
        refine Run.region ?_
        refine RunL.ok (OpOk.move rfl) rfl ?_
        refine RunL.ok (OpOk.fieldAddr fld113_3 rfl) rfl ?_
        refine RunL.ok (OpOk.load rfl rfl rfl (Blk.out Blk.pts.left.left.left.left.left.left.left.left.left.left.left.left.left.left.left.left _ _ (by first | rfl | assumption))) rfl ?_
        refine RunL.mem (frc (frl (frl (frl (frl (frl (frl (frl (frl (frl (frl (frl (frl rfl)))))))))))) rfl) ?_
        refine RunL.call cal50 rfl (s50 (by assumption)) rfl (fun vz51 Az51 hz51 => ?_)
        obtain ⟨rfl, rfl⟩ := hz51
        refine RunL.nil ?_
        refine Run.seq ?_
        refine Run.region ?_
        refine RunL.alloc ti86 rfl (fun bz52 => ?_)
        refine RunL.nil ?_
        refine Run.seq ?_
        refine Run.seq ?_
        refine Run.region ?_
        refine RunL.ok (OpOk.fieldAddr fld113_2 rfl) rfl ?_
        refine RunL.ok (OpOk.load rfl rfl rfl (Blk.out Blk.pts.left.left.left.left.left.left.left.left.left.left.left.left.left.left.left.left.left _ _ (by first | rfl | assumption))) rfl ?_
        refine RunL.nil ?_
        refine Run.condT rfl ?_
        refine Run.region ?_
        refine RunL.ok (OpOk.move rfl) rfl ?_
        refine RunL.ok (OpOk.loadS rfl rfl ti86 rfl Blk.pts.left.left.left.left.left.left.left.left.left.left.left.left.left.left rfl) rfl ?_
        refine RunL.ok (OpOk.fieldAddr fld113_0 rfl) rfl ?_
        refine RunL.ok (OpOk.fieldAddr fld111_1 rfl) rfl ?_
        refine RunL.ok (OpOk.load rfl rfl rfl (Blk.out Blk.pts.left.left.left.left.left.left.left.left.left.left.left.left.left.left.left.left.left _ _ (by first | rfl | assumption))) rfl ?_
        refine RunL.ok (OpOk.fieldAddr fld113_0 rfl) rfl ?_
        refine RunL.ok (OpOk.fieldAddr fld111_2 rfl) rfl ?_
        refine RunL.ok (OpOk.load rfl rfl rfl (Blk.out Blk.pts.left.left.left.left.left.left.left.left.left.left.left.left.left.left.left.left.left _ _ (by first | rfl | assumption))) rfl ?_
        refine RunL.mem (frc (frl rfl) rfl) ?_
        refine RunL.call cal56 rfl (s56e (Rd.right rdz15).left.left.left.left.left.left.left.left.left.left.left.left.left.left (by assumption) (by assumption) (by assumption)) rfl (fun vz57 Az57 hz57 => ?_)
        obtain ⟨z58, ⟨z59, ⟨z60, ⟨z61, ⟨rfl, ⟨z62, rfl⟩⟩⟩⟩⟩⟩ := hz57
        refine RunL.ok (OpOk.move rfl) rfl ?_
        refine RunL.ok (OpOk.ext20 rfl) rfl ?_
        refine RunL.ok (OpOk.ext21 rfl) rfl ?_
        refine RunL.storeAll ti86 rfl rfl rfl (ones rfl) (frl (frl (frl rfl))) rfl ?_
        refine RunL.ok (OpOk.assign rfl) rfl ?_
        refine RunL.nil ?_
        refine Run.seq ?_
        refine Run.region ?_
        refine RunL.ok (OpOk.move rfl) rfl ?_
        refine RunL.mem (frc (frl rfl) rfl) ?_
        refine RunL.call cal50 rfl (s50 (by assumption)) rfl (fun vz63 Az63 hz63 => ?_)
        obtain ⟨rfl, rfl⟩ := hz63
        refine RunL.nil ?_
        refine Run.seq ?_
        refine Run.region ?_
        refine RunL.ok (OpOk.move rfl) rfl ?_
        refine RunL.ok (OpOk.lenR rfl rfl (Rd.right rdz50).left.left.left.left rfl) rfl ?_
        refine RunL.ok (OpOk.assign rfl) rfl ?_
        refine RunL.nil ?_
        refine Run.seq ?_
        refine Run.seq ?_
        refine Run.region ?_
        refine RunL.ok (OpOk.fieldAddr fld113_3 rfl) rfl ?_
        refine RunL.ok (OpOk.load rfl rfl rfl (Blk.out Blk.pts.left.left.left.left.left.left.left.left.left.left.left.left.left.left.left.left.left.left.left _ _ (by first | rfl | assumption))) rfl ?_
        refine RunL.ok (OpOk.asT (OpOk.geq rfl rfl) (by omega)) rfl ?_
        refine RunL.ok (OpOk.move rfl) rfl ?_
        refine RunL.on rfl rfl ?_
        refine RunL.ok (OpOk.fieldAddr fld113_3 rfl) rfl ?_
        refine RunL.on rfl rfl ?_
        refine RunL.ok (OpOk.load rfl rfl rfl (Blk.out Blk.pts.left.left.left.left.left.left.left.left.left.left.left.left.left.left.left.left.left.left.left _ _ (by first | rfl | assumption))) rfl ?_
        refine RunL.on rfl rfl ?_
        refine RunL.ok (OpOk.move rfl) rfl ?_
        refine RunL.on rfl rfl ?_
        refine RunL.ok (OpOk.asT (OpOk.lss rfl rfl) (by omega)) rfl ?_
        refine RunL.ok (OpOk.pickT rfl rfl) rfl ?_
        refine RunL.nil ?_
        refine Run.condT rfl ?_
        refine Run.seq ?_
        refine Run.region ?_
        refine RunL.ok (OpOk.fieldAddr fld113_3 rfl) rfl ?_
        refine RunL.ok (OpOk.load rfl rfl rfl (Blk.out Blk.pts.left.left.left.left.left.left.left.left.left.left.left.left.left.left.left.left.left.left.left _ _ (by first | rfl | assumption))) rfl ?_
        refine RunL.ok (OpOk.assign rfl) rfl ?_
        refine RunL.nil ?_
        refine Run.region ?_
        refine RunL.ok (OpOk.assign rfl) rfl ?_
        refine RunL.nil ?_
        refine Run.seq ?_
        refine Run.seq ?_
        refine Run.know (fun w s => (s.conv (frl (frl rfl))).ownRd0) (fun rdz64 => ?_)
        (apply Run.drawD [] (by rfl) (Eq.trans rfl rfl); case hchk => kernel_rfl)
        refine Sd.quiet 0 _ _ rfl rfl rfl rfl rfl (QOp.ok (fun X => OpOk.move rfl)) ?_
        refine Sd.quiet 1 _ _ rfl rfl rfl rfl rfl (QOp.ok (fun X => OpOk.move rfl)) ?_
        refine Sd.quiet 2 _ _ rfl rfl rfl rfl rfl (QOp.ok (fun X => OpOk.as (c := false) (OpOk.neq rfl rfl) (by rw [decide_eq_true (by omega)]; rfl))) ?_
        refine Sd.quiet 3 _ _ rfl rfl rfl rfl rfl (QOp.ok (fun X => OpOk.move rfl)) ?_
        refine Sd.quiet 4 _ _ rfl rfl rfl rfl rfl (QOp.ok (fun X => OpOk.move rfl)) ?_
        refine Sd.quiet 7 _ _ rfl rfl rfl rfl rfl (QOp.ok (fun X => OpOk.move rfl)) ?_
        refine Sd.quiet 8 _ _ rfl rfl rfl rfl rfl (QOp.ok (fun X => OpOk.move rfl)) ?_
        refine Sd.quiet 9 _ _ rfl rfl rfl rfl rfl (QOp.ok (fun X => OpOk.move rfl)) ?_
        (refine Sd.exec 5 rfl rfl rfl rfl rfl ?hrest (by rfl) (fun Xz65 Kz65 hKz65 => ?_); case hrest => kernel_rfl)
        refine RunL.mem (fl2 (sep_emp _) rfl) ?_
        refine RunL.call cal49 rfl (s49 (by assumption)) rfl (fun vz66 Az66 hz66 => ?_)
        obtain rfl := hz66
        refine RunL.know (fun w s => (s.conv rfl).ownRd0) (fun rdz67 => ?_)
        refine Sd.ret hKz65 (Eq.trans rfl (gp2 (sep_emp _).symm (asg rfl))) ⟨_, (emp_sep _).symm⟩ ?_
        refine Sd.quiet 6 _ _ rfl rfl rfl rfl rfl (QOp.ok (fun X => OpOk.strOf rfl rfl rfl rfl (Rd.right (Rd.right rdz67)).left)) ?_
        (refine Sd.exec 10 rfl rfl rfl rfl rfl ?hrest (by rfl) (fun Xz68 Kz68 hKz68 => ?_); case hrest => kernel_rfl)
        refine RunL.mem (fl2 (flS rfl) (sep_emp _)) ?_
        refine RunL.call cal54 rfl (s54 (Rd.right rdz12).left.left.left.left.left.left.left.left.left.left.left.left.left.left.left.left.left (Rd.right rdz50).left.left.left.left.left.left (Alls.right z46).left.left.left.left.left.left.left rfl (by assumption) (by assumption)) rfl (fun vz69 Az69 hz69 => ?_)
        obtain ⟨z70, rfl⟩ := hz69
        refine RunL.know (fun w s => (s.conv rfl).ownRd0) (fun rdz71 => ?_)
        refine Sd.ret hKz68 (Eq.trans rfl (gp2 (sep_emp _).symm (asg (asg (asg rfl))))) ⟨_, (asg rfl)⟩ ?_
        refine Sd.quiet 11 _ _ rfl rfl rfl rfl rfl (QOp.ok (fun X => OpOk.strOf rfl rfl rfl rfl (Rd.right (Rd.right rdz71)).left)) ?_
        refine Sd.quiet 12 _ _ rfl rfl rfl rfl rfl (QOp.ok (fun X => OpOk.neqSS rfl rfl)) ?_
        refine Sd.quiet 13 _ _ rfl rfl rfl rfl rfl (QOp.ok (fun X => OpOk.pickF rfl rfl)) ?_
        refine Sd.quiet 14 _ _ rfl rfl rfl rfl rfl (QOp.ok (fun X => OpOk.move rfl)) ?_
        refine Sd.splitN (fun z72 => ?_) (fun z72 => ?_)
        · refine Sd.skip 15 _ rfl rfl rfl rfl rfl ?_
          refine Sd.skip 16 _ rfl rfl rfl rfl rfl ?_
          refine Sd.skip 17 _ rfl rfl rfl rfl rfl ?_
          refine Sd.skip 18 _ rfl rfl rfl rfl rfl ?_
          refine Sd.skip 19 _ rfl rfl rfl rfl rfl ?_
          refine Sd.skip 20 _ rfl rfl rfl rfl rfl ?_
          refine Sd.quiet 21 _ _ rfl rfl rfl rfl rfl (QOp.ok (fun X => OpOk.pickT rfl rfl)) ?_
          (apply Sd.tail; case hall => kernel_rfl)
          refine RunL.mem (fl2 (flS (flS (flS rfl))) (sep_emp _)) ?_
          refine RunL.nil ?_
          refine Run.condT rfl ?_
          refine Run.seq ?_
          refine Run.region ?_
          refine RunL.ok (OpOk.assign rfl) rfl ?_
          refine RunL.nil ?_
          refine Run.ret1 Try.func13 rfl rfl ?_
          exact absurd (by rw [z47, hzs]) z72
        refine Sd.quiet 15 _ _ rfl rfl rfl rfl rfl (QOp.ok (fun X => OpOk.move rfl)) ?_
        refine Sd.quiet 16 _ _ rfl rfl rfl rfl rfl (QOp.ok (fun X => OpOk.strOf rfl rfl rfl rfl (Rd.right rdz16).left.left.left.left.left.left.left.left.left.left.left.left.left.left.left)) ?_
        refine Sd.quiet 17 _ _ rfl rfl rfl rfl rfl (QOp.ok (fun X => OpOk.fieldAddr fld113_1 rfl)) ?_
        refine Sd.quiet 18 _ _ rfl rfl rfl rfl rfl (QOp.ok (fun X => OpOk.load rfl rfl rfl (Blk.out Blk.pts.left.left.left.left.left.left.left.left.left.left.left.left.left.left.left.left.left.left.left.left _ _ (by first | rfl | assumption)))) ?_
        refine Sd.quiet 19 _ _ rfl rfl rfl rfl rfl (QOp.ok (fun X => OpOk.strOf rfl rfl rfl rfl rdb0.left.left.left.left.left.left.left.left.left.left.left.left.left.left.left.left.left.left.left.left.left.left)) ?_
        refine Sd.quiet 20 _ _ rfl rfl rfl rfl rfl (QOp.ok (fun X => OpOk.neqSS rfl rfl)) ?_
        refine Sd.quiet 21 _ _ rfl rfl rfl rfl rfl (QOp.ok (fun X => OpOk.pickF rfl rfl)) ?_
        (apply Sd.tail; case hall => kernel_rfl)
        refine RunL.mem (fl2 (flS (flS (flS rfl))) (sep_emp _)) ?_
        refine RunL.nil ?_
        refine Run.condNF rfl (by first | omega | with_reducible rfl | assumption) ?_
        refine Run.skip ?_
        refine Run.seq ?_
        refine Run.region ?_
        refine RunL.ok (OpOk.move rfl) rfl ?_
        refine RunL.mem (frc (frl (frl (frl rfl))) rfl) ?_
        refine RunL.call cal39 rfl (s39f (by assumption)) rfl (fun vz77 Az77 hz77 => ?_)
        obtain ⟨z78, ⟨z79, ⟨z80, ⟨rfl, rfl⟩⟩⟩⟩ := hz77
        refine RunL.ok (OpOk.move rfl) rfl ?_
        refine RunL.ok (OpOk.ext20 rfl) rfl ?_
        refine RunL.ok (OpOk.ext21 rfl) rfl ?_
        refine RunL.alloc ti86 rfl (fun bz81 => ?_)
        refine RunL.storeAll ti86 rfl rfl rfl (ones rfl) rfl rfl ?_
        refine RunL.ok (OpOk.assign rfl) rfl ?_
        refine RunL.nil ?_
        refine Run.seq ?_
        refine Run.seq ?_
        rw [rw_a2]
        rw [rw_b2]
        refine Run.region ?_
        refine RunL.ok (OpOk.move rfl) rfl ?_
        refine RunL.ok (OpOk.as (c := false) (OpOk.neq rfl rfl) (by rw [decide_eq_true (by omega)]; rfl)) rfl ?_
        refine RunL.nil ?_
        refine Run.condF rfl ?_
        refine Run.skip ?_
        refine Run.seq ?_
        refine Run.know (fun w s => (s.conv (frl (frl rfl))).ownRd0) (fun rdz82 => ?_)
        (apply Run.drawD [] (by rfl) (sep_emp _).symm; case hchk => kernel_rfl)
        refine Sd.quiet 0 _ _ rfl rfl rfl rfl rfl (QOp.ok (fun X => OpOk.move rfl)) ?_
        refine Sd.quiet 1 _ _ rfl rfl rfl rfl rfl (QOp.ok (fun X => OpOk.asF (OpOk.eql rfl rfl) (by omega))) ?_
        refine Sd.quiet 2 _ _ rfl rfl rfl rfl rfl (QOp.ok (fun X => OpOk.move rfl)) ?_
        refine Sd.skip 3 _ rfl rfl rfl rfl rfl ?_
        refine Sd.skip 4 _ rfl rfl rfl rfl rfl ?_
        refine Sd.skip 5 _ rfl rfl rfl rfl rfl ?_
        refine Sd.skip 6 _ rfl rfl rfl rfl rfl ?_
        refine Sd.skip 7 _ rfl rfl rfl rfl rfl ?_
        refine Sd.skip 8 _ rfl rfl rfl rfl rfl ?_
        refine Sd.quiet 9 _ _ rfl rfl rfl rfl rfl (QOp.ok (fun X => OpOk.pickF rfl rfl)) ?_
        refine Sd.quiet 10 _ _ rfl rfl rfl rfl rfl (QOp.ok (fun X => OpOk.move rfl)) ?_
        refine Sd.quiet 11 _ _ rfl rfl rfl rfl rfl (QOp.ok (fun X => OpOk.move rfl)) ?_
        refine Sd.quiet 12 _ _ rfl rfl rfl rfl rfl (QOp.ok (fun X => OpOk.as (c := true) (OpOk.neq rfl rfl) (by rw [decide_eq_false (by omega)]; rfl))) ?_
        refine Sd.quiet 13 _ _ rfl rfl rfl rfl rfl (QOp.ok (fun X => OpOk.move rfl)) ?_
        refine Sd.quiet 14 _ _ rfl rfl rfl rfl rfl (QOp.ok (fun X => OpOk.fieldAddr fld86_2 rfl)) ?_
        refine Sd.quiet 15 _ _ rfl rfl rfl rfl rfl (QOp.ok (fun X => OpOk.load rfl rfl rfl (Blk.out Blk.pts.left.left.left.left.left.left.left.left.left _ _ (by first | rfl | assumption)))) ?_
        refine Sd.quiet 16 _ _ rfl rfl rfl rfl rfl (QOp.ok (fun X => OpOk.as (c := false) (OpOk.neq rfl rfl) (by rw [decide_eq_true (by omega)]; rfl))) ?_
        refine Sd.quiet 17 _ _ rfl rfl rfl rfl rfl (QOp.ok (fun X => OpOk.move rfl)) ?_
        refine Sd.quiet 18 _ _ rfl rfl rfl rfl rfl (QOp.ok (fun X => OpOk.fieldAddr fld86_4 rfl)) ?_
        refine Sd.quiet 19 _ _ rfl rfl rfl rfl rfl (QOp.ok (fun X => OpOk.load rfl rfl rfl (Blk.out Blk.pts.left.left.left.left.left.left.left.left.left _ _ (by first | rfl | assumption)))) ?_
        refine Sd.quiet 20 _ _ rfl rfl rfl rfl rfl (QOp.ok (fun X => OpOk.lenV rfl rfl rfl)) ?_
        refine Sd.quiet 21 _ _ rfl rfl rfl rfl rfl (QOp.ok (fun X => OpOk.neq rfl rfl)) ?_
        refine Sd.quiet 22 _ _ rfl rfl rfl rfl rfl (QOp.ok (fun X => OpOk.pickF rfl rfl)) ?_
        refine Sd.quiet 23 _ _ rfl rfl rfl rfl rfl (QOp.ok (fun X => OpOk.move rfl)) ?_
        refine Sd.quiet 24 _ _ rfl rfl rfl rfl rfl (QOp.ok (fun X => OpOk.loadS rfl rfl ti86 rfl Blk.pts.left.left rfl)) ?_
        refine Sd.quiet 26 _ _ rfl rfl rfl rfl rfl (QOp.ok (fun X => OpOk.loadS rfl rfl ti86 rfl Blk.pts.left.left.left.left.left.left.left.left.left.left.left.left.left.left.left.left.left.left.left.left.left.left.left.left rfl)) ?_
        (refine Sd.exec 25 rfl rfl rfl rfl rfl ?hrest (by rfl) (fun Xz83 Kz83 hKz83 => ?_); case hrest => kernel_rfl)
        refine RunL.mem (fl2 (sep_emp _) (sep_emp _)) ?_
        refine RunL.call cal44 rfl (s44 (Rd.right rdz82).left.left.left (by assumption)) rfl (fun vz84 Az84 hz84 => ?_)
        obtain ⟨z85, ⟨z86, ⟨z87, ⟨rfl, rfl⟩⟩⟩⟩ := hz84
        refine RunL.know (fun w s => (s.conv rfl).ownRd0) (fun rdz88 => ?_)
        refine Sd.ret hKz83 (Eq.trans rfl (gp2 (sep_emp _).symm (asg rfl))) ⟨_, (emp_sep _).symm⟩ ?_
        (refine Sd.exec 27 rfl rfl rfl rfl rfl ?hrest (by rfl) (fun Xz89 Kz89 hKz89 => ?_); case hrest => kernel_rfl)
        refine RunL.mem (fl2 (flS rfl) (sep_emp _)) ?_
        refine RunL.call cal44 rfl (s44 (Rd.right rdz15).left.left.left.left.left.left.left.left.left.left.left.left.left.left.left.left.left.left.left.left.left.left.left.left.left.left (by assumption)) rfl (fun vz90 Az90 hz90 => ?_)
        obtain ⟨z91, ⟨z92, ⟨z93, ⟨rfl, rfl⟩⟩⟩⟩ := hz90
        refine RunL.know (fun w s => (s.conv rfl).ownRd0) (fun rdz94 => ?_)
        refine Sd.ret hKz89 (Eq.trans rfl (gp2 (sep_emp _).symm (asg (asg (asg rfl))))) ⟨_, (asg rfl)⟩ ?_
        (refine Sd.exec 28 rfl rfl rfl rfl rfl ?hrest (by rfl) (fun Xz95 Kz95 hKz95 => ?_); case hrest => kernel_rfl)
        refine RunL.mem (fl2 (flS (flS (flS rfl))) (sep_emp _)) ?_
        refine RunL.call cal43 rfl (s43 (Rd.right rdz88).left.left (Rd.right rdz94)) rfl (fun vz96 Az96 hz96 => ?_)
        obtain ⟨z97, ⟨rfl, rfl⟩⟩ := hz96
        refine Sd.ret hKz95 (Eq.trans rfl (gp2 (sep_emp _).symm (asg (asg (asg (asg rfl)))))) ⟨_, rfl⟩ ?_
        refine Sd.quiet 29 _ _ rfl rfl rfl rfl rfl (QOp.ok (fun X => OpOk.not rfl)) ?_
        refine Sd.quiet 30 _ _ rfl rfl rfl rfl rfl (QOp.ok (fun X => OpOk.pickF rfl rfl)) ?_
        refine Sd.quiet 31 _ _ rfl rfl rfl rfl rfl (QOp.ok (fun X => OpOk.pickT rfl rfl)) ?_
        refine Sd.quiet 32 _ _ rfl rfl rfl rfl rfl (QOp.ok (fun X => OpOk.pickF rfl rfl)) ?_
        (apply Sd.tail; case hall => kernel_rfl)
        refine RunL.mem (fl2 (flS (flS (flS (flS rfl)))) (sep_emp _)) ?_
        refine RunL.nil ?_
        refine Run.condF rfl ?_
        refine Run.skip ?_
        refine Run.inBlock ?_
        refine Run.region ?_
        refine RunL.ok (OpOk.move rfl) rfl ?_
        refine RunL.ok (OpOk.addN _ 1 rfl rfl rfl rfl (by omega)) rfl ?_
        refine RunL.ok (OpOk.assign rfl) rfl ?_
        refine RunL.nil ?_
        first
        | rw [show max (-1 : Int) (-1) = -1 from rfl]
        | skip
        refine Run.jump ((ih (i + 1, _, zs, q, t, es) ⟨by dsimp only; omega, by dsimp only; omega, hSz⟩ (by dsimp only; omega))) ⟨rfl, rfl, rfl, trivial⟩ (Grew.of (Eq.trans (frc (frl (frl (frl (frl (frl (frl rfl)))))) rfl) (congrArg (· * _) (asg (asg (asg (asg (asg (asg (asg (asg (asg (asg (asg (asg (asg (asg (asg (asg (asg (asg (asg (asg (asg (asg (asg (asg (asg (asg (asg (asg (asg (asg as1)))))))))))))))))))))))))))))))) (Grew.refl _))
      · have hD : donN (dropsP q t es o i2) (max n (-1)) = kk := by rw [donN, hkk, if_neg (by omega)]
        have htk : (dropsP q t es o i2).1.take kk = (dropsP q t es o i2).1 := by rw [← hkk, List.take_length]
        by_cases hf0 : ff = 0
        · have hE : errN (dropsP q t es o i2) (max n (-1)) = 0 := by rw [errN, hkk, if_neg (by omega), hff, hf0]
          obtain ⟨zs, hzs⟩ : ∃ zs, doneF xs (dropsP q t es o i2).1 = zs := ⟨_, rfl⟩
          obtain ⟨es2, he2⟩ : ∃ es2, (dropsP q t es o i2).2.2 = es2 := ⟨_, rfl⟩
          have hct : 3 - (t : Int) = ((3 - t : Nat) : Int) := by have := hSx.copy; omega
          have hO : OutIs xs (dropsP q t es o i2) (max n (-1)) a b q t zs 0 a b (q + 1) ((3 - t : Nat) : Int) es2 := ⟨hE, by rw [vwN, hE, he2, hct]; rfl, by rw [hD, htk, hzs]⟩
          have hSz : Says zs (q + 1) (3 - t) es2 := by rw [← hzs, ← he2]; exact hC.good (by rw [hff, hf0])
          have hsm : secOf zs 0 = secOf xs 0 := by rw [← hzs, ← htk]; exact hC.same _
          have rw_a2 : cardB (secOf zs 0) = a := by rw [hsm, ha]
          have rw_b2 : issB (secOf zs 0) = b := by rw [hsm, hb]
          have hzl := hSz.len
          have h25 := hSz.facts.2.2.1
          have h25b : es2.length ≤ 1048576 := by omega
          have hkne : kk ≠ 0 := fun e => hC.nil (by rw [hff, hf0]) (List.eq_nil_of_length_eq_zero (by rw [hkk, e]))
          subst hf0
          refine Run.seq ?_
          refine Run.seq ?_
          refine Run.region ?_
          refine RunL.ok (OpOk.move rfl) rfl ?_
          refine RunL.ok (OpOk.move rfl) rfl ?_
          refine RunL.ok (OpOk.lenR rfl rfl rd.left.left rfl) rfl ?_
          refine RunL.ok (OpOk.asT (OpOk.lss rfl rfl) (by omega)) rfl ?_
          refine RunL.ok (OpOk.move rfl) rfl ?_
          refine RunL.on rfl rfl ?_
          refine RunL.ok (OpOk.move rfl) rfl ?_
          refine RunL.on rfl rfl ?_
          refine RunL.ok (OpOk.asT (OpOk.lss rfl rfl) (by omega)) rfl ?_
          refine RunL.ok (OpOk.pickT rfl rfl) rfl ?_
          refine RunL.nil ?_
          refine Run.condT rfl ?_
          refine Run.skip ?_
          refine Run.seq ?_
          refine Run.block ?_
          refine Run.seq ?_
          refine Run.region ?_
          refine RunL.ok (OpOk.move rfl) rfl ?_
          refine RunL.ok (OpOk.move rfl) rfl ?_
          refine RunL.ok (OpOk.idxN rfl ti113 rfl rd.left.left rfl (by omega)) rfl ?_
          refine RunL.ok (OpOk.loadFlE (by assumption) rfl rfl ti113 rfl rd.left.left (fun _ => rfl) rfl (by omega)) rfl ?_
          refine RunL.alloc ti113 rfl (fun bz1 => ?_)
          refine RunL.storeAll ti113 rfl rfl rfl (fun w hw => OneC.one (enc := encT113) (((k, o, i2, s), v, bs, true, n)) w hw) rfl rfl ?_
          refine RunL.nil ?_
          refine Run.seq ?_
          refine Run.region ?_
          refine RunL.ok (OpOk.move rfl) rfl ?_
          refine RunL.mem (frc (frl rfl) rfl) ?_
          refine RunL.call cal39 rfl (s39f (by assumption)) rfl (fun vz6 Az6 hz6 => ?_)
          obtain ⟨z7, ⟨z8, ⟨z9, ⟨rfl, rfl⟩⟩⟩⟩ := hz6
          refine RunL.ok (OpOk.move rfl) rfl ?_
          refine RunL.ok (OpOk.ext20 rfl) rfl ?_
          refine RunL.ok (OpOk.ext21 rfl) rfl ?_
          refine RunL.alloc ti86 rfl (fun bz10 => ?_)
          refine RunL.storeAll ti86 rfl rfl rfl (ones rfl) rfl rfl ?_
          refine RunL.ok (OpOk.assign rfl) rfl ?_
          refine RunL.nil ?_
          refine Run.seq ?_
          rw [rw_a]
          rw [rw_b]
          refine Run.region ?_
          refine RunL.ok (OpOk.move rfl) rfl ?_
          refine RunL.mem (frc (frl rfl) rfl) ?_
          refine RunL.call cal49 rfl (s49 (by assumption)) rfl (fun vz11 Az11 hz11 => ?_)
          obtain rfl := hz11
          refine RunL.ok (OpOk.assign rfl) rfl ?_
          refine RunL.nil ?_
          refine Run.seq ?_
          refine Run.seq ?_
          refine Run.region ?_
          refine RunL.ok (OpOk.move rfl) rfl ?_
          refine RunL.ok (OpOk.as (c := false) (OpOk.neq rfl rfl) (by rw [decide_eq_true (by omega)]; rfl)) rfl ?_
          refine RunL.ok (OpOk.move rfl) rfl ?_
          refine RunL.on rfl rfl ?_
          refine RunL.ok (OpOk.move rfl) rfl ?_
          refine RunL.on rfl rfl ?_
          refine RunL.know (fun w s => (s.conv rfl).ownRd0) (fun rdz12 => ?_)
          refine RunL.ok (OpOk.lenR rfl rfl (Rd.right rdz12) rfl) rfl ?_
          refine RunL.on rfl rfl ?_
          refine RunL.ok (OpOk.as (c := false) (OpOk.neq rfl rfl) (by rw [decide_eq_true (by omega)]; rfl)) rfl ?_
          refine RunL.ok (OpOk.pickF rfl rfl) rfl ?_
          refine RunL.nil ?_
          refine Run.condF rfl ?_
          refine Run.skip ?_
          refine Run.seq ?_
          refine Run.region ?_
          refine RunL.lit0B rfl ti5 rfl (fun vz13 rdz13 => ?_)
          refine RunL.ok (OpOk.fieldAddr fld113_1 rfl) rfl ?_
          refine RunL.ok (OpOk.load rfl rfl rfl (Blk.out Blk.pts.left.left.left.left.left.left _ _ (by first | rfl | assumption))) rfl ?_
          refine RunL.appendB0 rfl ti5 rfl rfl rfl rfl rdb0.left.left.left.left.left.left.left.left (by omega) rfl (fun vz14 rdz14 => ?_)
          refine RunL.ok (OpOk.assign rfl) rfl ?_
          refine RunL.nil ?_
          refine Run.seq ?_
          refine Run.know (fun w s => (s.conv (frl (frl (frl (frl rfl))))).ownRd0) (fun rdz15 => ?_)
          refine Run.know (fun w s => (s.conv rfl).ownRd0) (fun rdz16 => ?_)
          (apply Run.drawD [] (by rfl) (sep_emp _).symm; case hchk => kernel_rfl)
          refine Sd.quiet 0 _ _ rfl rfl rfl rfl rfl (QOp.ok (fun X => OpOk.loadS rfl rfl ti86 rfl Blk.pts.left.left.left.left.left rfl)) ?_
          refine Sd.quiet 2 _ _ rfl rfl rfl rfl rfl (QOp.ok (fun X => OpOk.fieldAddr fld113_0 rfl)) ?_
          refine Sd.quiet 3 _ _ rfl rfl rfl rfl rfl (QOp.ok (fun X => OpOk.loadSub rfl rfl ti111 rfl Blk.pts.left.left.left.left.left.left.left.left rfl rfl)) ?_
          refine Sd.quiet 4 _ _ rfl rfl rfl rfl rfl (QOp.ok (fun X => OpOk.fieldAddr fld113_1 rfl)) ?_
          refine Sd.quiet 5 _ _ rfl rfl rfl rfl rfl (QOp.ok (fun X => OpOk.load rfl rfl rfl (Blk.out Blk.pts.left.left.left.left.left.left.left.left _ _ (by first | rfl | assumption)))) ?_
          (refine Sd.exec 1 rfl rfl rfl rfl rfl ?hrest (by rfl) (fun Xz17 Kz17 hKz17 => ?_); case hrest => kernel_rfl)
          refine RunL.mem (fl2 (sep_emp _) (sep_emp _)) ?_
          refine RunL.call cal44 rfl (s44 (Rd.right rdz15).left.left.left.left.left (by assumption)) rfl (fun vz18 Az18 hz18 => ?_)
          obtain ⟨z19, ⟨z20, ⟨z21, ⟨rfl, rfl⟩⟩⟩⟩ := hz18
          refine RunL.know (fun w s => (s.conv rfl).ownRd0) (fun rdz22 => ?_)
          refine Sd.ret hKz17 (Eq.trans rfl (gp2 (sep_emp _).symm (asg rfl))) ⟨_, (emp_sep _).symm⟩ ?_
          (refine Sd.exec 6 rfl rfl rfl rfl rfl ?hrest (by rfl) (fun Xz23 Kz23 hKz23 => ?_); case hrest => kernel_rfl)
          refine RunL.mem (fl2 (flS rfl) (sep_emp _)) ?_
          refine RunL.call cal58 rfl (s58k (Rd.right rdz22) rdb0.left.left.left.left.left.left.left.left.left.left.left (by assumption) (by assumption)) rfl (fun vz24 Az24 hz24 => ?_)
          obtain ⟨z25, ⟨z26, ⟨z27, ⟨z28, ⟨rfl, ⟨z29, ⟨z30, ⟨z31, ⟨z32, rfl⟩⟩⟩⟩⟩⟩⟩⟩⟩ := hz24
          refine RunL.know (fun w s => (s.conv rfl).ownRd0) (fun rdz33 => ?_)
          refine Sd.ret hKz23 (Eq.trans rfl (gp2 (sep_emp _).symm (asg (asg (asg (asg rfl)))))) ⟨_, (asg (asg rfl))⟩ ?_
          refine Sd.quiet 7 _ _ rfl rfl rfl rfl rfl (QOp.ok (fun X => OpOk.move rfl)) ?_
          refine Sd.quiet 8 _ _ rfl rfl rfl rfl rfl (QOp.ok (fun X => OpOk.ext20 rfl)) ?_
          refine Sd.quiet 9 _ _ rfl rfl rfl rfl rfl (QOp.ok (fun X => OpOk.ext21 rfl)) ?_
          refine Sd.quiet 10 _ _ rfl rfl rfl rfl rfl (QOp.ok (fun X => OpOk.assign rfl)) ?_
          refine Sd.quiet 11 _ _ rfl rfl rfl rfl rfl (QOp.ok (fun X => OpOk.assign rfl)) ?_
          (apply Sd.tail; case hall => kernel_rfl)
          refine RunL.mem (fl2 (flS (flS (flS (flS rfl)))) (sep_emp _)) ?_
          refine RunL.nil ?_
          refine Run.seq ?_
          refine Run.seq ?_
          refine Run.region ?_
          refine RunL.ok (OpOk.fieldAddr fld113_2 rfl) rfl ?_
          refine RunL.ok (OpOk.load rfl rfl rfl (Blk.out Blk.pts.left.left.left.left.left.left.left.left.left.left.left _ _ (by first | rfl | assumption))) rfl ?_
          refine RunL.nil ?_
          refine Run.condT rfl ?_
          refine Run.drop [12, 13] ?_
          (apply Run.drawD [] (by rfl) (sep_emp _).symm; case hchk => kernel_rfl)
          refine Sd.quiet 0 _ _ rfl rfl rfl rfl rfl (QOp.ok (fun X => OpOk.loadS rfl rfl ti86 rfl Blk.pts.left.left.left.left.left.left.left.left.left.left rfl)) ?_
          refine Sd.quiet 2 _ _ rfl rfl rfl rfl rfl (QOp.ok (fun X => OpOk.fieldAddr fld113_0 rfl)) ?_
          refine Sd.quiet 3 _ _ rfl rfl rfl rfl rfl (QOp.ok (fun X => OpOk.fieldAddr fld111_1 rfl)) ?_
          refine Sd.quiet 4 _ _ rfl rfl rfl rfl rfl (QOp.ok (fun X => OpOk.load rfl rfl rfl (Blk.out Blk.pts.left.left.left.left.left.left.left.left.left.left.left.left.left _ _ (by first | rfl | assumption)))) ?_
          refine Sd.quiet 5 _ _ rfl rfl rfl rfl rfl (QOp.ok (fun X => OpOk.fieldAddr fld113_0 rfl)) ?_
          refine Sd.quiet 6 _ _ rfl rfl rfl rfl rfl (QOp.ok (fun X => OpOk.fieldAddr fld111_2 rfl)) ?_
          refine Sd.quiet 7 _ _ rfl rfl rfl rfl rfl (QOp.ok (fun X => OpOk.load rfl rfl rfl (Blk.out Blk.pts.left.left.left.left.left.left.left.left.left.left.left.left.left _ _ (by first | rfl | assumption)))) ?_
          (refine Sd.exec 1 rfl rfl rfl rfl rfl ?hrest (by rfl) (fun Xz34 Kz34 hKz34 => ?_); case hrest => kernel_rfl)
          refine RunL.mem (fl2 (sep_emp _) (sep_emp _)) ?_
          refine RunL.call cal44 rfl (s44 (Rd.right rdz15).left.left.left.left.left.left.left.left.left.left (by assumption)) rfl (fun vz35 Az35 hz35 => ?_)
          obtain ⟨z36, ⟨z37, ⟨z38, ⟨rfl, rfl⟩⟩⟩⟩ := hz35
          refine RunL.know (fun w s => (s.conv rfl).ownRd0) (fun rdz39 => ?_)
          refine Sd.ret hKz34 (Eq.trans rfl (gp2 (sep_emp _).symm (asg rfl))) ⟨_, (emp_sep _).symm⟩ ?_
          (refine Sd.exec 8 rfl rfl rfl rfl rfl ?hrest (by rfl) (fun Xz40 Kz40 hKz40 => ?_); case hrest => kernel_rfl)
          refine RunL.mem (fl2 (flS rfl) (sep_emp _)) ?_
          refine RunL.call cal59 rfl (s59k (Rd.right rdz39) (by assumption) (by assumption)) rfl (fun vz41 Az41 hz41 => ?_)
          obtain ⟨z42, ⟨z43, ⟨z44, ⟨z45, ⟨rfl, ⟨z46, ⟨z47, ⟨z48, ⟨z49, rfl⟩⟩⟩⟩⟩⟩⟩⟩⟩ := hz41
          refine RunL.know (fun w s => (s.conv rfl).ownRd0) (fun rdz50 => ?_)
          refine Sd.ret hKz40 (Eq.trans rfl (gp2 (sep_emp _).symm (asg (asg (asg (asg rfl)))))) ⟨_, (asg (asg rfl))⟩ ?_
          refine Sd.quiet 9 _ _ rfl rfl rfl rfl rfl (QOp.ok (fun X => OpOk.move rfl)) ?_
          refine Sd.quiet 10 _ _ rfl rfl rfl rfl rfl (QOp.ok (fun X => OpOk.ext20 rfl)) ?_
          refine Sd.quiet 11 _ _ rfl rfl rfl rfl rfl (QOp.ok (fun X => OpOk.ext21 rfl)) ?_
          refine Sd.quiet 12 _ _ rfl rfl rfl rfl rfl (QOp.ok (fun X => OpOk.assign rfl)) ?_
          refine Sd.quiet 13 _ _ rfl rfl rfl rfl rfl (QOp.ok (fun X => OpOk.assign rfl)) ?_
          (apply Sd.tail; case hall => kernel_rfl)
          refine RunL.mem (fl2 (flS (flS (flS (flS rfl)))) (sep_emp _)) ?_
          refine RunL.nil ?_
          refine Run.seq ?_
          refine Run.region ?_
          refine RunL.ok (OpOk.move rfl) rfl ?_
          refine RunL.ok (OpOk.fieldAddr fld113_3 rfl) rfl ?_
          refine RunL.ok (OpOk.load rfl rfl rfl (Blk.out Blk.pts.left.left.left.left.left.left.left.left.left.left.left.left.left.left.left.left _ _ (by first | rfl | assumption))) rfl ?_
          refine RunL.mem (frc (frl (frl (frl (frl (frl (frl (frl (frl (frl (frl (frl (frl rfl)))))))))))) rfl) ?_
          refine RunL.call cal50 rfl (s50 (by assumption)) rfl (fun vz51 Az51 hz51 => ?_)
          obtain ⟨rfl, rfl⟩ := hz51
          refine RunL.nil ?_
          refine Run.seq ?_
          refine Run.region ?_
          refine RunL.alloc ti86 rfl (fun bz52 => ?_)
          refine RunL.nil ?_
          refine Run.seq ?_
          refine Run.seq ?_
          refine Run.region ?_
          refine RunL.ok (OpOk.fieldAddr fld113_2 rfl) rfl ?_
          refine RunL.ok (OpOk.load rfl rfl rfl (Blk.out Blk.pts.left.left.left.left.left.left.left.left.left.left.left.left.left.left.left.left.left _ _ (by first | rfl | assumption))) rfl ?_
          refine RunL.nil ?_
          refine Run.condT rfl ?_
          refine Run.region ?_
          refine RunL.ok (OpOk.move rfl) rfl ?_
          refine RunL.ok (OpOk.loadS rfl rfl ti86 rfl Blk.pts.left.left.left.left.left.left.left.left.left.left.left.left.left.left rfl) rfl ?_
          refine RunL.ok (OpOk.fieldAddr fld113_0 rfl) rfl ?_
          refine RunL.ok (OpOk.fieldAddr fld111_1 rfl) rfl ?_
          refine RunL.ok (OpOk.load rfl rfl rfl (Blk.out Blk.pts.left.left.left.left.left.left.left.left.left.left.left.left.left.left.left.left.left _ _ (by first | rfl | assumption))) rfl ?_
          refine RunL.ok (OpOk.fieldAddr fld113_0 rfl) rfl ?_
          refine RunL.ok (OpOk.fieldAddr fld111_2 rfl) rfl ?_
          refine RunL.ok (OpOk.load rfl rfl rfl (Blk.out Blk.pts.left.left.left.left.left.left.left.left.left.left.left.left.left.left.left.left.left _ _ (by first | rfl | assumption))) rfl ?_
          refine RunL.mem (frc (frl rfl) rfl) ?_
          refine RunL.call cal56 rfl (s56e (Rd.right rdz15).left.left.left.left.left.left.left.left.left.left.left.left.left.left (by assumption) (by assumption) (by assumption)) rfl (fun vz57 Az57 hz57 => ?_)
          obtain ⟨z58, ⟨z59, ⟨z60, ⟨z61, ⟨rfl, ⟨z62, rfl⟩⟩⟩⟩⟩⟩ := hz57
          refine RunL.ok (OpOk.move rfl) rfl ?_
          refine RunL.ok (OpOk.ext20 rfl) rfl ?_
          refine RunL.ok (OpOk.ext21 rfl) rfl ?_
          refine RunL.storeAll ti86 rfl rfl rfl (ones rfl) (frl (frl (frl rfl))) rfl ?_
          refine RunL.ok (OpOk.assign rfl) rfl ?_
          refine RunL.nil ?_
          refine Run.seq ?_
          refine Run.region ?_
          refine RunL.ok (OpOk.move rfl) rfl ?_
          refine RunL.mem (frc (frl rfl) rfl) ?_
          refine RunL.call cal50 rfl (s50 (by assumption)) rfl (fun vz63 Az63 hz63 => ?_)
          obtain ⟨rfl, rfl⟩ := hz63
          refine RunL.nil ?_
          refine Run.seq ?_
          refine Run.region ?_
          refine RunL.ok (OpOk.move rfl) rfl ?_
          refine RunL.ok (OpOk.lenR rfl rfl (Rd.right rdz50).left.left.left.left rfl) rfl ?_
          refine RunL.ok (OpOk.assign rfl) rfl ?_
          refine RunL.nil ?_
          refine Run.seq ?_
          refine Run.seq ?_
          refine Run.region ?_
          refine RunL.ok (OpOk.fieldAddr fld113_3 rfl) rfl ?_
          refine RunL.ok (OpOk.load rfl rfl rfl (Blk.out Blk.pts.left.left.left.left.left.left.left.left.left.left.left.left.left.left.left.left.left.left.left _ _ (by first | rfl | assumption))) rfl ?_
          refine RunL.ok (OpOk.geq rfl rfl) rfl ?_
          refine RunL.ok (OpOk.move rfl) rfl ?_
          refine RunL.splitD (t := 123) rfl (fun z64 => ?_) (fun z64 => ?_)
          · refine RunL.on rfl rfl ?_
            refine RunL.ok (OpOk.fieldAddr fld113_3 rfl) rfl ?_
            refine RunL.on rfl rfl ?_
            refine RunL.ok (OpOk.load rfl rfl rfl (Blk.out Blk.pts.left.left.left.left.left.left.left.left.left.left.left.left.left.left.left.left.left.left.left _ _ (by first | rfl | assumption))) rfl ?_
            refine RunL.on rfl rfl ?_
            refine RunL.ok (OpOk.move rfl) rfl ?_
            refine RunL.on rfl rfl ?_
            refine RunL.ok (OpOk.asF (OpOk.lss rfl rfl) (by omega)) rfl ?_
            refine RunL.ok (OpOk.pickT rfl rfl) rfl ?_
            refine RunL.nil ?_
            refine Run.condF rfl ?_
            refine Run.skip ?_
            refine Run.seq ?_
            refine Run.seq ?_
            refine Run.know (fun w s => (s.conv (frl (frl rfl))).ownRd0) (fun rdz65 => ?_)
            (apply Run.drawD [] (by rfl) (Eq.trans rfl rfl); case hchk => kernel_rfl)
            refine Sd.quiet 0 _ _ rfl rfl rfl rfl rfl (QOp.ok (fun X => OpOk.move rfl)) ?_
            refine Sd.quiet 1 _ _ rfl rfl rfl rfl rfl (QOp.ok (fun X => OpOk.move rfl)) ?_
            refine Sd.quiet 2 _ _ rfl rfl rfl rfl rfl (QOp.ok (fun X => OpOk.as (c := false) (OpOk.neq rfl rfl) (by rw [decide_eq_true (by omega)]; rfl))) ?_
            refine Sd.quiet 3 _ _ rfl rfl rfl rfl rfl (QOp.ok (fun X => OpOk.move rfl)) ?_
            refine Sd.quiet 4 _ _ rfl rfl rfl rfl rfl (QOp.ok (fun X => OpOk.move rfl)) ?_
            refine Sd.quiet 7 _ _ rfl rfl rfl rfl rfl (QOp.ok (fun X => OpOk.move rfl)) ?_
            refine Sd.quiet 8 _ _ rfl rfl rfl rfl rfl (QOp.ok (fun X => OpOk.move rfl)) ?_
            refine Sd.quiet 9 _ _ rfl rfl rfl rfl rfl (QOp.ok (fun X => OpOk.move rfl)) ?_
            (refine Sd.exec 5 rfl rfl rfl rfl rfl ?hrest (by rfl) (fun Xz66 Kz66 hKz66 => ?_); case hrest => kernel_rfl)
            refine RunL.mem (fl2 (sep_emp _) rfl) ?_
            refine RunL.call cal49 rfl (s49 (by assumption)) rfl (fun vz67 Az67 hz67 => ?_)
            obtain rfl := hz67
            refine RunL.know (fun w s => (s.conv rfl).ownRd0) (fun rdz68 => ?_)
            refine Sd.ret hKz66 (Eq.trans rfl (gp2 (sep_emp _).symm (asg rfl))) ⟨_, (emp_sep _).symm⟩ ?_
            refine Sd.quiet 6 _ _ rfl rfl rfl rfl rfl (QOp.ok (fun X => OpOk.strOf rfl rfl rfl rfl (Rd.right (Rd.right rdz68)).left)) ?_
            (refine Sd.exec 10 rfl rfl rfl rfl rfl ?hrest (by rfl) (fun Xz69 Kz69 hKz69 => ?_); case hrest => kernel_rfl)
            refine RunL.mem (fl2 (flS rfl) (sep_emp _)) ?_
            refine RunL.call cal54 rfl (s54 (Rd.right rdz12).left.left.left.left.left.left.left.left.left.left.left.left.left.left.left.left.left (Rd.right rdz50).left.left.left.left.left.left (Alls.right z46).left.left.left.left.left.left.left rfl (by assumption) (by omega)) rfl (fun vz70 Az70 hz70 => ?_)
            obtain ⟨z71, rfl⟩ := hz70
            refine RunL.know (fun w s => (s.conv rfl).ownRd0) (fun rdz72 => ?_)
            refine Sd.ret hKz69 (Eq.trans rfl (gp2 (sep_emp _).symm (asg (asg (asg rfl))))) ⟨_, (asg rfl)⟩ ?_
            refine Sd.quiet 11 _ _ rfl rfl rfl rfl rfl (QOp.ok (fun X => OpOk.strOf rfl rfl rfl rfl (Rd.right (Rd.right rdz72)).left)) ?_
            refine Sd.quiet 12 _ _ rfl rfl rfl rfl rfl (QOp.ok (fun X => OpOk.neqSS rfl rfl)) ?_
            refine Sd.quiet 13 _ _ rfl rfl rfl rfl rfl (QOp.ok (fun X => OpOk.pickF rfl rfl)) ?_
            refine Sd.quiet 14 _ _ rfl rfl rfl rfl rfl (QOp.ok (fun X => OpOk.move rfl)) ?_
            refine Sd.splitN (fun z73 => ?_) (fun z73 => ?_)
            · refine Sd.skip 15 _ rfl rfl rfl rfl rfl ?_
              refine Sd.skip 16 _ rfl rfl rfl rfl rfl ?_
              refine Sd.skip 17 _ rfl rfl rfl rfl rfl ?_
              refine Sd.skip 18 _ rfl rfl rfl rfl rfl ?_
              refine Sd.skip 19 _ rfl rfl rfl rfl rfl ?_
              refine Sd.skip 20 _ rfl rfl rfl rfl rfl ?_
              refine Sd.quiet 21 _ _ rfl rfl rfl rfl rfl (QOp.ok (fun X => OpOk.pickT rfl rfl)) ?_
              (apply Sd.tail; case hall => kernel_rfl)
              refine RunL.mem (fl2 (flS (flS (flS rfl))) (sep_emp _)) ?_
              refine RunL.nil ?_
              refine Run.condT rfl ?_
              refine Run.seq ?_
              refine Run.region ?_
              refine RunL.ok (OpOk.assign rfl) rfl ?_
              refine RunL.nil ?_
              refine Run.ret1 Try.func13 rfl rfl ?_
              exact absurd (by rw [Int.toNat_natCast, z48, z47, htk, hzs]) z73
            refine Sd.quiet 15 _ _ rfl rfl rfl rfl rfl (QOp.ok (fun X => OpOk.move rfl)) ?_
            refine Sd.quiet 16 _ _ rfl rfl rfl rfl rfl (QOp.ok (fun X => OpOk.strOf rfl rfl rfl rfl (Rd.right rdz16).left.left.left.left.left.left.left.left.left.left.left.left.left.left.left)) ?_
            refine Sd.quiet 17 _ _ rfl rfl rfl rfl rfl (QOp.ok (fun X => OpOk.fieldAddr fld113_1 rfl)) ?_
            refine Sd.quiet 18 _ _ rfl rfl rfl rfl rfl (QOp.ok (fun X => OpOk.load rfl rfl rfl (Blk.out Blk.pts.left.left.left.left.left.left.left.left.left.left.left.left.left.left.left.left.left.left.left.left _ _ (by first | rfl | assumption)))) ?_
            refine Sd.quiet 19 _ _ rfl rfl rfl rfl rfl (QOp.ok (fun X => OpOk.strOf rfl rfl rfl rfl rdb0.left.left.left.left.left.left.left.left.left.left.left.left.left.left.left.left.left.left.left.left.left.left)) ?_
            refine Sd.quiet 20 _ _ rfl rfl rfl rfl rfl (QOp.ok (fun X => OpOk.neqSS rfl rfl)) ?_
            refine Sd.quiet 21 _ _ rfl rfl rfl rfl rfl (QOp.ok (fun X => OpOk.pickF rfl rfl)) ?_
            (apply Sd.tail; case hall => kernel_rfl)
            refine RunL.mem (fl2 (flS (flS (flS rfl))) (sep_emp _)) ?_
            refine RunL.nil ?_
            refine Run.condNF rfl (by first | omega | with_reducible rfl | assumption) ?_
            refine Run.skip ?_
            refine Run.seq ?_
            refine Run.region ?_
            refine RunL.ok (OpOk.move rfl) rfl ?_
            refine RunL.mem (frc (frl (frl (frl rfl))) rfl) ?_
            refine RunL.call cal39 rfl (s39f (by assumption)) rfl (fun vz78 Az78 hz78 => ?_)
            obtain ⟨z79, ⟨z80, ⟨z81, ⟨rfl, rfl⟩⟩⟩⟩ := hz78
            refine RunL.ok (OpOk.move rfl) rfl ?_
            refine RunL.ok (OpOk.ext20 rfl) rfl ?_
            refine RunL.ok (OpOk.ext21 rfl) rfl ?_
            refine RunL.alloc ti86 rfl (fun bz82 => ?_)
            refine RunL.storeAll ti86 rfl rfl rfl (ones rfl) rfl rfl ?_
            refine RunL.ok (OpOk.assign rfl) rfl ?_
            refine RunL.nil ?_
            refine Run.seq ?_
            refine Run.seq ?_
            rw [rw_a2]
            rw [rw_b2]
            refine Run.region ?_
            refine RunL.ok (OpOk.move rfl) rfl ?_
            refine RunL.ok (OpOk.as (c := false) (OpOk.neq rfl rfl) (by rw [decide_eq_true (by omega)]; rfl)) rfl ?_
            refine RunL.nil ?_
            refine Run.condF rfl ?_
            refine Run.skip ?_
            refine Run.seq ?_
            refine Run.know (fun w s => (s.conv (frl (frl rfl))).ownRd0) (fun rdz83 => ?_)
            (apply Run.drawD [] (by rfl) (sep_emp _).symm; case hchk => kernel_rfl)
            refine Sd.quiet 0 _ _ rfl rfl rfl rfl rfl (QOp.ok (fun X => OpOk.move rfl)) ?_
            refine Sd.quiet 1 _ _ rfl rfl rfl rfl rfl (QOp.ok (fun X => OpOk.asT (OpOk.eql rfl rfl) (by omega))) ?_
            refine Sd.quiet 2 _ _ rfl rfl rfl rfl rfl (QOp.ok (fun X => OpOk.move rfl)) ?_
            refine Sd.quiet 3 _ _ rfl rfl rfl rfl rfl (QOp.ok (fun X => OpOk.loadS rfl rfl ti86 rfl Blk.pts.left.left.left.left.left.left.left.left.left rfl)) ?_
            refine Sd.quiet 5 _ _ rfl rfl rfl rfl rfl (QOp.ok (fun X => OpOk.loadS rfl rfl ti86 rfl Blk.pts.left.left rfl)) ?_
            (refine Sd.exec 4 rfl rfl rfl rfl rfl ?hrest (by rfl) (fun Xz84 Kz84 hKz84 => ?_); case hrest => kernel_rfl)
            refine RunL.mem (fl2 (sep_emp _) (sep_emp _)) ?_
            refine RunL.call cal44 rfl (s44 (Rd.right rdz65).left.left.left.left.left.left.left.left.left (by assumption)) rfl (fun vz85 Az85 hz85 => ?_)
            obtain ⟨z86, ⟨z87, ⟨z88, ⟨rfl, rfl⟩⟩⟩⟩ := hz85
            refine RunL.know (fun w s => (s.conv rfl).ownRd0) (fun rdz89 => ?_)
            refine Sd.ret hKz84 (Eq.trans rfl (gp2 (sep_emp _).symm (asg rfl))) ⟨_, (emp_sep _).symm⟩ ?_
            (refine Sd.exec 6 rfl rfl rfl rfl rfl ?hrest (by rfl) (fun Xz90 Kz90 hKz90 => ?_); case hrest => kernel_rfl)
            refine RunL.mem (fl2 (flS rfl) (sep_emp _)) ?_
            refine RunL.call cal44 rfl (s44 (Rd.right rdz83).left.left.left.left.left (by assumption)) rfl (fun vz91 Az91 hz91 => ?_)
            obtain ⟨z92, ⟨z93, ⟨z94, ⟨rfl, rfl⟩⟩⟩⟩ := hz91
            refine RunL.know (fun w s => (s.conv rfl).ownRd0) (fun rdz95 => ?_)
            refine Sd.ret hKz90 (Eq.trans rfl (gp2 (sep_emp _).symm (asg (asg (asg rfl))))) ⟨_, (asg rfl)⟩ ?_
            (refine Sd.exec 7 rfl rfl rfl rfl rfl ?hrest (by rfl) (fun Xz96 Kz96 hKz96 => ?_); case hrest => kernel_rfl)
            refine RunL.mem (fl2 (flS (flS (flS rfl))) (sep_emp _)) ?_
            refine RunL.call cal43 rfl (s43 (Rd.right rdz89).left.left (Rd.right rdz95)) rfl (fun vz97 Az97 hz97 => ?_)
            obtain ⟨z98, ⟨rfl, rfl⟩⟩ := hz97
            refine Sd.ret hKz96 (Eq.trans rfl (gp2 (sep_emp _).symm (asg (asg (asg (asg rfl)))))) ⟨_, rfl⟩ ?_
            refine Sd.quiet 8 _ _ rfl rfl rfl rfl rfl (QOp.ok (fun X => OpOk.not rfl)) ?_
            refine Sd.quiet 9 _ _ rfl rfl rfl rfl rfl (QOp.ok (fun X => OpOk.pickT rfl rfl)) ?_
            refine Sd.quiet 10 _ _ rfl rfl rfl rfl rfl (QOp.ok (fun X => OpOk.move rfl)) ?_
            refine Sd.quiet 11 _ _ rfl rfl rfl rfl rfl (QOp.ok (fun X => OpOk.move rfl)) ?_
            refine Sd.quiet 12 _ _ rfl rfl rfl rfl rfl (QOp.ok (fun X => OpOk.as (c := false) (OpOk.neq rfl rfl) (by rw [decide_eq_true (by omega)]; rfl))) ?_
            refine Sd.quiet 13 _ _ rfl rfl rfl rfl rfl (QOp.ok (fun X => OpOk.move rfl)) ?_
            refine Sd.skip 14 _ rfl rfl rfl rfl rfl ?_
            refine Sd.skip 15 _ rfl rfl rfl rfl rfl ?_
            refine Sd.skip 16 _ rfl rfl rfl rfl rfl ?_
            refine Sd.skip 17 _ rfl rfl rfl rfl rfl ?_
            refine Sd.skip 18 _ rfl rfl rfl rfl rfl ?_
            refine Sd.skip 19 _ rfl rfl rfl rfl rfl ?_
            refine Sd.skip 20 _ rfl rfl rfl rfl rfl ?_
            refine Sd.skip 21 _ rfl rfl rfl rfl rfl ?_
            refine Sd.skip 22 _ rfl rfl rfl rfl rfl ?_
            refine Sd.skip 23 _ rfl rfl rfl rfl rfl ?_
            refine Sd.skip 24 _ rfl rfl rfl rfl rfl ?_
            refine Sd.skip 25 _ rfl rfl rfl rfl rfl ?_
            refine Sd.skip 26 _ rfl rfl rfl rfl rfl ?_
            refine Sd.skip 27 _ rfl rfl rfl rfl rfl ?_
            refine Sd.skip 28 _ rfl rfl rfl rfl rfl ?_
            refine Sd.skip 29 _ rfl rfl rfl rfl rfl ?_
            refine Sd.skip 30 _ rfl rfl rfl rfl rfl ?_
            refine Sd.quiet 31 _ _ rfl rfl rfl rfl rfl (QOp.ok (fun X => OpOk.pickF rfl rfl)) ?_
            refine Sd.quiet 32 _ _ rfl rfl rfl rfl rfl (QOp.ok (fun X => OpOk.pickF rfl rfl)) ?_
            (apply Sd.tail; case hall => kernel_rfl)
            refine RunL.mem (fl2 (flS (flS (flS (flS rfl)))) (sep_emp _)) ?_
            refine RunL.nil ?_
            refine Run.condF rfl ?_
            refine Run.skip ?_
            refine Run.inBlock ?_
            refine Run.region ?_
            refine RunL.ok (OpOk.move rfl) rfl ?_
            refine RunL.ok (OpOk.addN _ 1 rfl rfl rfl rfl (by omega)) rfl ?_
            refine RunL.ok (OpOk.assign rfl) rfl ?_
            refine RunL.nil ?_
            first
            | rw [show max (-1 : Int) (-1) = -1 from rfl]
            | skip
            refine Run.jump ((ih (i + 1, _, zs, q + 1, 3 - t, es2) ⟨by dsimp only; omega, by dsimp only; omega, hSz⟩ (by dsimp only; omega))) ⟨rfl, rfl, rfl, trivial⟩ (Grew.of (Eq.trans (frc (frl (frl (frl (frl (frl (frl rfl)))))) rfl) (congrArg (· * _) (asg (asg (asg (asg (asg (asg (asg (asg (asg (asg (asg (asg (asg (asg (asg (asg (asg (asg (asg (asg (asg (asg (asg (asg (asg (asg (asg (asg (asg (asg as1)))))))))))))))))))))))))))))))) (Grew.refl _))
          refine RunL.off rfl rfl rfl rfl ?_
          refine RunL.off rfl rfl rfl rfl ?_
          refine RunL.off rfl rfl rfl rfl ?_
          refine RunL.off rfl rfl rfl rfl ?_
          refine RunL.ok (OpOk.pickF rfl rfl) rfl ?_
          refine RunL.nil ?_
          refine Run.condF rfl ?_
          refine Run.skip ?_
          refine Run.seq ?_
          refine Run.seq ?_
          refine Run.know (fun w s => (s.conv (frl (frl rfl))).ownRd0) (fun rdz99 => ?_)
          (apply Run.drawD [] (by rfl) (Eq.trans rfl rfl); case hchk => kernel_rfl)
          refine Sd.quiet 0 _ _ rfl rfl rfl rfl rfl (QOp.ok (fun X => OpOk.move rfl)) ?_
          refine Sd.quiet 1 _ _ rfl rfl rfl rfl rfl (QOp.ok (fun X => OpOk.move rfl)) ?_
          refine Sd.quiet 2 _ _ rfl rfl rfl rfl rfl (QOp.ok (fun X => OpOk.as (c := false) (OpOk.neq rfl rfl) (by rw [decide_eq_true (by omega)]; rfl))) ?_
          refine Sd.quiet 3 _ _ rfl rfl rfl rfl rfl (QOp.ok (fun X => OpOk.move rfl)) ?_
          refine Sd.quiet 4 _ _ rfl rfl rfl rfl rfl (QOp.ok (fun X => OpOk.move rfl)) ?_
          refine Sd.quiet 7 _ _ rfl rfl rfl rfl rfl (QOp.ok (fun X => OpOk.move rfl)) ?_
          refine Sd.quiet 8 _ _ rfl rfl rfl rfl rfl (QOp.ok (fun X => OpOk.move rfl)) ?_
          refine Sd.quiet 9 _ _ rfl rfl rfl rfl rfl (QOp.ok (fun X => OpOk.move rfl)) ?_
          (refine Sd.exec 5 rfl rfl rfl rfl rfl ?hrest (by rfl) (fun Xz100 Kz100 hKz100 => ?_); case hrest => kernel_rfl)
          refine RunL.mem (fl2 (sep_emp _) rfl) ?_
          refine RunL.call cal49 rfl (s49 (by assumption)) rfl (fun vz101 Az101 hz101 => ?_)
          obtain rfl := hz101
          refine RunL.know (fun w s => (s.conv rfl).ownRd0) (fun rdz102 => ?_)
          refine Sd.ret hKz100 (Eq.trans rfl (gp2 (sep_emp _).symm (asg rfl))) ⟨_, (emp_sep _).symm⟩ ?_
          refine Sd.quiet 6 _ _ rfl rfl rfl rfl rfl (QOp.ok (fun X => OpOk.strOf rfl rfl rfl rfl (Rd.right (Rd.right rdz102)).left)) ?_
          (refine Sd.exec 10 rfl rfl rfl rfl rfl ?hrest (by rfl) (fun Xz103 Kz103 hKz103 => ?_); case hrest => kernel_rfl)
          refine RunL.mem (fl2 (flS rfl) (sep_emp _)) ?_
          refine RunL.call cal54 rfl (s54 (Rd.right rdz12).left.left.left.left.left.left.left.left.left.left.left.left.left.left.left.left.left (Rd.right rdz50).left.left.left.left.left.left (Alls.right z46).left.left.left.left.left.left.left rfl (by assumption) (by omega)) rfl (fun vz104 Az104 hz104 => ?_)
          obtain ⟨z105, rfl⟩ := hz104
          refine RunL.know (fun w s => (s.conv rfl).ownRd0) (fun rdz106 => ?_)
          refine Sd.ret hKz103 (Eq.trans rfl (gp2 (sep_emp _).symm (asg (asg (asg rfl))))) ⟨_, (asg rfl)⟩ ?_
          refine Sd.quiet 11 _ _ rfl rfl rfl rfl rfl (QOp.ok (fun X => OpOk.strOf rfl rfl rfl rfl (Rd.right (Rd.right rdz106)).left)) ?_
          refine Sd.quiet 12 _ _ rfl rfl rfl rfl rfl (QOp.ok (fun X => OpOk.neqSS rfl rfl)) ?_
          refine Sd.quiet 13 _ _ rfl rfl rfl rfl rfl (QOp.ok (fun X => OpOk.pickF rfl rfl)) ?_
          refine Sd.quiet 14 _ _ rfl rfl rfl rfl rfl (QOp.ok (fun X => OpOk.move rfl)) ?_
          refine Sd.splitN (fun z107 => ?_) (fun z107 => ?_)
          · refine Sd.skip 15 _ rfl rfl rfl rfl rfl ?_
            refine Sd.skip 16 _ rfl rfl rfl rfl rfl ?_
            refine Sd.skip 17 _ rfl rfl rfl rfl rfl ?_
            refine Sd.skip 18 _ rfl rfl rfl rfl rfl ?_
            refine Sd.skip 19 _ rfl rfl rfl rfl rfl ?_
            refine Sd.skip 20 _ rfl rfl rfl rfl rfl ?_
            refine Sd.quiet 21 _ _ rfl rfl rfl rfl rfl (QOp.ok (fun X => OpOk.pickT rfl rfl)) ?_
            (apply Sd.tail; case hall => kernel_rfl)
            refine RunL.mem (fl2 (flS (flS (flS rfl))) (sep_emp _)) ?_
            refine RunL.nil ?_
            refine Run.condT rfl ?_
            refine Run.seq ?_
            refine Run.region ?_
            refine RunL.ok (OpOk.assign rfl) rfl ?_
            refine RunL.nil ?_
            refine Run.ret1 Try.func13 rfl rfl ?_
            exact absurd (by rw [Int.toNat_natCast, z48, z47, htk, hzs]) z107
          refine Sd.quiet 15 _ _ rfl rfl rfl rfl rfl (QOp.ok (fun X => OpOk.move rfl)) ?_
          refine Sd.quiet 16 _ _ rfl rfl rfl rfl rfl (QOp.ok (fun X => OpOk.strOf rfl rfl rfl rfl (Rd.right rdz16).left.left.left.left.left.left.left.left.left.left.left.left.left.left.left)) ?_
          refine Sd.quiet 17 _ _ rfl rfl rfl rfl rfl (QOp.ok (fun X => OpOk.fieldAddr fld113_1 rfl)) ?_
          refine Sd.quiet 18 _ _ rfl rfl rfl rfl rfl (QOp.ok (fun X => OpOk.load rfl rfl rfl (Blk.out Blk.pts.left.left.left.left.left.left.left.left.left.left.left.left.left.left.left.left.left.left.left.left _ _ (by first | rfl | assumption)))) ?_
          refine Sd.quiet 19 _ _ rfl rfl rfl rfl rfl (QOp.ok (fun X => OpOk.strOf rfl rfl rfl rfl rdb0.left.left.left.left.left.left.left.left.left.left.left.left.left.left.left.left.left.left.left.left.left.left)) ?_
          refine Sd.quiet 20 _ _ rfl rfl rfl rfl rfl (QOp.ok (fun X => OpOk.neqSS rfl rfl)) ?_
          refine Sd.quiet 21 _ _ rfl rfl rfl rfl rfl (QOp.ok (fun X => OpOk.pickF rfl rfl)) ?_
          (apply Sd.tail; case hall => kernel_rfl)
          refine RunL.mem (fl2 (flS (flS (flS rfl))) (sep_emp _)) ?_
          refine RunL.nil ?_
          refine Run.condNF rfl (by first | omega | with_reducible rfl | assumption) ?_
          refine Run.skip ?_
          refine Run.seq ?_
          refine Run.region ?_
          refine RunL.ok (OpOk.move rfl) rfl ?_
          refine RunL.mem (frc (frl (frl (frl rfl))) rfl) ?_
          refine RunL.call cal39 rfl (s39f (by assumption)) rfl (fun vz112 Az112 hz112 => ?_)
          obtain ⟨z113, ⟨z114, ⟨z115, ⟨rfl, rfl⟩⟩⟩⟩ := hz112
          refine RunL.ok (OpOk.move rfl) rfl ?_
          refine RunL.ok (OpOk.ext20 rfl) rfl ?_
          refine RunL.ok (OpOk.ext21 rfl) rfl ?_
          refine RunL.alloc ti86 rfl (fun bz116 => ?_)
          refine RunL.storeAll ti86 rfl rfl rfl (ones rfl) rfl rfl ?_
          refine RunL.ok (OpOk.assign rfl) rfl ?_
          refine RunL.nil ?_
          refine Run.seq ?_
          refine Run.seq ?_
          rw [rw_a2]
          rw [rw_b2]
          refine Run.region ?_
          refine RunL.ok (OpOk.move rfl) rfl ?_
          refine RunL.ok (OpOk.as (c := false) (OpOk.neq rfl rfl) (by rw [decide_eq_true (by omega)]; rfl)) rfl ?_
          refine RunL.nil ?_
          refine Run.condF rfl ?_
          refine Run.skip ?_
          refine Run.seq ?_
          refine Run.know (fun w s => (s.conv (frl (frl rfl))).ownRd0) (fun rdz117 => ?_)
          (apply Run.drawD [] (by rfl) (sep_emp _).symm; case hchk => kernel_rfl)
          refine Sd.quiet 0 _ _ rfl rfl rfl rfl rfl (QOp.ok (fun X => OpOk.move rfl)) ?_
          refine Sd.quiet 1 _ _ rfl rfl rfl rfl rfl (QOp.ok (fun X => OpOk.asT (OpOk.eql rfl rfl) (by omega))) ?_
          refine Sd.quiet 2 _ _ rfl rfl rfl rfl rfl (QOp.ok (fun X => OpOk.move rfl)) ?_
          refine Sd.quiet 3 _ _ rfl rfl rfl rfl rfl (QOp.ok (fun X => OpOk.loadS rfl rfl ti86 rfl Blk.pts.left.left.left.left.left.left.left.left.left rfl)) ?_
          refine Sd.quiet 5 _ _ rfl rfl rfl rfl rfl (QOp.ok (fun X => OpOk.loadS rfl rfl ti86 rfl Blk.pts.left.left rfl)) ?_
          (refine Sd.exec 4 rfl rfl rfl rfl rfl ?hrest (by rfl) (fun Xz118 Kz118 hKz118 => ?_); case hrest => kernel_rfl)
          refine RunL.mem (fl2 (sep_emp _) (sep_emp _)) ?_
          refine RunL.call cal44 rfl (s44 (Rd.right rdz99).left.left.left.left.left.left.left.left.left (by assumption)) rfl (fun vz119 Az119 hz119 => ?_)
          obtain ⟨z120, ⟨z121, ⟨z122, ⟨rfl, rfl⟩⟩⟩⟩ := hz119
          refine RunL.know (fun w s => (s.conv rfl).ownRd0) (fun rdz123 => ?_)
          refine Sd.ret hKz118 (Eq.trans rfl (gp2 (sep_emp _).symm (asg rfl))) ⟨_, (emp_sep _).symm⟩ ?_
          (refine Sd.exec 6 rfl rfl rfl rfl rfl ?hrest (by rfl) (fun Xz124 Kz124 hKz124 => ?_); case hrest => kernel_rfl)
          refine RunL.mem (fl2 (flS rfl) (sep_emp _)) ?_
          refine RunL.call cal44 rfl (s44 (Rd.right rdz117).left.left.left.left.left (by assumption)) rfl (fun vz125 Az125 hz125 => ?_)
          obtain ⟨z126, ⟨z127, ⟨z128, ⟨rfl, rfl⟩⟩⟩⟩ := hz125
          refine RunL.know (fun w s => (s.conv rfl).ownRd0) (fun rdz129 => ?_)
          refine Sd.ret hKz124 (Eq.trans rfl (gp2 (sep_emp _).symm (asg (asg (asg rfl))))) ⟨_, (asg rfl)⟩ ?_
          (refine Sd.exec 7 rfl rfl rfl rfl rfl ?hrest (by rfl) (fun Xz130 Kz130 hKz130 => ?_); case hrest => kernel_rfl)
          refine RunL.mem (fl2 (flS (flS (flS rfl))) (sep_emp _)) ?_
          refine RunL.call cal43 rfl (s43 (Rd.right rdz123).left.left (Rd.right rdz129)) rfl (fun vz131 Az131 hz131 => ?_)
          obtain ⟨z132, ⟨rfl, rfl⟩⟩ := hz131
          refine Sd.ret hKz130 (Eq.trans rfl (gp2 (sep_emp _).symm (asg (asg (asg (asg rfl)))))) ⟨_, rfl⟩ ?_
          refine Sd.quiet 8 _ _ rfl rfl rfl rfl rfl (QOp.ok (fun X => OpOk.not rfl)) ?_
          refine Sd.quiet 9 _ _ rfl rfl rfl rfl rfl (QOp.ok (fun X => OpOk.pickT rfl rfl)) ?_
          refine Sd.quiet 10 _ _ rfl rfl rfl rfl rfl (QOp.ok (fun X => OpOk.move rfl)) ?_
          refine Sd.quiet 11 _ _ rfl rfl rfl rfl rfl (QOp.ok (fun X => OpOk.move rfl)) ?_
          refine Sd.quiet 12 _ _ rfl rfl rfl rfl rfl (QOp.ok (fun X => OpOk.as (c := false) (OpOk.neq rfl rfl) (by rw [decide_eq_true (by omega)]; rfl))) ?_
          refine Sd.quiet 13 _ _ rfl rfl rfl rfl rfl (QOp.ok (fun X => OpOk.move rfl)) ?_
          refine Sd.skip 14 _ rfl rfl rfl rfl rfl ?_
          refine Sd.skip 15 _ rfl rfl rfl rfl rfl ?_
          refine Sd.skip 16 _ rfl rfl rfl rfl rfl ?_
          refine Sd.skip 17 _ rfl rfl rfl rfl rfl ?_
          refine Sd.skip 18 _ rfl rfl rfl rfl rfl ?_
          refine Sd.skip 19 _ rfl rfl rfl rfl rfl ?_
          refine Sd.skip 20 _ rfl rfl rfl rfl rfl ?_
          refine Sd.skip 21 _ rfl rfl rfl rfl rfl ?_
          refine Sd.skip 22 _ rfl rfl rfl rfl rfl ?_
          refine Sd.skip 23 _ rfl rfl rfl rfl rfl ?_
          refine Sd.skip 24 _ rfl rfl rfl rfl rfl ?_
          refine Sd.skip 25 _ rfl rfl rfl rfl rfl ?_
          refine Sd.skip 26 _ rfl rfl rfl rfl rfl ?_
          refine Sd.skip 27 _ rfl rfl rfl rfl rfl ?_
          refine Sd.skip 28 _ rfl rfl rfl rfl rfl ?_
          refine Sd.skip 29 _ rfl rfl rfl rfl rfl ?_
          refine Sd.skip 30 _ rfl rfl rfl rfl rfl ?_
          refine Sd.quiet 31 _ _ rfl rfl rfl rfl rfl (QOp.ok (fun X => OpOk.pickF rfl rfl)) ?_
          refine Sd.quiet 32 _ _ rfl rfl rfl rfl rfl (QOp.ok (fun X => OpOk.pickF rfl rfl)) ?_
          (apply Sd.tail; case hall => kernel_rfl)
          refine RunL.mem (fl2 (flS (flS (flS (flS rfl)))) (sep_emp _)) ?_
          refine RunL.nil ?_
          refine Run.condF rfl ?_
          refine Run.skip ?_
          refine Run.inBlock ?_
          refine Run.region ?_
          refine RunL.ok (OpOk.move rfl) rfl ?_
          refine RunL.ok (OpOk.addN _ 1 rfl rfl rfl rfl (by omega)) rfl ?_
          refine RunL.ok (OpOk.assign rfl) rfl ?_
          refine RunL.nil ?_
          first
          | rw [show max (-1 : Int) (-1) = -1 from rfl]
          | skip
          refine Run.jump ((ih (i + 1, _, zs, q + 1, 3 - t, es2) ⟨by dsimp only; omega, by dsimp only; omega, hSz⟩ (by dsimp only; omega))) ⟨rfl, rfl, rfl, trivial⟩ (Grew.of (Eq.trans (frc (frl (frl (frl (frl (frl (frl rfl)))))) rfl) (congrArg (· * _) (asg (asg (asg (asg (asg (asg (asg (asg (asg (asg (asg (asg (asg (asg (asg (asg (asg (asg (asg (asg (asg (asg (asg (asg (asg (asg (asg (asg (asg (asg as1)))))))))))))))))))))))))))))))) (Grew.refl _))
        · have hk0 : kk = 0 := by rw [← hkk, hC.bad (by rw [hff]; exact hf0)]; rfl
          have hR0 : (dropsP q t es o i2).1 = [] := hC.bad (by rw [hff]; exact hf0)
          have hE : errN (dropsP q t es o i2) (max n (-1)) = ff := by rw [errN, hkk, if_neg (by omega), hff]
          have hO : OutIs xs (dropsP q t es o i2) (max n (-1)) a b q t xs ff 0 0 0 0 [] := ⟨hE, by rw [vwN, hE, if_neg hf0], by rw [hR0, List.take_nil]; rfl⟩
          have hxl := hSx.len
          refine Run.seq ?_
          refine Run.seq ?_
          refine Run.region ?_
          refine RunL.ok (OpOk.move rfl) rfl ?_
          refine RunL.ok (OpOk.move rfl) rfl ?_
          refine RunL.ok (OpOk.lenR rfl rfl rd.left.left rfl) rfl ?_
          refine RunL.ok (OpOk.asT (OpOk.lss rfl rfl) (by omega)) rfl ?_
          refine RunL.ok (OpOk.move rfl) rfl ?_
          refine RunL.on rfl rfl ?_
          refine RunL.ok (OpOk.move rfl) rfl ?_
          refine RunL.on rfl rfl ?_
          refine RunL.ok (OpOk.asT (OpOk.lss rfl rfl) (by omega)) rfl ?_
          refine RunL.ok (OpOk.pickT rfl rfl) rfl ?_
          refine RunL.nil ?_
          refine Run.condT rfl ?_
          refine Run.skip ?_
          refine Run.seq ?_
          refine Run.block ?_
          refine Run.seq ?_
          refine Run.region ?_
          refine RunL.ok (OpOk.move rfl) rfl ?_
          refine RunL.ok (OpOk.move rfl) rfl ?_
          refine RunL.ok (OpOk.idxN rfl ti113 rfl rd.left.left rfl (by omega)) rfl ?_
          refine RunL.ok (OpOk.loadFlE (by assumption) rfl rfl ti113 rfl rd.left.left (fun _ => rfl) rfl (by omega)) rfl ?_
          refine RunL.alloc ti113 rfl (fun bz1 => ?_)
          refine RunL.storeAll ti113 rfl rfl rfl (fun w hw => OneC.one (enc := encT113) (((k, o, i2, s), v, bs, true, n)) w hw) rfl rfl ?_
          refine RunL.nil ?_
          refine Run.seq ?_
          refine Run.region ?_
          refine RunL.ok (OpOk.move rfl) rfl ?_
          refine RunL.mem (frc (frl rfl) rfl) ?_
          refine RunL.call cal39 rfl (s39f (by assumption)) rfl (fun vz6 Az6 hz6 => ?_)
          obtain ⟨z7, ⟨z8, ⟨z9, ⟨rfl, rfl⟩⟩⟩⟩ := hz6
          refine RunL.ok (OpOk.move rfl) rfl ?_
          refine RunL.ok (OpOk.ext20 rfl) rfl ?_
          refine RunL.ok (OpOk.ext21 rfl) rfl ?_
          refine RunL.alloc ti86 rfl (fun bz10 => ?_)
          refine RunL.storeAll ti86 rfl rfl rfl (ones rfl) rfl rfl ?_
          refine RunL.ok (OpOk.assign rfl) rfl ?_
          refine RunL.nil ?_
          refine Run.seq ?_
          rw [rw_a]
          rw [rw_b]
          refine Run.region ?_
          refine RunL.ok (OpOk.move rfl) rfl ?_
          refine RunL.mem (frc (frl rfl) rfl) ?_
          refine RunL.call cal49 rfl (s49 (by assumption)) rfl (fun vz11 Az11 hz11 => ?_)
          obtain rfl := hz11
          refine RunL.ok (OpOk.assign rfl) rfl ?_
          refine RunL.nil ?_
          refine Run.seq ?_
          refine Run.seq ?_
          refine Run.region ?_
          refine RunL.ok (OpOk.move rfl) rfl ?_
          refine RunL.ok (OpOk.as (c := false) (OpOk.neq rfl rfl) (by rw [decide_eq_true (by omega)]; rfl)) rfl ?_
          refine RunL.ok (OpOk.move rfl) rfl ?_
          refine RunL.on rfl rfl ?_
          refine RunL.ok (OpOk.move rfl) rfl ?_
          refine RunL.on rfl rfl ?_
          refine RunL.know (fun w s => (s.conv rfl).ownRd0) (fun rdz12 => ?_)
          refine RunL.ok (OpOk.lenR rfl rfl (Rd.right rdz12) rfl) rfl ?_
          refine RunL.on rfl rfl ?_
          refine RunL.ok (OpOk.as (c := false) (OpOk.neq rfl rfl) (by rw [decide_eq_true (by omega)]; rfl)) rfl ?_
          refine RunL.ok (OpOk.pickF rfl rfl) rfl ?_
          refine RunL.nil ?_
          refine Run.condF rfl ?_
          refine Run.skip ?_
          refine Run.seq ?_
          refine Run.region ?_
          refine RunL.lit0B rfl ti5 rfl (fun vz13 rdz13 => ?_)
          refine RunL.ok (OpOk.fieldAddr fld113_1 rfl) rfl ?_
          refine RunL.ok (OpOk.load rfl rfl rfl (Blk.out Blk.pts.left.left.left.left.left.left _ _ (by first | rfl | assumption))) rfl ?_
          refine RunL.appendB0 rfl ti5 rfl rfl rfl rfl rdb0.left.left.left.left.left.left.left.left (by omega) rfl (fun vz14 rdz14 => ?_)
          refine RunL.ok (OpOk.assign rfl) rfl ?_
          refine RunL.nil ?_
          refine Run.seq ?_
          refine Run.know (fun w s => (s.conv (frl (frl (frl (frl rfl))))).ownRd0) (fun rdz15 => ?_)
          refine Run.know (fun w s => (s.conv rfl).ownRd0) (fun rdz16 => ?_)
          (apply Run.drawD [] (by rfl) (sep_emp _).symm; case hchk => kernel_rfl)
          refine Sd.quiet 0 _ _ rfl rfl rfl rfl rfl (QOp.ok (fun X => OpOk.loadS rfl rfl ti86 rfl Blk.pts.left.left.left.left.left rfl)) ?_
          refine Sd.quiet 2 _ _ rfl rfl rfl rfl rfl (QOp.ok (fun X => OpOk.fieldAddr fld113_0 rfl)) ?_
          refine Sd.quiet 3 _ _ rfl rfl rfl rfl rfl (QOp.ok (fun X => OpOk.loadSub rfl rfl ti111 rfl Blk.pts.left.left.left.left.left.left.left.left rfl rfl)) ?_
          refine Sd.quiet 4 _ _ rfl rfl rfl rfl rfl (QOp.ok (fun X => OpOk.fieldAddr fld113_1 rfl)) ?_
          refine Sd.quiet 5 _ _ rfl rfl rfl rfl rfl (QOp.ok (fun X => OpOk.load rfl rfl rfl (Blk.out Blk.pts.left.left.left.left.left.left.left.left _ _ (by first | rfl | assumption)))) ?_
          (refine Sd.exec 1 rfl rfl rfl rfl rfl ?hrest (by rfl) (fun Xz17 Kz17 hKz17 => ?_); case hrest => kernel_rfl)
          refine RunL.mem (fl2 (sep_emp _) (sep_emp _)) ?_
          refine RunL.call cal44 rfl (s44 (Rd.right rdz15).left.left.left.left.left (by assumption)) rfl (fun vz18 Az18 hz18 => ?_)
          obtain ⟨z19, ⟨z20, ⟨z21, ⟨rfl, rfl⟩⟩⟩⟩ := hz18
          refine RunL.know (fun w s => (s.conv rfl).ownRd0) (fun rdz22 => ?_)
          refine Sd.ret hKz17 (Eq.trans rfl (gp2 (sep_emp _).symm (asg rfl))) ⟨_, (emp_sep _).symm⟩ ?_
          (refine Sd.exec 6 rfl rfl rfl rfl rfl ?hrest (by rfl) (fun Xz23 Kz23 hKz23 => ?_); case hrest => kernel_rfl)
          refine RunL.mem (fl2 (flS rfl) (sep_emp _)) ?_
          refine RunL.call cal58 rfl (s58k (Rd.right rdz22) rdb0.left.left.left.left.left.left.left.left.left.left.left (by assumption) (by assumption)) rfl (fun vz24 Az24 hz24 => ?_)
          obtain ⟨z25, ⟨z26, ⟨z27, ⟨z28, ⟨rfl, ⟨z29, ⟨z30, ⟨z31, ⟨z32, rfl⟩⟩⟩⟩⟩⟩⟩⟩⟩ := hz24
          refine RunL.know (fun w s => (s.conv rfl).ownRd0) (fun rdz33 => ?_)
          refine Sd.ret hKz23 (Eq.trans rfl (gp2 (sep_emp _).symm (asg (asg (asg (asg rfl)))))) ⟨_, (asg (asg rfl))⟩ ?_
          refine Sd.quiet 7 _ _ rfl rfl rfl rfl rfl (QOp.ok (fun X => OpOk.move rfl)) ?_
          refine Sd.quiet 8 _ _ rfl rfl rfl rfl rfl (QOp.ok (fun X => OpOk.ext20 rfl)) ?_
          refine Sd.quiet 9 _ _ rfl rfl rfl rfl rfl (QOp.ok (fun X => OpOk.ext21 rfl)) ?_
          refine Sd.quiet 10 _ _ rfl rfl rfl rfl rfl (QOp.ok (fun X => OpOk.assign rfl)) ?_
          refine Sd.quiet 11 _ _ rfl rfl rfl rfl rfl (QOp.ok (fun X => OpOk.assign rfl)) ?_
          (apply Sd.tail; case hall => kernel_rfl)
          refine RunL.mem (fl2 (flS (flS (flS (flS rfl)))) (sep_emp _)) ?_
          refine RunL.nil ?_
          refine Run.seq ?_
          refine Run.seq ?_
          refine Run.region ?_
          refine RunL.ok (OpOk.fieldAddr fld113_2 rfl) rfl ?_
          refine RunL.ok (OpOk.load rfl rfl rfl (Blk.out Blk.pts.left.left.left.left.left.left.left.left.left.left.left _ _ (by first | rfl | assumption))) rfl ?_
          refine RunL.nil ?_
          refine Run.condT rfl ?_
          refine Run.drop [12, 13] ?_
          (apply Run.drawD [] (by rfl) (sep_emp _).symm; case hchk => kernel_rfl)
          refine Sd.quiet 0 _ _ rfl rfl rfl rfl rfl (QOp.ok (fun X => OpOk.loadS rfl rfl ti86 rfl Blk.pts.left.left.left.left.left.left.left.left.left.left rfl)) ?_
          refine Sd.quiet 2 _ _ rfl rfl rfl rfl rfl (QOp.ok (fun X => OpOk.fieldAddr fld113_0 rfl)) ?_
          refine Sd.quiet 3 _ _ rfl rfl rfl rfl rfl (QOp.ok (fun X => OpOk.fieldAddr fld111_1 rfl)) ?_
          refine Sd.quiet 4 _ _ rfl rfl rfl rfl rfl (QOp.ok (fun X => OpOk.load rfl rfl rfl (Blk.out Blk.pts.left.left.left.left.left.left.left.left.left.left.left.left.left _ _ (by first | rfl | assumption)))) ?_
          refine Sd.quiet 5 _ _ rfl rfl rfl rfl rfl (QOp.ok (fun X => OpOk.fieldAddr fld113_0 rfl)) ?_
          refine Sd.quiet 6 _ _ rfl rfl rfl rfl rfl (QOp.ok (fun X => OpOk.fieldAddr fld111_2 rfl)) ?_
          refine Sd.quiet 7 _ _ rfl rfl rfl rfl rfl (QOp.ok (fun X => OpOk.load rfl rfl rfl (Blk.out Blk.pts.left.left.left.left.left.left.left.left.left.left.left.left.left _ _ (by first | rfl | assumption)))) ?_
          (refine Sd.exec 1 rfl rfl rfl rfl rfl ?hrest (by rfl) (fun Xz34 Kz34 hKz34 => ?_); case hrest => kernel_rfl)
          refine RunL.mem (fl2 (sep_emp _) (sep_emp _)) ?_
          refine RunL.call cal44 rfl (s44 (Rd.right rdz15).left.left.left.left.left.left.left.left.left.left (by assumption)) rfl (fun vz35 Az35 hz35 => ?_)
          obtain ⟨z36, ⟨z37, ⟨z38, ⟨rfl, rfl⟩⟩⟩⟩ := hz35
          refine RunL.know (fun w s => (s.conv rfl).ownRd0) (fun rdz39 => ?_)
          refine Sd.ret hKz34 (Eq.trans rfl (gp2 (sep_emp _).symm (asg rfl))) ⟨_, (emp_sep _).symm⟩ ?_
          (refine Sd.exec 8 rfl rfl rfl rfl rfl ?hrest (by rfl) (fun Xz40 Kz40 hKz40 => ?_); case hrest => kernel_rfl)
          refine RunL.mem (fl2 (flS rfl) (sep_emp _)) ?_
          refine RunL.call cal59 rfl (s59k (Rd.right rdz39) (by assumption) (by assumption)) rfl (fun vz41 Az41 hz41 => ?_)
          obtain ⟨z42, ⟨z43, ⟨z44, ⟨z45, ⟨rfl, ⟨z46, ⟨z47, ⟨z48, ⟨z49, rfl⟩⟩⟩⟩⟩⟩⟩⟩⟩ := hz41
          refine RunL.know (fun w s => (s.conv rfl).ownRd0) (fun rdz50 => ?_)
          refine Sd.ret hKz40 (Eq.trans rfl (gp2 (sep_emp _).symm (asg (asg (asg (asg rfl)))))) ⟨_, (asg (asg rfl))⟩ ?_
          refine Sd.quiet 9 _ _ rfl rfl rfl rfl rfl (QOp.ok (fun X => OpOk.move rfl)) ?_
          refine Sd.quiet 10 _ _ rfl rfl rfl rfl rfl (QOp.ok (fun X => OpOk.ext20 rfl)) ?_
          refine Sd.quiet 11 _ _ rfl rfl rfl rfl rfl (QOp.ok (fun X => OpOk.ext21 rfl)) ?_
          refine Sd.quiet 12 _ _ rfl rfl rfl rfl rfl (QOp.ok (fun X => OpOk.assign rfl)) ?_
          refine Sd.quiet 13 _ _ rfl rfl rfl rfl rfl (QOp.ok (fun X => OpOk.assign rfl)) ?_
          (apply Sd.tail; case hall => kernel_rfl)
          refine RunL.mem (fl2 (flS (flS (flS (flS rfl)))) (sep_emp _)) ?_
          refine RunL.nil ?_
          refine Run.seq ?_
          refine Run.region ?_
          refine RunL.ok (OpOk.move rfl) rfl ?_
          refine RunL.ok (OpOk.fieldAddr fld113_3 rfl) rfl ?_
          refine RunL.ok (OpOk.load rfl rfl rfl (Blk.out Blk.pts.left.left.left.left.left.left.left.left.left.left.left.left.left.left.left.left _ _ (by first | rfl | assumption))) rfl ?_
          refine RunL.mem (frc (frl (frl (frl (frl (frl (frl (frl (frl (frl (frl (frl (frl rfl)))))))))))) rfl) ?_
          refine RunL.call cal50 rfl (s50 (by assumption)) rfl (fun vz51 Az51 hz51 => ?_)
          obtain ⟨rfl, rfl⟩ := hz51
          refine RunL.nil ?_
          refine Run.seq ?_
          refine Run.region ?_
          refine RunL.alloc ti86 rfl (fun bz52 => ?_)
          refine RunL.nil ?_
          refine Run.seq ?_
          refine Run.seq ?_
          refine Run.region ?_
          refine RunL.ok (OpOk.fieldAddr fld113_2 rfl) rfl ?_
          refine RunL.ok (OpOk.load rfl rfl rfl (Blk.out Blk.pts.left.left.left.left.left.left.left.left.left.left.left.left.left.left.left.left.left _ _ (by first | rfl | assumption))) rfl ?_
          refine RunL.nil ?_
          refine Run.condT rfl ?_
          refine Run.region ?_
          refine RunL.ok (OpOk.move rfl) rfl ?_
          refine RunL.ok (OpOk.loadS rfl rfl ti86 rfl Blk.pts.left.left.left.left.left.left.left.left.left.left.left.left.left.left rfl) rfl ?_
          refine RunL.ok (OpOk.fieldAddr fld113_0 rfl) rfl ?_
          refine RunL.ok (OpOk.fieldAddr fld111_1 rfl) rfl ?_
          refine RunL.ok (OpOk.load rfl rfl rfl (Blk.out Blk.pts.left.left.left.left.left.left.left.left.left.left.left.left.left.left.left.left.left _ _ (by first | rfl | assumption))) rfl ?_
          refine RunL.ok (OpOk.fieldAddr fld113_0 rfl) rfl ?_
          refine RunL.ok (OpOk.fieldAddr fld111_2 rfl) rfl ?_
          refine RunL.ok (OpOk.load rfl rfl rfl (Blk.out Blk.pts.left.left.left.left.left.left.left.left.left.left.left.left.left.left.left.left.left _ _ (by first | rfl | assumption))) rfl ?_
          refine RunL.mem (frc (frl rfl) rfl) ?_
          refine RunL.call cal56 rfl (s56e (Rd.right rdz15).left.left.left.left.left.left.left.left.left.left.left.left.left.left (by assumption) (by assumption) (by assumption)) rfl (fun vz57 Az57 hz57 => ?_)
          obtain ⟨z58, ⟨z59, ⟨z60, ⟨z61, ⟨rfl, ⟨z62, rfl⟩⟩⟩⟩⟩⟩ := hz57
          refine RunL.ok (OpOk.move rfl) rfl ?_
          refine RunL.ok (OpOk.ext20 rfl) rfl ?_
          refine RunL.ok (OpOk.ext21 rfl) rfl ?_
          refine RunL.storeAll ti86 rfl rfl rfl (ones rfl) (frl (frl (frl rfl))) rfl ?_
          refine RunL.ok (OpOk.assign rfl) rfl ?_
          refine RunL.nil ?_
          refine Run.seq ?_
          refine Run.region ?_
          refine RunL.ok (OpOk.move rfl) rfl ?_
          refine RunL.mem (frc (frl rfl) rfl) ?_
          refine RunL.call cal50 rfl (s50 (by assumption)) rfl (fun vz63 Az63 hz63 => ?_)
          obtain ⟨rfl, rfl⟩ := hz63
          refine RunL.nil ?_
          refine Run.seq ?_
          refine Run.region ?_
          refine RunL.ok (OpOk.move rfl) rfl ?_
          refine RunL.ok (OpOk.lenR rfl rfl (Rd.right rdz50).left.left.left.left rfl) rfl ?_
          refine RunL.ok (OpOk.assign rfl) rfl ?_
          refine RunL.nil ?_
          refine Run.seq ?_
          refine Run.seq ?_
          refine Run.region ?_
          refine RunL.ok (OpOk.fieldAddr fld113_3 rfl) rfl ?_
          refine RunL.ok (OpOk.load rfl rfl rfl (Blk.out Blk.pts.left.left.left.left.left.left.left.left.left.left.left.left.left.left.left.left.left.left.left _ _ (by first | rfl | assumption))) rfl ?_
          refine RunL.ok (OpOk.geq rfl rfl) rfl ?_
          refine RunL.ok (OpOk.move rfl) rfl ?_
          refine RunL.splitD (t := 123) rfl (fun z64 => ?_) (fun z64 => ?_)
          · refine RunL.on rfl rfl ?_
            refine RunL.ok (OpOk.fieldAddr fld113_3 rfl) rfl ?_
            refine RunL.on rfl rfl ?_
            refine RunL.ok (OpOk.load rfl rfl rfl (Blk.out Blk.pts.left.left.left.left.left.left.left.left.left.left.left.left.left.left.left.left.left.left.left _ _ (by first | rfl | assumption))) rfl ?_
            refine RunL.on rfl rfl ?_
            refine RunL.ok (OpOk.move rfl) rfl ?_
            refine RunL.on rfl rfl ?_
            refine RunL.ok (OpOk.asF (OpOk.lss rfl rfl) (by omega)) rfl ?_
            refine RunL.ok (OpOk.pickT rfl rfl) rfl ?_
            refine RunL.nil ?_
            refine Run.condF rfl ?_
            refine Run.skip ?_
            refine Run.seq ?_
            refine Run.seq ?_
            refine Run.know (fun w s => (s.conv (frl (frl rfl))).ownRd0) (fun rdz65 => ?_)
            (apply Run.drawD [] (by rfl) (Eq.trans rfl rfl); case hchk => kernel_rfl)
            refine Sd.quiet 0 _ _ rfl rfl rfl rfl rfl (QOp.ok (fun X => OpOk.move rfl)) ?_
            refine Sd.quiet 1 _ _ rfl rfl rfl rfl rfl (QOp.ok (fun X => OpOk.move rfl)) ?_
            refine Sd.quiet 2 _ _ rfl rfl rfl rfl rfl (QOp.ok (fun X => OpOk.as (c := false) (OpOk.neq rfl rfl) (by rw [decide_eq_true (by omega)]; rfl))) ?_
            refine Sd.quiet 3 _ _ rfl rfl rfl rfl rfl (QOp.ok (fun X => OpOk.move rfl)) ?_
            refine Sd.quiet 4 _ _ rfl rfl rfl rfl rfl (QOp.ok (fun X => OpOk.move rfl)) ?_
            refine Sd.quiet 7 _ _ rfl rfl rfl rfl rfl (QOp.ok (fun X => OpOk.move rfl)) ?_
            refine Sd.quiet 8 _ _ rfl rfl rfl rfl rfl (QOp.ok (fun X => OpOk.move rfl)) ?_
            refine Sd.quiet 9 _ _ rfl rfl rfl rfl rfl (QOp.ok (fun X => OpOk.move rfl)) ?_
            (refine Sd.exec 5 rfl rfl rfl rfl rfl ?hrest (by rfl) (fun Xz66 Kz66 hKz66 => ?_); case hrest => kernel_rfl)
            refine RunL.mem (fl2 (sep_emp _) rfl) ?_
            refine RunL.call cal49 rfl (s49 (by assumption)) rfl (fun vz67 Az67 hz67 => ?_)
            obtain rfl := hz67
            refine RunL.know (fun w s => (s.conv rfl).ownRd0) (fun rdz68 => ?_)
            refine Sd.ret hKz66 (Eq.trans rfl (gp2 (sep_emp _).symm (asg rfl))) ⟨_, (emp_sep _).symm⟩ ?_
            refine Sd.quiet 6 _ _ rfl rfl rfl rfl rfl (QOp.ok (fun X => OpOk.strOf rfl rfl rfl rfl (Rd.right (Rd.right rdz68)).left)) ?_
            (refine Sd.exec 10 rfl rfl rfl rfl rfl ?hrest (by rfl) (fun Xz69 Kz69 hKz69 => ?_); case hrest => kernel_rfl)
            refine RunL.mem (fl2 (flS rfl) (sep_emp _)) ?_
            refine RunL.call cal54 rfl (s54 (Rd.right rdz12).left.left.left.left.left.left.left.left.left.left.left.left.left.left.left.left.left (Rd.right rdz50).left.left.left.left.left.left (Alls.right z46).left.left.left.left.left.left.left rfl (by assumption) (by omega)) rfl (fun vz70 Az70 hz70 => ?_)
            obtain ⟨z71, rfl⟩ := hz70
            refine RunL.know (fun w s => (s.conv rfl).ownRd0) (fun rdz72 => ?_)
            refine Sd.ret hKz69 (Eq.trans rfl (gp2 (sep_emp _).symm (asg (asg (asg rfl))))) ⟨_, (asg rfl)⟩ ?_
            refine Sd.quiet 11 _ _ rfl rfl rfl rfl rfl (QOp.ok (fun X => OpOk.strOf rfl rfl rfl rfl (Rd.right (Rd.right rdz72)).left)) ?_
            refine Sd.quiet 12 _ _ rfl rfl rfl rfl rfl (QOp.ok (fun X => OpOk.neqSS rfl rfl)) ?_
            refine Sd.quiet 13 _ _ rfl rfl rfl rfl rfl (QOp.ok (fun X => OpOk.pickF rfl rfl)) ?_
            refine Sd.quiet 14 _ _ rfl rfl rfl rfl rfl (QOp.ok (fun X => OpOk.move rfl)) ?_
            refine Sd.splitN (fun z73 => ?_) (fun z73 => ?_)
            · refine Sd.skip 15 _ rfl rfl rfl rfl rfl ?_
              refine Sd.skip 16 _ rfl rfl rfl rfl rfl ?_
              refine Sd.skip 17 _ rfl rfl rfl rfl rfl ?_
              refine Sd.skip 18 _ rfl rfl rfl rfl rfl ?_
              refine Sd.skip 19 _ rfl rfl rfl rfl rfl ?_
              refine Sd.skip 20 _ rfl rfl rfl rfl rfl ?_
              refine Sd.quiet 21 _ _ rfl rfl rfl rfl rfl (QOp.ok (fun X => OpOk.pickT rfl rfl)) ?_
              (apply Sd.tail; case hall => kernel_rfl)
              refine RunL.mem (fl2 (flS (flS (flS rfl))) (sep_emp _)) ?_
              refine RunL.nil ?_
              refine Run.condT rfl ?_
              refine Run.seq ?_
              refine Run.region ?_
              refine RunL.ok (OpOk.assign rfl) rfl ?_
              refine RunL.nil ?_
              refine Run.ret1 Try.func13 rfl rfl ?_
              exact absurd (by rw [z47, hR0, List.take_nil, doneF]) z73
            refine Sd.quiet 15 _ _ rfl rfl rfl rfl rfl (QOp.ok (fun X => OpOk.move rfl)) ?_
            refine Sd.quiet 16 _ _ rfl rfl rfl rfl rfl (QOp.ok (fun X => OpOk.strOf rfl rfl rfl rfl (Rd.right rdz16).left.left.left.left.left.left.left.left.left.left.left.left.left.left.left)) ?_
            refine Sd.quiet 17 _ _ rfl rfl rfl rfl rfl (QOp.ok (fun X => OpOk.fieldAddr fld113_1 rfl)) ?_
            refine Sd.quiet 18 _ _ rfl rfl rfl rfl rfl (QOp.ok (fun X => OpOk.load rfl rfl rfl (Blk.out Blk.pts.left.left.left.left.left.left.left.left.left.left.left.left.left.left.left.left.left.left.left.left _ _ (by first | rfl | assumption)))) ?_
            refine Sd.quiet 19 _ _ rfl rfl rfl rfl rfl (QOp.ok (fun X => OpOk.strOf rfl rfl rfl rfl rdb0.left.left.left.left.left.left.left.left.left.left.left.left.left.left.left.left.left.left.left.left.left.left)) ?_
            refine Sd.quiet 20 _ _ rfl rfl rfl rfl rfl (QOp.ok (fun X => OpOk.neqSS rfl rfl)) ?_
            refine Sd.quiet 21 _ _ rfl rfl rfl rfl rfl (QOp.ok (fun X => OpOk.pickF rfl rfl)) ?_
            (apply Sd.tail; case hall => kernel_rfl)
            refine RunL.mem (fl2 (flS (flS (flS rfl))) (sep_emp _)) ?_
            refine RunL.nil ?_
            refine Run.condNF rfl (by first | omega | with_reducible rfl | assumption) ?_
            refine Run.skip ?_
            refine Run.seq ?_
            refine Run.region ?_
            refine RunL.ok (OpOk.move rfl) rfl ?_
            refine RunL.mem (frc (frl (frl (frl rfl))) rfl) ?_
            refine RunL.call cal39 rfl (s39f (by assumption)) rfl (fun vz78 Az78 hz78 => ?_)
            obtain ⟨z79, ⟨z80, ⟨z81, ⟨rfl, rfl⟩⟩⟩⟩ := hz78
            refine RunL.ok (OpOk.move rfl) rfl ?_
            refine RunL.ok (OpOk.ext20 rfl) rfl ?_
            refine RunL.ok (OpOk.ext21 rfl) rfl ?_
            refine RunL.alloc ti86 rfl (fun bz82 => ?_)
            refine RunL.storeAll ti86 rfl rfl rfl (ones rfl) rfl rfl ?_
            refine RunL.ok (OpOk.assign rfl) rfl ?_
            refine RunL.nil ?_
            refine Run.seq ?_
            refine Run.seq ?_
            rw [rw_a]
            rw [rw_b]
            refine Run.region ?_
            refine RunL.ok (OpOk.move rfl) rfl ?_
            refine RunL.ok (OpOk.as (c := false) (OpOk.neq rfl rfl) (by rw [decide_eq_true (by omega)]; rfl)) rfl ?_
            refine RunL.nil ?_
            refine Run.condF rfl ?_
            refine Run.skip ?_
            refine Run.seq ?_
            refine Run.know (fun w s => (s.conv (frl (frl rfl))).ownRd0) (fun rdz83 => ?_)
            (apply Run.drawD [] (by rfl) (sep_emp _).symm; case hchk => kernel_rfl)
            refine Sd.quiet 0 _ _ rfl rfl rfl rfl rfl (QOp.ok (fun X => OpOk.move rfl)) ?_
            refine Sd.quiet 1 _ _ rfl rfl rfl rfl rfl (QOp.ok (fun X => OpOk.asF (OpOk.eql rfl rfl) (by omega))) ?_
            refine Sd.quiet 2 _ _ rfl rfl rfl rfl rfl (QOp.ok (fun X => OpOk.move rfl)) ?_
            refine Sd.skip 3 _ rfl rfl rfl rfl rfl ?_
            refine Sd.skip 4 _ rfl rfl rfl rfl rfl ?_
            refine Sd.skip 5 _ rfl rfl rfl rfl rfl ?_
            refine Sd.skip 6 _ rfl rfl rfl rfl rfl ?_
            refine Sd.skip 7 _ rfl rfl rfl rfl rfl ?_
            refine Sd.skip 8 _ rfl rfl rfl rfl rfl ?_
            refine Sd.quiet 9 _ _ rfl rfl rfl rfl rfl (QOp.ok (fun X => OpOk.pickF rfl rfl)) ?_
            refine Sd.quiet 10 _ _ rfl rfl rfl rfl rfl (QOp.ok (fun X => OpOk.move rfl)) ?_
            refine Sd.quiet 11 _ _ rfl rfl rfl rfl rfl (QOp.ok (fun X => OpOk.move rfl)) ?_
            refine Sd.quiet 12 _ _ rfl rfl rfl rfl rfl (QOp.ok (fun X => OpOk.as (c := true) (OpOk.neq rfl rfl) (by rw [decide_eq_false (by omega)]; rfl))) ?_
            refine Sd.quiet 13 _ _ rfl rfl rfl rfl rfl (QOp.ok (fun X => OpOk.move rfl)) ?_
            refine Sd.quiet 14 _ _ rfl rfl rfl rfl rfl (QOp.ok (fun X => OpOk.fieldAddr fld86_2 rfl)) ?_
            refine Sd.quiet 15 _ _ rfl rfl rfl rfl rfl (QOp.ok (fun X => OpOk.load rfl rfl rfl (Blk.out Blk.pts.left.left.left.left.left.left.left.left.left _ _ (by first | rfl | assumption)))) ?_
            refine Sd.quiet 16 _ _ rfl rfl rfl rfl rfl (QOp.ok (fun X => OpOk.as (c := false) (OpOk.neq rfl rfl) (by rw [decide_eq_true (by omega)]; rfl))) ?_
            refine Sd.quiet 17 _ _ rfl rfl rfl rfl rfl (QOp.ok (fun X => OpOk.move rfl)) ?_
            refine Sd.quiet 18 _ _ rfl rfl rfl rfl rfl (QOp.ok (fun X => OpOk.fieldAddr fld86_4 rfl)) ?_
            refine Sd.quiet 19 _ _ rfl rfl rfl rfl rfl (QOp.ok (fun X => OpOk.load rfl rfl rfl (Blk.out Blk.pts.left.left.left.left.left.left.left.left.left _ _ (by first | rfl | assumption)))) ?_
            refine Sd.quiet 20 _ _ rfl rfl rfl rfl rfl (QOp.ok (fun X => OpOk.lenV rfl rfl rfl)) ?_
            refine Sd.quiet 21 _ _ rfl rfl rfl rfl rfl (QOp.ok (fun X => OpOk.neq rfl rfl)) ?_
            refine Sd.quiet 22 _ _ rfl rfl rfl rfl rfl (QOp.ok (fun X => OpOk.pickF rfl rfl)) ?_
            refine Sd.quiet 23 _ _ rfl rfl rfl rfl rfl (QOp.ok (fun X => OpOk.move rfl)) ?_
            refine Sd.quiet 24 _ _ rfl rfl rfl rfl rfl (QOp.ok (fun X => OpOk.loadS rfl rfl ti86 rfl Blk.pts.left.left rfl)) ?_
            refine Sd.quiet 26 _ _ rfl rfl rfl rfl rfl (QOp.ok (fun X => OpOk.loadS rfl rfl ti86 rfl Blk.pts.left.left.left.left.left.left.left.left.left.left.left.left.left.left.left.left.left.left.left.left.left.left.left.left rfl)) ?_
            (refine Sd.exec 25 rfl rfl rfl rfl rfl ?hrest (by rfl) (fun Xz84 Kz84 hKz84 => ?_); case hrest => kernel_rfl)
            refine RunL.mem (fl2 (sep_emp _) (sep_emp _)) ?_
            refine RunL.call cal44 rfl (s44 (Rd.right rdz83).left.left.left (by assumption)) rfl (fun vz85 Az85 hz85 => ?_)
            obtain ⟨z86, ⟨z87, ⟨z88, ⟨rfl, rfl⟩⟩⟩⟩ := hz85
            refine RunL.know (fun w s => (s.conv rfl).ownRd0) (fun rdz89 => ?_)
            refine Sd.ret hKz84 (Eq.trans rfl (gp2 (sep_emp _).symm (asg rfl))) ⟨_, (emp_sep _).symm⟩ ?_
            (refine Sd.exec 27 rfl rfl rfl rfl rfl ?hrest (by rfl) (fun Xz90 Kz90 hKz90 => ?_); case hrest => kernel_rfl)
            refine RunL.mem (fl2 (flS rfl) (sep_emp _)) ?_
            refine RunL.call cal44 rfl (s44 (Rd.right rdz15).left.left.left.left.left.left.left.left.left.left.left.left.left.left.left.left.left.left.left.left.left.left.left.left.left.left (by assumption)) rfl (fun vz91 Az91 hz91 => ?_)
            obtain ⟨z92, ⟨z93, ⟨z94, ⟨rfl, rfl⟩⟩⟩⟩ := hz91
            refine RunL.know (fun w s => (s.conv rfl).ownRd0) (fun rdz95 => ?_)
            refine Sd.ret hKz90 (Eq.trans rfl (gp2 (sep_emp _).symm (asg (asg (asg rfl))))) ⟨_, (asg rfl)⟩ ?_
            (refine Sd.exec 28 rfl rfl rfl rfl rfl ?hrest (by rfl) (fun Xz96 Kz96 hKz96 => ?_); case hrest => kernel_rfl)
            refine RunL.mem (fl2 (flS (flS (flS rfl))) (sep_emp _)) ?_
            refine RunL.call cal43 rfl (s43 (Rd.right rdz89).left.left (Rd.right rdz95)) rfl (fun vz97 Az97 hz97 => ?_)
            obtain ⟨z98, ⟨rfl, rfl⟩⟩ := hz97
            refine Sd.ret hKz96 (Eq.trans rfl (gp2 (sep_emp _).symm (asg (asg (asg (asg rfl)))))) ⟨_, rfl⟩ ?_
            refine Sd.quiet 29 _ _ rfl rfl rfl rfl rfl (QOp.ok (fun X => OpOk.not rfl)) ?_
            refine Sd.quiet 30 _ _ rfl rfl rfl rfl rfl (QOp.ok (fun X => OpOk.pickF rfl rfl)) ?_
            refine Sd.quiet 31 _ _ rfl rfl rfl rfl rfl (QOp.ok (fun X => OpOk.pickT rfl rfl)) ?_
            refine Sd.quiet 32 _ _ rfl rfl rfl rfl rfl (QOp.ok (fun X => OpOk.pickF rfl rfl)) ?_
            (apply Sd.tail; case hall => kernel_rfl)
            refine RunL.mem (fl2 (flS (flS (flS (flS rfl)))) (sep_emp _)) ?_
            refine RunL.nil ?_
            refine Run.condF rfl ?_
            refine Run.skip ?_
            refine Run.inBlock ?_
            refine Run.region ?_
            refine RunL.ok (OpOk.move rfl) rfl ?_
            refine RunL.ok (OpOk.addN _ 1 rfl rfl rfl rfl (by omega)) rfl ?_
            refine RunL.ok (OpOk.assign rfl) rfl ?_
            refine RunL.nil ?_
            first
            | rw [show max (-1 : Int) (-1) = -1 from rfl]
            | skip
            refine Run.jump ((ih (i + 1, _, xs, q, t, es) ⟨by dsimp only; omega, by dsimp only; omega, hSx⟩ (by dsimp only; omega))) ⟨rfl, rfl, rfl, trivial⟩ (Grew.of (Eq.trans (frc (frl (frl (frl (frl (frl (frl rfl)))))) rfl) (congrArg (· * _) (asg (asg (asg (asg (asg (asg (asg (asg (asg (asg (asg (asg (asg (asg (asg (asg (asg (asg (asg (asg (asg (asg (asg (asg (asg (asg (asg (asg (asg (asg as1)))))))))))))))))))))))))))))))) (Grew.refl _))
          refine RunL.off rfl rfl rfl rfl ?_
          refine RunL.off rfl rfl rfl rfl ?_
          refine RunL.off rfl rfl rfl rfl ?_
          refine RunL.off rfl rfl rfl rfl ?_
          refine RunL.ok (OpOk.pickF rfl rfl) rfl ?_
          refine RunL.nil ?_
          refine Run.condF rfl ?_
          refine Run.skip ?_
          refine Run.seq ?_
          refine Run.seq ?_
          refine Run.know (fun w s => (s.conv (frl (frl rfl))).ownRd0) (fun rdz99 => ?_)
          (apply Run.drawD [] (by rfl) (Eq.trans rfl rfl); case hchk => kernel_rfl)
          refine Sd.quiet 0 _ _ rfl rfl rfl rfl rfl (QOp.ok (fun X => OpOk.move rfl)) ?_
          refine Sd.quiet 1 _ _ rfl rfl rfl rfl rfl (QOp.ok (fun X => OpOk.move rfl)) ?_
          refine Sd.quiet 2 _ _ rfl rfl rfl rfl rfl (QOp.ok (fun X => OpOk.as (c := false) (OpOk.neq rfl rfl) (by rw [decide_eq_true (by omega)]; rfl))) ?_
          refine Sd.quiet 3 _ _ rfl rfl rfl rfl rfl (QOp.ok (fun X => OpOk.move rfl)) ?_
          refine Sd.quiet 4 _ _ rfl rfl rfl rfl rfl (QOp.ok (fun X => OpOk.move rfl)) ?_
          refine Sd.quiet 7 _ _ rfl rfl rfl rfl rfl (QOp.ok (fun X => OpOk.move rfl)) ?_
          refine Sd.quiet 8 _ _ rfl rfl rfl rfl rfl (QOp.ok (fun X => OpOk.move rfl)) ?_
          refine Sd.quiet 9 _ _ rfl rfl rfl rfl rfl (QOp.ok (fun X => OpOk.move rfl)) ?_
          (refine Sd.exec 5 rfl rfl rfl rfl rfl ?hrest (by rfl) (fun Xz100 Kz100 hKz100 => ?_); case hrest => kernel_rfl)
          refine RunL.mem (fl2 (sep_emp _) rfl) ?_
          refine RunL.call cal49 rfl (s49 (by assumption)) rfl (fun vz101 Az101 hz101 => ?_)
          obtain rfl := hz101
          refine RunL.know (fun w s => (s.conv rfl).ownRd0) (fun rdz102 => ?_)
          refine Sd.ret hKz100 (Eq.trans rfl (gp2 (sep_emp _).symm (asg rfl))) ⟨_, (emp_sep _).symm⟩ ?_
          refine Sd.quiet 6 _ _ rfl rfl rfl rfl rfl (QOp.ok (fun X => OpOk.strOf rfl rfl rfl rfl (Rd.right (Rd.right rdz102)).left)) ?_
          (refine Sd.exec 10 rfl rfl rfl rfl rfl ?hrest (by rfl) (fun Xz103 Kz103 hKz103 => ?_); case hrest => kernel_rfl)
          refine RunL.mem (fl2 (flS rfl) (sep_emp _)) ?_
          refine RunL.call cal54 rfl (s54 (Rd.right rdz12).left.left.left.left.left.left.left.left.left.left.left.left.left.left.left.left.left (Rd.right rdz50).left.left.left.left.left.left (Alls.right z46).left.left.left.left.left.left.left rfl (by assumption) (by omega)) rfl (fun vz104 Az104 hz104 => ?_)
          obtain ⟨z105, rfl⟩ := hz104
          refine RunL.know (fun w s => (s.conv rfl).ownRd0) (fun rdz106 => ?_)
          refine Sd.ret hKz103 (Eq.trans rfl (gp2 (sep_emp _).symm (asg (asg (asg rfl))))) ⟨_, (asg rfl)⟩ ?_
          refine Sd.quiet 11 _ _ rfl rfl rfl rfl rfl (QOp.ok (fun X => OpOk.strOf rfl rfl rfl rfl (Rd.right (Rd.right rdz106)).left)) ?_
          refine Sd.quiet 12 _ _ rfl rfl rfl rfl rfl (QOp.ok (fun X => OpOk.neqSS rfl rfl)) ?_
          refine Sd.quiet 13 _ _ rfl rfl rfl rfl rfl (QOp.ok (fun X => OpOk.pickF rfl rfl)) ?_
          refine Sd.quiet 14 _ _ rfl rfl rfl rfl rfl (QOp.ok (fun X => OpOk.move rfl)) ?_
          refine Sd.splitN (fun z107 => ?_) (fun z107 => ?_)
          · refine Sd.skip 15 _ rfl rfl rfl rfl rfl ?_
            refine Sd.skip 16 _ rfl rfl rfl rfl rfl ?_
            refine Sd.skip 17 _ rfl rfl rfl rfl rfl ?_
            refine Sd.skip 18 _ rfl rfl rfl rfl rfl ?_
            refine Sd.skip 19 _ rfl rfl rfl rfl rfl ?_
            refine Sd.skip 20 _ rfl rfl rfl rfl rfl ?_
            refine Sd.quiet 21 _ _ rfl rfl rfl rfl rfl (QOp.ok (fun X => OpOk.pickT rfl rfl)) ?_
            (apply Sd.tail; case hall => kernel_rfl)
            refine RunL.mem (fl2 (flS (flS (flS rfl))) (sep_emp _)) ?_
            refine RunL.nil ?_
            refine Run.condT rfl ?_
            refine Run.seq ?_
            refine Run.region ?_
            refine RunL.ok (OpOk.assign rfl) rfl ?_
            refine RunL.nil ?_
            refine Run.ret1 Try.func13 rfl rfl ?_
            exact absurd (by rw [z47, hR0, List.take_nil, doneF]) z107
          refine Sd.quiet 15 _ _ rfl rfl rfl rfl rfl (QOp.ok (fun X => OpOk.move rfl)) ?_
          refine Sd.quiet 16 _ _ rfl rfl rfl rfl rfl (QOp.ok (fun X => OpOk.strOf rfl rfl rfl rfl (Rd.right rdz16).left.left.left.left.left.left.left.left.left.left.left.left.left.left.left)) ?_
          refine Sd.quiet 17 _ _ rfl rfl rfl rfl rfl (QOp.ok (fun X => OpOk.fieldAddr fld113_1 rfl)) ?_
          refine Sd.quiet 18 _ _ rfl rfl rfl rfl rfl (QOp.ok (fun X => OpOk.load rfl rfl rfl (Blk.out Blk.pts.left.left.left.left.left.left.left.left.left.left.left.left.left.left.left.left.left.left.left.left _ _ (by first | rfl | assumption)))) ?_
          refine Sd.quiet 19 _ _ rfl rfl rfl rfl rfl (QOp.ok (fun X => OpOk.strOf rfl rfl rfl rfl rdb0.left.left.left.left.left.left.left.left.left.left.left.left.left.left.left.left.left.left.left.left.left.left)) ?_
          refine Sd.quiet 20 _ _ rfl rfl rfl rfl rfl (QOp.ok (fun X => OpOk.neqSS rfl rfl)) ?_
          refine Sd.quiet 21 _ _ rfl rfl rfl rfl rfl (QOp.ok (fun X => OpOk.pickF rfl rfl)) ?_
          (apply Sd.tail; case hall => kernel_rfl)
          refine RunL.mem (fl2 (flS (flS (flS rfl))) (sep_emp _)) ?_
          refine RunL.nil ?_
          refine Run.condNF rfl (by first | omega | with_reducible rfl | assumption) ?_
          refine Run.skip ?_
          refine Run.seq ?_
          refine Run.region ?_
          refine RunL.ok (OpOk.move rfl) rfl ?_
          refine RunL.mem (frc (frl (frl (frl rfl))) rfl) ?_
          refine RunL.call cal39 rfl (s39f (by assumption)) rfl (fun vz112 Az112 hz112 => ?_)
          obtain ⟨z113, ⟨z114, ⟨z115, ⟨rfl, rfl⟩⟩⟩⟩ := hz112
          refine RunL.ok (OpOk.move rfl) rfl ?_
          refine RunL.ok (OpOk.ext20 rfl) rfl ?_
          refine RunL.ok (OpOk.ext21 rfl) rfl ?_
          refine RunL.alloc ti86 rfl (fun bz116 => ?_)
          refine RunL.storeAll ti86 rfl rfl rfl (ones rfl) rfl rfl ?_
          refine RunL.ok (OpOk.assign rfl) rfl ?_
          refine RunL.nil ?_
          refine Run.seq ?_
          refine Run.seq ?_
          rw [rw_a]
          rw [rw_b]
          refine Run.region ?_
          refine RunL.ok (OpOk.move rfl) rfl ?_
          refine RunL.ok (OpOk.as (c := false) (OpOk.neq rfl rfl) (by rw [decide_eq_true (by omega)]; rfl)) rfl ?_
          refine RunL.nil ?_
          refine Run.condF rfl ?_
          refine Run.skip ?_
          refine Run.seq ?_
          refine Run.know (fun w s => (s.conv (frl (frl rfl))).ownRd0) (fun rdz117 => ?_)
          (apply Run.drawD [] (by rfl) (sep_emp _).symm; case hchk => kernel_rfl)
          refine Sd.quiet 0 _ _ rfl rfl rfl rfl rfl (QOp.ok (fun X => OpOk.move rfl)) ?_
          refine Sd.quiet 1 _ _ rfl rfl rfl rfl rfl (QOp.ok (fun X => OpOk.asF (OpOk.eql rfl rfl) (by omega))) ?_
          refine Sd.quiet 2 _ _ rfl rfl rfl rfl rfl (QOp.ok (fun X => OpOk.move rfl)) ?_
          refine Sd.skip 3 _ rfl rfl rfl rfl rfl ?_
          refine Sd.skip 4 _ rfl rfl rfl rfl rfl ?_
          refine Sd.skip 5 _ rfl rfl rfl rfl rfl ?_
          refine Sd.skip 6 _ rfl rfl rfl rfl rfl ?_
          refine Sd.skip 7 _ rfl rfl rfl rfl rfl ?_
          refine Sd.skip 8 _ rfl rfl rfl rfl rfl ?_
          refine Sd.quiet 9 _ _ rfl rfl rfl rfl rfl (QOp.ok (fun X => OpOk.pickF rfl rfl)) ?_
          refine Sd.quiet 10 _ _ rfl rfl rfl rfl rfl (QOp.ok (fun X => OpOk.move rfl)) ?_
          refine Sd.quiet 11 _ _ rfl rfl rfl rfl rfl (QOp.ok (fun X => OpOk.move rfl)) ?_
          refine Sd.quiet 12 _ _ rfl rfl rfl rfl rfl (QOp.ok (fun X => OpOk.as (c := true) (OpOk.neq rfl rfl) (by rw [decide_eq_false (by omega)]; rfl))) ?_
          refine Sd.quiet 13 _ _ rfl rfl rfl rfl rfl (QOp.ok (fun X => OpOk.move rfl)) ?_
          refine Sd.quiet 14 _ _ rfl rfl rfl rfl rfl (QOp.ok (fun X => OpOk.fieldAddr fld86_2 rfl)) ?_
          refine Sd.quiet 15 _ _ rfl rfl rfl rfl rfl (QOp.ok (fun X => OpOk.load rfl rfl rfl (Blk.out Blk.pts.left.left.left.left.left.left.left.left.left _ _ (by first | rfl | assumption)))) ?_
          refine Sd.quiet 16 _ _ rfl rfl rfl rfl rfl (QOp.ok (fun X => OpOk.as (c := false) (OpOk.neq rfl rfl) (by rw [decide_eq_true (by omega)]; rfl))) ?_
          refine Sd.quiet 17 _ _ rfl rfl rfl rfl rfl (QOp.ok (fun X => OpOk.move rfl)) ?_
          refine Sd.quiet 18 _ _ rfl rfl rfl rfl rfl (QOp.ok (fun X => OpOk.fieldAddr fld86_4 rfl)) ?_
          refine Sd.quiet 19 _ _ rfl rfl rfl rfl rfl (QOp.ok (fun X => OpOk.load rfl rfl rfl (Blk.out Blk.pts.left.left.left.left.left.left.left.left.left _ _ (by first | rfl | assumption)))) ?_
          refine Sd.quiet 20 _ _ rfl rfl rfl rfl rfl (QOp.ok (fun X => OpOk.lenV rfl rfl rfl)) ?_
          refine Sd.quiet 21 _ _ rfl rfl rfl rfl rfl (QOp.ok (fun X => OpOk.neq rfl rfl)) ?_
          refine Sd.quiet 22 _ _ rfl rfl rfl rfl rfl (QOp.ok (fun X => OpOk.pickF rfl rfl)) ?_
          refine Sd.quiet 23 _ _ rfl rfl rfl rfl rfl (QOp.ok (fun X => OpOk.move rfl)) ?_
          refine Sd.quiet 24 _ _ rfl rfl rfl rfl rfl (QOp.ok (fun X => OpOk.loadS rfl rfl ti86 rfl Blk.pts.left.left rfl)) ?_
          refine Sd.quiet 26 _ _ rfl rfl rfl rfl rfl (QOp.ok (fun X => OpOk.loadS rfl rfl ti86 rfl Blk.pts.left.left.left.left.left.left.left.left.left.left.left.left.left.left.left.left.left.left.left.left.left.left.left.left rfl)) ?_
          (refine Sd.exec 25 rfl rfl rfl rfl rfl ?hrest (by rfl) (fun Xz118 Kz118 hKz118 => ?_); case hrest => kernel_rfl)
          refine RunL.mem (fl2 (sep_emp _) (sep_emp _)) ?_
          refine RunL.call cal44 rfl (s44 (Rd.right rdz117).left.left.left (by assumption)) rfl (fun vz119 Az119 hz119 => ?_)
          obtain ⟨z120, ⟨z121, ⟨z122, ⟨rfl, rfl⟩⟩⟩⟩ := hz119
          refine RunL.know (fun w s => (s.conv rfl).ownRd0) (fun rdz123 => ?_)
          refine Sd.ret hKz118 (Eq.trans rfl (gp2 (sep_emp _).symm (asg rfl))) ⟨_, (emp_sep _).symm⟩ ?_
          (refine Sd.exec 27 rfl rfl rfl rfl rfl ?hrest (by rfl) (fun Xz124 Kz124 hKz124 => ?_); case hrest => kernel_rfl)
          refine RunL.mem (fl2 (flS rfl) (sep_emp _)) ?_
          refine RunL.call cal44 rfl (s44 (Rd.right rdz15).left.left.left.left.left.left.left.left.left.left.left.left.left.left.left.left.left.left.left.left.left.left.left.left.left.left (by assumption)) rfl (fun vz125 Az125 hz125 => ?_)
          obtain ⟨z126, ⟨z127, ⟨z128, ⟨rfl, rfl⟩⟩⟩⟩ := hz125
          refine RunL.know (fun w s => (s.conv rfl).ownRd0) (fun rdz129 => ?_)
          refine Sd.ret hKz124 (Eq.trans rfl (gp2 (sep_emp _).symm (asg (asg (asg rfl))))) ⟨_, (asg rfl)⟩ ?_
          (refine Sd.exec 28 rfl rfl rfl rfl rfl ?hrest (by rfl) (fun Xz130 Kz130 hKz130 => ?_); case hrest => kernel_rfl)
          refine RunL.mem (fl2 (flS (flS (flS rfl))) (sep_emp _)) ?_
          refine RunL.call cal43 rfl (s43 (Rd.right rdz123).left.left (Rd.right rdz129)) rfl (fun vz131 Az131 hz131 => ?_)
          obtain ⟨z132, ⟨rfl, rfl⟩⟩ := hz131
          refine Sd.ret hKz130 (Eq.trans rfl (gp2 (sep_emp _).symm (asg (asg (asg (asg rfl)))))) ⟨_, rfl⟩ ?_
          refine Sd.quiet 29 _ _ rfl rfl rfl rfl rfl (QOp.ok (fun X => OpOk.not rfl)) ?_
          refine Sd.quiet 30 _ _ rfl rfl rfl rfl rfl (QOp.ok (fun X => OpOk.pickF rfl rfl)) ?_
          refine Sd.quiet 31 _ _ rfl rfl rfl rfl rfl (QOp.ok (fun X => OpOk.pickT rfl rfl)) ?_
          refine Sd.quiet 32 _ _ rfl rfl rfl rfl rfl (QOp.ok (fun X => OpOk.pickF rfl rfl)) ?_
          (apply Sd.tail; case hall => kernel_rfl)
          refine RunL.mem (fl2 (flS (flS (flS (flS rfl)))) (sep_emp _)) ?_
          refine RunL.nil ?_
          refine Run.condF rfl ?_
          refine Run.skip ?_
          refine Run.inBlock ?_
          refine Run.region ?_
          refine RunL.ok (OpOk.move rfl) rfl ?_
          refine RunL.ok (OpOk.addN _ 1 rfl rfl rfl rfl (by omega)) rfl ?_
          refine RunL.ok (OpOk.assign rfl) rfl ?_
          refine RunL.nil ?_
          first
          | rw [show max (-1 : Int) (-1) = -1 from rfl]
          | skip
          refine Run.jump ((ih (i + 1, _, xs, q, t, es) ⟨by dsimp only; omega, by dsimp only; omega, hSx⟩ (by dsimp only; omega))) ⟨rfl, rfl, rfl, trivial⟩ (Grew.of (Eq.trans (frc (frl (frl (frl (frl (frl (frl rfl)))))) rfl) (congrArg (· * _) (asg (asg (asg (asg (asg (asg (asg (asg (asg (asg (asg (asg (asg (asg (asg (asg (asg (asg (asg (asg (asg (asg (asg (asg (asg (asg (asg (asg (asg (asg as1)))))))))))))))))))))))))))))))) (Grew.refl _))
    | false =>
      obtain ⟨kk, hkk⟩ : ∃ kk, (storesP q t es k o i2 bs).1.length = kk := ⟨_, rfl⟩
      obtain ⟨ff, hff⟩ : ∃ ff, (storesP q t es k o i2 bs).2.1 = ff := ⟨_, rfl⟩
      have hC := stores_ok hSx k o i2 bs
      have hRI : RowsIs (storesP q t es k o i2 bs) kk ff := ⟨hkk, hff, hC.rows⟩
      by_cases hT : 0 ≤ n ∧ n < kk
      · have hE : errN (storesP q t es k o i2 bs) (max n (-1)) = 30 := by rw [errN, hkk, if_pos (by omega)]
        have hD : donN (storesP q t es k o i2 bs) (max n (-1)) = n.toNat := by rw [donN, hkk, if_pos (by omega), show max n (-1) = n by omega]
        obtain ⟨zs, hzs⟩ : ∃ zs, doneF xs ((storesP q t es k o i2 bs).1.take n.toNat) = zs := ⟨_, rfl⟩
        have hO : OutIs xs (storesP q t es k o i2 bs) (max n (-1)) a b q t zs 30 0 0 0 0 [] := ⟨hE, by rw [vwN, hE]; rfl, by rw [hD, hzs]⟩
        have hSz : Says zs q t es := by rw [← hzs]; exact hC.part _ (by omega)
        have hsm : secOf zs 0 = secOf xs 0 := by rw [← hzs]; exact hC.same _
        have rw_a2 : cardB (secOf zs 0) = a := by rw [hsm, ha]
        have rw_b2 : issB (secOf zs 0) = b := by rw [hsm, hb]
        have hzl := hSz.len
        obtain ⟨hT1, hT2⟩ := hT
        refine Run.seq ?_
        refine Run.seq ?_
        refine Run.region ?_
        refine RunL.ok (OpOk.move rfl) rfl ?_
        refine RunL.ok (OpOk.move rfl) rfl ?_
        refine RunL.ok (OpOk.lenR rfl rfl rd.left.left rfl) rfl ?_
        refine RunL.ok (OpOk.asT (OpOk.lss rfl rfl) (by omega)) rfl ?_
        refine RunL.ok (OpOk.move rfl) rfl ?_
        refine RunL.on rfl rfl ?_
        refine RunL.ok (OpOk.move rfl) rfl ?_
        refine RunL.on rfl rfl ?_
        refine RunL.ok (OpOk.asT (OpOk.lss rfl rfl) (by omega)) rfl ?_
        refine RunL.ok (OpOk.pickT rfl rfl) rfl ?_
        refine RunL.nil ?_
        refine Run.condT rfl ?_
        refine Run.skip ?_
        refine Run.seq ?_
        refine Run.block ?_
        refine Run.seq ?_
        refine Run.region ?_
        refine RunL.ok (OpOk.move rfl) rfl ?_
        refine RunL.ok (OpOk.move rfl) rfl ?_
        refine RunL.ok (OpOk.idxN rfl ti113 rfl rd.left.left rfl (by omega)) rfl ?_
        refine RunL.ok (OpOk.loadFlE (by assumption) rfl rfl ti113 rfl rd.left.left (fun _ => rfl) rfl (by omega)) rfl ?_
        refine RunL.alloc ti113 rfl (fun bz1 => ?_)
        refine RunL.storeAll ti113 rfl rfl rfl (fun w hw => OneC.one (enc := encT113) (((k, o, i2, s), v, bs, false, n)) w hw) rfl rfl ?_
        refine RunL.nil ?_
        refine Run.seq ?_
        refine Run.region ?_
        refine RunL.ok (OpOk.move rfl) rfl ?_
        refine RunL.mem (frc (frl rfl) rfl) ?_
        refine RunL.call cal39 rfl (s39f (by assumption)) rfl (fun vz6 Az6 hz6 => ?_)
        obtain ⟨z7, ⟨z8, ⟨z9, ⟨rfl, rfl⟩⟩⟩⟩ := hz6
        refine RunL.ok (OpOk.move rfl) rfl ?_
        refine RunL.ok (OpOk.ext20 rfl) rfl ?_
        refine RunL.ok (OpOk.ext21 rfl) rfl ?_
        refine RunL.alloc ti86 rfl (fun bz10 => ?_)
        refine RunL.storeAll ti86 rfl rfl rfl (ones rfl) rfl rfl ?_
        refine RunL.ok (OpOk.assign rfl) rfl ?_
        refine RunL.nil ?_
        refine Run.seq ?_
        rw [rw_a]
        rw [rw_b]
        refine Run.region ?_
        refine RunL.ok (OpOk.move rfl) rfl ?_
        refine RunL.mem (frc (frl rfl) rfl) ?_
        refine RunL.call cal49 rfl (s49 (by assumption)) rfl (fun vz11 Az11 hz11 => ?_)
        obtain rfl := hz11
        refine RunL.ok (OpOk.assign rfl) rfl ?_
        refine RunL.nil ?_
        refine Run.seq ?_
        refine Run.seq ?_
        refine Run.region ?_
        refine RunL.ok (OpOk.move rfl) rfl ?_
        refine RunL.ok (OpOk.as (c := false) (OpOk.neq rfl rfl) (by rw [decide_eq_true (by omega)]; rfl)) rfl ?_
        refine RunL.ok (OpOk.move rfl) rfl ?_
        refine RunL.on rfl rfl ?_
        refine RunL.ok (OpOk.move rfl) rfl ?_
        refine RunL.on rfl rfl ?_
        refine RunL.know (fun w s => (s.conv rfl).ownRd0) (fun rdz12 => ?_)
        refine RunL.ok (OpOk.lenR rfl rfl (Rd.right rdz12) rfl) rfl ?_
        refine RunL.on rfl rfl ?_
        refine RunL.ok (OpOk.as (c := false) (OpOk.neq rfl rfl) (by rw [decide_eq_true (by omega)]; rfl)) rfl ?_
        refine RunL.ok (OpOk.pickF rfl rfl) rfl ?_
        refine RunL.nil ?_
        refine Run.condF rfl ?_
        refine Run.skip ?_
        refine Run.seq ?_
        refine Run.region ?_
        refine RunL.lit0B rfl ti5 rfl (fun vz13 rdz13 => ?_)
        refine RunL.ok (OpOk.fieldAddr fld113_1 rfl) rfl ?_
        refine RunL.ok (OpOk.load rfl rfl rfl (Blk.out Blk.pts.left.left.left.left.left.left _ _ (by first | rfl | assumption))) rfl ?_
        refine RunL.appendB0 rfl ti5 rfl rfl rfl rfl rdb0.left.left.left.left.left.left.left.left (by omega) rfl (fun vz14 rdz14 => ?_)
        refine RunL.ok (OpOk.assign rfl) rfl ?_
        refine RunL.nil ?_
        refine Run.seq ?_
        refine Run.know (fun w s => (s.conv (frl (frl (frl (frl rfl))))).ownRd0) (fun rdz15 => ?_)
        refine Run.know (fun w s => (s.conv rfl).ownRd0) (fun rdz16 => ?_)
        (apply Run.drawD [] (by rfl) (sep_emp _).symm; case hchk => kernel_rfl)
        refine Sd.quiet 0 _ _ rfl rfl rfl rfl rfl (QOp.ok (fun X => OpOk.loadS rfl rfl ti86 rfl Blk.pts.left.left.left.left.left rfl)) ?_
        refine Sd.quiet 2 _ _ rfl rfl rfl rfl rfl (QOp.ok (fun X => OpOk.fieldAddr fld113_0 rfl)) ?_
        refine Sd.quiet 3 _ _ rfl rfl rfl rfl rfl (QOp.ok (fun X => OpOk.loadSub rfl rfl ti111 rfl Blk.pts.left.left.left.left.left.left.left.left rfl rfl)) ?_
        refine Sd.quiet 4 _ _ rfl rfl rfl rfl rfl (QOp.ok (fun X => OpOk.fieldAddr fld113_1 rfl)) ?_
        refine Sd.quiet 5 _ _ rfl rfl rfl rfl rfl (QOp.ok (fun X => OpOk.load rfl rfl rfl (Blk.out Blk.pts.left.left.left.left.left.left.left.left _ _ (by first | rfl | assumption)))) ?_
        (refine Sd.exec 1 rfl rfl rfl rfl rfl ?hrest (by rfl) (fun Xz17 Kz17 hKz17 => ?_); case hrest => kernel_rfl)
        refine RunL.mem (fl2 (sep_emp _) (sep_emp _)) ?_
        refine RunL.call cal44 rfl (s44 (Rd.right rdz15).left.left.left.left.left (by assumption)) rfl (fun vz18 Az18 hz18 => ?_)
        obtain ⟨z19, ⟨z20, ⟨z21, ⟨rfl, rfl⟩⟩⟩⟩ := hz18
        refine RunL.know (fun w s => (s.conv rfl).ownRd0) (fun rdz22 => ?_)
        refine Sd.ret hKz17 (Eq.trans rfl (gp2 (sep_emp _).symm (asg rfl))) ⟨_, (emp_sep _).symm⟩ ?_
        (refine Sd.exec 6 rfl rfl rfl rfl rfl ?hrest (by rfl) (fun Xz23 Kz23 hKz23 => ?_); case hrest => kernel_rfl)
        refine RunL.mem (fl2 (flS rfl) (sep_emp _)) ?_
        refine RunL.call cal58 rfl (s58k (Rd.right rdz22) rdb0.left.left.left.left.left.left.left.left.left.left.left (by assumption) (by assumption)) rfl (fun vz24 Az24 hz24 => ?_)
        obtain ⟨z25, ⟨z26, ⟨z27, ⟨z28, ⟨rfl, ⟨z29, ⟨z30, ⟨z31, ⟨z32, rfl⟩⟩⟩⟩⟩⟩⟩⟩⟩ := hz24
        refine RunL.know (fun w s => (s.conv rfl).ownRd0) (fun rdz33 => ?_)
        refine Sd.ret hKz23 (Eq.trans rfl (gp2 (sep_emp _).symm (asg (asg (asg (asg rfl)))))) ⟨_, (asg (asg rfl))⟩ ?_
        refine Sd.quiet 7 _ _ rfl rfl rfl rfl rfl (QOp.ok (fun X => OpOk.move rfl)) ?_
        refine Sd.quiet 8 _ _ rfl rfl rfl rfl rfl (QOp.ok (fun X => OpOk.ext20 rfl)) ?_
        refine Sd.quiet 9 _ _ rfl rfl rfl rfl rfl (QOp.ok (fun X => OpOk.ext21 rfl)) ?_
        refine Sd.quiet 10 _ _ rfl rfl rfl rfl rfl (QOp.ok (fun X => OpOk.assign rfl)) ?_
        refine Sd.quiet 11 _ _ rfl rfl rfl rfl rfl (QOp.ok (fun X => OpOk.assign rfl)) ?_
        (apply Sd.tail; case hall => kernel_rfl)
        refine RunL.mem (fl2 (flS (flS (flS (flS rfl)))) (sep_emp _)) ?_
        refine RunL.nil ?_
        refine Run.seq ?_
        refine Run.seq ?_
        refine Run.region ?_
        refine RunL.ok (OpOk.fieldAddr fld113_2 rfl) rfl ?_
        refine RunL.ok (OpOk.load rfl rfl rfl (Blk.out Blk.pts.left.left.left.left.left.left.left.left.left.left.left _ _ (by first | rfl | assumption))) rfl ?_
        refine RunL.nil ?_
        refine Run.condF rfl ?_
        refine Run.skip ?_
        refine Run.seq ?_
        refine Run.region ?_
        refine RunL.ok (OpOk.move rfl) rfl ?_
        refine RunL.ok (OpOk.fieldAddr fld113_3 rfl) rfl ?_
        refine RunL.ok (OpOk.load rfl rfl rfl (Blk.out Blk.pts.left.left.left.left.left.left.left.left.left.left.left _ _ (by first | rfl | assumption))) rfl ?_
        refine RunL.mem (frc (frl (frl (frl (frl (frl (frl (frl rfl))))))) rfl) ?_
        refine RunL.call cal50 rfl (s50 (by assumption)) rfl (fun vz34 Az34 hz34 => ?_)
        obtain ⟨rfl, rfl⟩ := hz34
        refine RunL.nil ?_
        refine Run.seq ?_
        refine Run.region ?_
        refine RunL.alloc ti86 rfl (fun bz35 => ?_)
        refine RunL.nil ?_
        refine Run.seq ?_
        refine Run.seq ?_
        refine Run.region ?_
        refine RunL.ok (OpOk.fieldAddr fld113_2 rfl) rfl ?_
        refine RunL.ok (OpOk.load rfl rfl rfl (Blk.out Blk.pts.left.left.left.left.left.left.left.left.left.left.left.left _ _ (by first | rfl | assumption))) rfl ?_
        refine RunL.nil ?_
        refine Run.condF rfl ?_
        refine Run.region ?_
        refine RunL.ok (OpOk.move rfl) rfl ?_
        refine RunL.ok (OpOk.loadS rfl rfl ti86 rfl Blk.pts.left.left.left.left.left.left.left.left.left rfl) rfl ?_
        refine RunL.ok (OpOk.fieldAddr fld113_0 rfl) rfl ?_
        refine RunL.ok (OpOk.loadSub rfl rfl ti111 rfl Blk.pts.left.left.left.left.left.left.left.left.left.left.left.left rfl rfl) rfl ?_
        refine RunL.ok (OpOk.move rfl) rfl ?_
        refine RunL.mem (frc (frl rfl) rfl) ?_
        refine RunL.call cal57 rfl (s57k (Rd.right rdz15).left.left.left.left.left.left.left.left.left (Rd.right rdz16).left.left.left.left.left.left (by assumption) (by assumption) (by assumption)) rfl (fun vz36 Az36 hz36 => ?_)
        obtain ⟨z37, ⟨z38, ⟨z39, ⟨z40, ⟨rfl, ⟨z41, rfl⟩⟩⟩⟩⟩⟩ := hz36
        refine RunL.ok (OpOk.move rfl) rfl ?_
        refine RunL.ok (OpOk.ext20 rfl) rfl ?_
        refine RunL.ok (OpOk.ext21 rfl) rfl ?_
        refine RunL.storeAll ti86 rfl rfl rfl (ones rfl) (frl (frl (frl rfl))) rfl ?_
        refine RunL.ok (OpOk.assign rfl) rfl ?_
        refine RunL.nil ?_
        refine Run.seq ?_
        refine Run.region ?_
        refine RunL.ok (OpOk.move rfl) rfl ?_
        refine RunL.mem (frc (frl rfl) rfl) ?_
        refine RunL.call cal50 rfl (s50 (by assumption)) rfl (fun vz42 Az42 hz42 => ?_)
        obtain ⟨rfl, rfl⟩ := hz42
        refine RunL.nil ?_
        refine Run.seq ?_
        refine Run.region ?_
        refine RunL.ok (OpOk.move rfl) rfl ?_
        refine RunL.ok (OpOk.lenR rfl rfl (Rd.right rdz33).left.left.left.left rfl) rfl ?_
        refine RunL.ok (OpOk.assign rfl) rfl ?_
        refine RunL.nil ?_
        refine Run.seq ?_
        refine Run.seq ?_
        refine Run.region ?_
        refine RunL.ok (OpOk.fieldAddr fld113_3 rfl) rfl ?_
        refine RunL.ok (OpOk.load rfl rfl rfl (Blk.out Blk.pts.left.left.left.left.left.left.left.left.left.left.left.left.left.left _ _ (by first | rfl | assumption))) rfl ?_
        refine RunL.ok (OpOk.asT (OpOk.geq rfl rfl) (by omega)) rfl ?_
        refine RunL.ok (OpOk.move rfl) rfl ?_
        refine RunL.on rfl rfl ?_
        refine RunL.ok (OpOk.fieldAddr fld113_3 rfl) rfl ?_
        refine RunL.on rfl rfl ?_
        refine RunL.ok (OpOk.load rfl rfl rfl (Blk.out Blk.pts.left.left.left.left.left.left.left.left.left.left.left.left.left.left _ _ (by first | rfl | assumption))) rfl ?_
        refine RunL.on rfl rfl ?_
        refine RunL.ok (OpOk.move rfl) rfl ?_
        refine RunL.on rfl rfl ?_
        refine RunL.ok (OpOk.asT (OpOk.lss rfl rfl) (by omega)) rfl ?_
        refine RunL.ok (OpOk.pickT rfl rfl) rfl ?_
        refine RunL.nil ?_
        refine Run.condT rfl ?_
        refine Run.seq ?_
        refine Run.region ?_
        refine RunL.ok (OpOk.fieldAddr fld113_3 rfl) rfl ?_
        refine RunL.ok (OpOk.load rfl rfl rfl (Blk.out Blk.pts.left.left.left.left.left.left.left.left.left.left.left.left.left.left _ _ (by first | rfl | assumption))) rfl ?_
        refine RunL.ok (OpOk.assign rfl) rfl ?_
        refine RunL.nil ?_
        refine Run.region ?_
        refine RunL.ok (OpOk.assign rfl) rfl ?_
        refine RunL.nil ?_
        refine Run.seq ?_
        refine Run.seq ?_
        refine Run.know (fun w s => (s.conv (frl (frl rfl))).ownRd0) (fun rdz43 => ?_)
        (apply Run.drawD [] (by rfl) (Eq.trans rfl rfl); case hchk => kernel_rfl)
        refine Sd.quiet 0 _ _ rfl rfl rfl rfl rfl (QOp.ok (fun X => OpOk.move rfl)) ?_
        refine Sd.quiet 1 _ _ rfl rfl rfl rfl rfl (QOp.ok (fun X => OpOk.move rfl)) ?_
        refine Sd.quiet 2 _ _ rfl rfl rfl rfl rfl (QOp.ok (fun X => OpOk.as (c := false) (OpOk.neq rfl rfl) (by rw [decide_eq_true (by omega)]; rfl))) ?_
        refine Sd.quiet 3 _ _ rfl rfl rfl rfl rfl (QOp.ok (fun X => OpOk.move rfl)) ?_
        refine Sd.quiet 4 _ _ rfl rfl rfl rfl rfl (QOp.ok (fun X => OpOk.move rfl)) ?_
        refine Sd.quiet 7 _ _ rfl rfl rfl rfl rfl (QOp.ok (fun X => OpOk.move rfl)) ?_
        refine Sd.quiet 8 _ _ rfl rfl rfl rfl rfl (QOp.ok (fun X => OpOk.move rfl)) ?_
        refine Sd.quiet 9 _ _ rfl rfl rfl rfl rfl (QOp.ok (fun X => OpOk.move rfl)) ?_
        (refine Sd.exec 5 rfl rfl rfl rfl rfl ?hrest (by rfl) (fun Xz44 Kz44 hKz44 => ?_); case hrest => kernel_rfl)
        refine RunL.mem (fl2 (sep_emp _) rfl) ?_
        refine RunL.call cal49 rfl (s49 (by assumption)) rfl (fun vz45 Az45 hz45 => ?_)
        obtain rfl := hz45
        refine RunL.know (fun w s => (s.conv rfl).ownRd0) (fun rdz46 => ?_)
        refine Sd.ret hKz44 (Eq.trans rfl (gp2 (sep_emp _).symm (asg rfl))) ⟨_, (emp_sep _).symm⟩ ?_
        refine Sd.quiet 6 _ _ rfl rfl rfl rfl rfl (QOp.ok (fun X => OpOk.strOf rfl rfl rfl rfl (Rd.right (Rd.right rdz46)).left)) ?_
        (refine Sd.exec 10 rfl rfl rfl rfl rfl ?hrest (by rfl) (fun Xz47 Kz47 hKz47 => ?_); case hrest => kernel_rfl)
        refine RunL.mem (fl2 (flS rfl) (sep_emp _)) ?_
        refine RunL.call cal54 rfl (s54 (Rd.right rdz12).left.left.left.left.left.left.left.left.left.left.left.left (Rd.right rdz33).left.left.left.left.left.left (Alls.right z29).left.left.left.left.left.left.left rfl (by assumption) (by assumption)) rfl (fun vz48 Az48 hz48 => ?_)
        obtain ⟨z49, rfl⟩ := hz48
        refine RunL.know (fun w s => (s.conv rfl).ownRd0) (fun rdz50 => ?_)
        refine Sd.ret hKz47 (Eq.trans rfl (gp2 (sep_emp _).symm (asg (asg (asg rfl))))) ⟨_, (asg rfl)⟩ ?_
        refine Sd.quiet 11 _ _ rfl rfl rfl rfl rfl (QOp.ok (fun X => OpOk.strOf rfl rfl rfl rfl (Rd.right (Rd.right rdz50)).left)) ?_
        refine Sd.quiet 12 _ _ rfl rfl rfl rfl rfl (QOp.ok (fun X => OpOk.neqSS rfl rfl)) ?_
        refine Sd.quiet 13 _ _ rfl rfl rfl rfl rfl (QOp.ok (fun X => OpOk.pickF rfl rfl)) ?_
        refine Sd.quiet 14 _ _ rfl rfl rfl rfl rfl (QOp.ok (fun X => OpOk.move rfl)) ?_
        refine Sd.splitN (fun z51 => ?_) (fun z51 => ?_)
        · refine Sd.skip 15 _ rfl rfl rfl rfl rfl ?_
          refine Sd.skip 16 _ rfl rfl rfl rfl rfl ?_
          refine Sd.skip 17 _ rfl rfl rfl rfl rfl ?_
          refine Sd.skip 18 _ rfl rfl rfl rfl rfl ?_
          refine Sd.skip 19 _ rfl rfl rfl rfl rfl ?_
          refine Sd.skip 20 _ rfl rfl rfl rfl rfl ?_
          refine Sd.quiet 21 _ _ rfl rfl rfl rfl rfl (QOp.ok (fun X => OpOk.pickT rfl rfl)) ?_
          (apply Sd.tail; case hall => kernel_rfl)
          refine RunL.mem (fl2 (flS (flS (flS rfl))) (sep_emp _)) ?_
          refine RunL.nil ?_
          refine Run.condT rfl ?_
          refine Run.seq ?_
          refine Run.region ?_
          refine RunL.ok (OpOk.assign rfl) rfl ?_
          refine RunL.nil ?_
          refine Run.ret1 Try.func13 rfl rfl ?_
          exact absurd (by rw [z30, hzs]) z51
        refine Sd.quiet 15 _ _ rfl rfl rfl rfl rfl (QOp.ok (fun X => OpOk.move rfl)) ?_
        refine Sd.quiet 16 _ _ rfl rfl rfl rfl rfl (QOp.ok (fun X => OpOk.strOf rfl rfl rfl rfl (Rd.right rdz16).left.left.left.left.left.left.left.left.left.left)) ?_
        refine Sd.quiet 17 _ _ rfl rfl rfl rfl rfl (QOp.ok (fun X => OpOk.fieldAddr fld113_1 rfl)) ?_
        refine Sd.quiet 18 _ _ rfl rfl rfl rfl rfl (QOp.ok (fun X => OpOk.load rfl rfl rfl (Blk.out Blk.pts.left.left.left.left.left.left.left.left.left.left.left.left.left.left.left _ _ (by first | rfl | assumption)))) ?_
        refine Sd.quiet 19 _ _ rfl rfl rfl rfl rfl (QOp.ok (fun X => OpOk.strOf rfl rfl rfl rfl rdb0.left.left.left.left.left.left.left.left.left.left.left.left.left.left.left.left.left)) ?_
        refine Sd.quiet 20 _ _ rfl rfl rfl rfl rfl (QOp.ok (fun X => OpOk.neqSS rfl rfl)) ?_
        refine Sd.quiet 21 _ _ rfl rfl rfl rfl rfl (QOp.ok (fun X => OpOk.pickF rfl rfl)) ?_
        (apply Sd.tail; case hall => kernel_rfl)
        refine RunL.mem (fl2 (flS (flS (flS rfl))) (sep_emp _)) ?_
        refine RunL.nil ?_
        refine Run.condNF rfl (by first | omega | with_reducible rfl | assumption) ?_
        refine Run.skip ?_
        refine Run.seq ?_
        refine Run.region ?_
        refine RunL.ok (OpOk.move rfl) rfl ?_
        refine RunL.mem (frc (frl (frl (frl rfl))) rfl) ?_
        refine RunL.call cal39 rfl (s39f (by assumption)) rfl (fun vz56 Az56 hz56 => ?_)
        obtain ⟨z57, ⟨z58, ⟨z59, ⟨rfl, rfl⟩⟩⟩⟩ := hz56
        refine RunL.ok (OpOk.move rfl) rfl ?_
        refine RunL.ok (OpOk.ext20 rfl) rfl ?_
        refine RunL.ok (OpOk.ext21 rfl) rfl ?_
        refine RunL.alloc ti86 rfl (fun bz60 => ?_)
        refine RunL.storeAll ti86 rfl rfl rfl (ones rfl) rfl rfl ?_
        refine RunL.ok (OpOk.assign rfl) rfl ?_
        refine RunL.nil ?_
        refine Run.seq ?_
        refine Run.seq ?_
        rw [rw_a2]
        rw [rw_b2]
        refine Run.region ?_
        refine RunL.ok (OpOk.move rfl) rfl ?_
        refine RunL.ok (OpOk.as (c := false) (OpOk.neq rfl rfl) (by rw [decide_eq_true (by omega)]; rfl)) rfl ?_
        refine RunL.nil ?_
        refine Run.condF rfl ?_
        refine Run.skip ?_
        refine Run.seq ?_
        refine Run.know (fun w s => (s.conv (frl (frl rfl))).ownRd0) (fun rdz61 => ?_)
        (apply Run.drawD [] (by rfl) (sep_emp _).symm; case hchk => kernel_rfl)
        refine Sd.quiet 0 _ _ rfl rfl rfl rfl rfl (QOp.ok (fun X => OpOk.move rfl)) ?_
        refine Sd.quiet 1 _ _ rfl rfl rfl rfl rfl (QOp.ok (fun X => OpOk.asF (OpOk.eql rfl rfl) (by omega))) ?_
        refine Sd.quiet 2 _ _ rfl rfl rfl rfl rfl (QOp.ok (fun X => OpOk.move rfl)) ?_
        refine Sd.skip 3 _ rfl rfl rfl rfl rfl ?_
        refine Sd.skip 4 _ rfl rfl rfl rfl rfl ?_
        refine Sd.skip 5 _ rfl rfl rfl rfl rfl ?_
        refine Sd.skip 6 _ rfl rfl rfl rfl rfl ?_
        refine Sd.skip 7 _ rfl rfl rfl rfl rfl ?_
        refine Sd.skip 8 _ rfl rfl rfl rfl rfl ?_
        refine Sd.quiet 9 _ _ rfl rfl rfl rfl rfl (QOp.ok (fun X => OpOk.pickF rfl rfl)) ?_
        refine Sd.quiet 10 _ _ rfl rfl rfl rfl rfl (QOp.ok (fun X => OpOk.move rfl)) ?_
        refine Sd.quiet 11 _ _ rfl rfl rfl rfl rfl (QOp.ok (fun X => OpOk.move rfl)) ?_
        refine Sd.quiet 12 _ _ rfl rfl rfl rfl rfl (QOp.ok (fun X => OpOk.as (c := true) (OpOk.neq rfl rfl) (by rw [decide_eq_false (by omega)]; rfl))) ?_
        refine Sd.quiet 13 _ _ rfl rfl rfl rfl rfl (QOp.ok (fun X => OpOk.move rfl)) ?_
        refine Sd.quiet 14 _ _ rfl rfl rfl rfl rfl (QOp.ok (fun X => OpOk.fieldAddr fld86_2 rfl)) ?_
        refine Sd.quiet 15 _ _ rfl rfl rfl rfl rfl (QOp.ok (fun X => OpOk.load rfl rfl rfl (Blk.out Blk.pts.left.left.left.left.left.left.left.left.left _ _ (by first | rfl | assumption)))) ?_
        refine Sd.quiet 16 _ _ rfl rfl rfl rfl rfl (QOp.ok (fun X => OpOk.as (c := false) (OpOk.neq rfl rfl) (by rw [decide_eq_true (by omega)]; rfl))) ?_
        refine Sd.quiet 17 _ _ rfl rfl rfl rfl rfl (QOp.ok (fun X => OpOk.move rfl)) ?_
        refine Sd.quiet 18 _ _ rfl rfl rfl rfl rfl (QOp.ok (fun X => OpOk.fieldAddr fld86_4 rfl)) ?_
        refine Sd.quiet 19 _ _ rfl rfl rfl rfl rfl (QOp.ok (fun X => OpOk.load rfl rfl rfl (Blk.out Blk.pts.left.left.left.left.left.left.left.left.left _ _ (by first | rfl | assumption)))) ?_
        refine Sd.quiet 20 _ _ rfl rfl rfl rfl rfl (QOp.ok (fun X => OpOk.lenV rfl rfl rfl)) ?_
        refine Sd.quiet 21 _ _ rfl rfl rfl rfl rfl (QOp.ok (fun X => OpOk.neq rfl rfl)) ?_
        refine Sd.quiet 22 _ _ rfl rfl rfl rfl rfl (QOp.ok (fun X => OpOk.pickF rfl rfl)) ?_
        refine Sd.quiet 23 _ _ rfl rfl rfl rfl rfl (QOp.ok (fun X => OpOk.move rfl)) ?_
        refine Sd.quiet 24 _ _ rfl rfl rfl rfl rfl (QOp.ok (fun X => OpOk.loadS rfl rfl ti86 rfl Blk.pts.left.left rfl)) ?_
        refine Sd.quiet 26 _ _ rfl rfl rfl rfl rfl (QOp.ok (fun X => OpOk.loadS rfl rfl ti86 rfl Blk.pts.left.left.left.left.left.left.left.left.left.left.left.left.left.left.left.left.left.left.left rfl)) ?_
        (refine Sd.exec 25 rfl rfl rfl rfl rfl ?hrest (by rfl) (fun Xz62 Kz62 hKz62 => ?_); case hrest => kernel_rfl)
        refine RunL.mem (fl2 (sep_emp _) (sep_emp _)) ?_
        refine RunL.call cal44 rfl (s44 (Rd.right rdz61).left.left.left (by assumption)) rfl (fun vz63 Az63 hz63 => ?_)
        obtain ⟨z64, ⟨z65, ⟨z66, ⟨rfl, rfl⟩⟩⟩⟩ := hz63
        refine RunL.know (fun w s => (s.conv rfl).ownRd0) (fun rdz67 => ?_)
        refine Sd.ret hKz62 (Eq.trans rfl (gp2 (sep_emp _).symm (asg rfl))) ⟨_, (emp_sep _).symm⟩ ?_
        (refine Sd.exec 27 rfl rfl rfl rfl rfl ?hrest (by rfl) (fun Xz68 Kz68 hKz68 => ?_); case hrest => kernel_rfl)
        refine RunL.mem (fl2 (flS rfl) (sep_emp _)) ?_
        refine RunL.call cal44 rfl (s44 (Rd.right rdz15).left.left.left.left.left.left.left.left.left.left.left.left.left.left.left.left.left.left.left.left.left (by assumption)) rfl (fun vz69 Az69 hz69 => ?_)
        obtain ⟨z70, ⟨z71, ⟨z72, ⟨rfl, rfl⟩⟩⟩⟩ := hz69
        refine RunL.know (fun w s => (s.conv rfl).ownRd0) (fun rdz73 => ?_)
        refine Sd.ret hKz68 (Eq.trans rfl (gp2 (sep_emp _).symm (asg (asg (asg rfl))))) ⟨_, (asg rfl)⟩ ?_
        (refine Sd.exec 28 rfl rfl rfl rfl rfl ?hrest (by rfl) (fun Xz74 Kz74 hKz74 => ?_); case hrest => kernel_rfl)
        refine RunL.mem (fl2 (flS (flS (flS rfl))) (sep_emp _)) ?_
        refine RunL.call cal43 rfl (s43 (Rd.right rdz67).left.left (Rd.right rdz73)) rfl (fun vz75 Az75 hz75 => ?_)
        obtain ⟨z76, ⟨rfl, rfl⟩⟩ := hz75
        refine Sd.ret hKz74 (Eq.trans rfl (gp2 (sep_emp _).symm (asg (asg (asg (asg rfl)))))) ⟨_, rfl⟩ ?_
        refine Sd.quiet 29 _ _ rfl rfl rfl rfl rfl (QOp.ok (fun X => OpOk.not rfl)) ?_
        refine Sd.quiet 30 _ _ rfl rfl rfl rfl rfl (QOp.ok (fun X => OpOk.pickF rfl rfl)) ?_
        refine Sd.quiet 31 _ _ rfl rfl rfl rfl rfl (QOp.ok (fun X => OpOk.pickT rfl rfl)) ?_
        refine Sd.quiet 32 _ _ rfl rfl rfl rfl rfl (QOp.ok (fun X => OpOk.pickF rfl rfl)) ?_
        (apply Sd.tail; case hall => kernel_rfl)
        refine RunL.mem (fl2 (flS (flS (flS (flS rfl)))) (sep_emp _)) ?_
        refine RunL.nil ?_
        refine Run.condF rfl ?_
        refine Run.skip ?_
        refine Run.inBlock ?_
        refine Run.region ?_
        refine RunL.ok (OpOk.move rfl) rfl ?_
        refine RunL.ok (OpOk.addN _ 1 rfl rfl rfl rfl (by omega)) rfl ?_
        refine RunL.ok (OpOk.assign rfl) rfl ?_
        refine RunL.nil ?_
        first
        | rw [show max (-1 : Int) (-1) = -1 from rfl]
        | skip
        refine Run.jump ((ih (i + 1, _, zs, q, t, es) ⟨by dsimp only; omega, by dsimp only; omega, hSz⟩ (by dsimp only; omega))) ⟨rfl, rfl, rfl, trivial⟩ (Grew.of (Eq.trans (frc (frl (frl (frl (frl (frl (frl rfl)))))) rfl) (congrArg (· * _) (asg (asg (asg (asg (asg (asg (asg (asg (asg (asg (asg (asg (asg (asg (asg (asg (asg (asg (asg (asg (asg (asg (asg (asg (asg as1))))))))))))))))))))))))))) (Grew.refl _))
      · have hD : donN (storesP q t es k o i2 bs) (max n (-1)) = kk := by rw [donN, hkk, if_neg (by omega)]
        have htk : (storesP q t es k o i2 bs).1.take kk = (storesP q t es k o i2 bs).1 := by rw [← hkk, List.take_length]
        by_cases hf0 : ff = 0
        · have hE : errN (storesP q t es k o i2 bs) (max n (-1)) = 0 := by rw [errN, hkk, if_neg (by omega), hff, hf0]
          obtain ⟨zs, hzs⟩ : ∃ zs, doneF xs (storesP q t es k o i2 bs).1 = zs := ⟨_, rfl⟩
          obtain ⟨es2, he2⟩ : ∃ es2, (storesP q t es k o i2 bs).2.2 = es2 := ⟨_, rfl⟩
          have hct : 3 - (t : Int) = ((3 - t : Nat) : Int) := by have := hSx.copy; omega
          have hO : OutIs xs (storesP q t es k o i2 bs) (max n (-1)) a b q t zs 0 a b (q + 1) ((3 - t : Nat) : Int) es2 := ⟨hE, by rw [vwN, hE, he2, hct]; rfl, by rw [hD, htk, hzs]⟩
          have hSz : Says zs (q + 1) (3 - t) es2 := by rw [← hzs, ← he2]; exact hC.good (by rw [hff, hf0])
          have hsm : secOf zs 0 = secOf xs 0 := by rw [← hzs, ← htk]; exact hC.same _
          have rw_a2 : cardB (secOf zs 0) = a := by rw [hsm, ha]
          have rw_b2 : issB (secOf zs 0) = b := by rw [hsm, hb]
          have hzl := hSz.len
          have h25 := hSz.facts.2.2.1
          have h25b : es2.length ≤ 1048576 := by omega
          have hkne : kk ≠ 0 := fun e => hC.nil (by rw [hff, hf0]) (List.eq_nil_of_length_eq_zero (by rw [hkk, e]))
          subst hf0
          refine Run.seq ?_
          refine Run.seq ?_
          refine Run.region ?_
          refine RunL.ok (OpOk.move rfl) rfl ?_
          refine RunL.ok (OpOk.move rfl) rfl ?_
          refine RunL.ok (OpOk.lenR rfl rfl rd.left.left rfl) rfl ?_
          refine RunL.ok (OpOk.asT (OpOk.lss rfl rfl) (by omega)) rfl ?_
          refine RunL.ok (OpOk.move rfl) rfl ?_
          refine RunL.on rfl rfl ?_
          refine RunL.ok (OpOk.move rfl) rfl ?_
          refine RunL.on rfl rfl ?_
          refine RunL.ok (OpOk.asT (OpOk.lss rfl rfl) (by omega)) rfl ?_
          refine RunL.ok (OpOk.pickT rfl rfl) rfl ?_
          refine RunL.nil ?_
          refine Run.condT rfl ?_
          refine Run.skip ?_
          refine Run.seq ?_
          refine Run.block ?_
          refine Run.seq ?_
          refine Run.region ?_
          refine RunL.ok (OpOk.move rfl) rfl ?_
          refine RunL.ok (OpOk.move rfl) rfl ?_
          refine RunL.ok (OpOk.idxN rfl ti113 rfl rd.left.left rfl (by omega)) rfl ?_
          refine RunL.ok (OpOk.loadFlE (by assumption) rfl rfl ti113 rfl rd.left.left (fun _ => rfl) rfl (by omega)) rfl ?_
          refine RunL.alloc ti113 rfl (fun bz1 => ?_)
          refine RunL.storeAll ti113 rfl rfl rfl (fun w hw => OneC.one (enc := encT113) (((k, o, i2, s), v, bs, false, n)) w hw) rfl rfl ?_
          refine RunL.nil ?_
          refine Run.seq ?_
          refine Run.region ?_
          refine RunL.ok (OpOk.move rfl) rfl ?_
          refine RunL.mem (frc (frl rfl) rfl) ?_
          refine RunL.call cal39 rfl (s39f (by assumption)) rfl (fun vz6 Az6 hz6 => ?_)
          obtain ⟨z7, ⟨z8, ⟨z9, ⟨rfl, rfl⟩⟩⟩⟩ := hz6
          refine RunL.ok (OpOk.move rfl) rfl ?_
          refine RunL.ok (OpOk.ext20 rfl) rfl ?_
          refine RunL.ok (OpOk.ext21 rfl) rfl ?_
          refine RunL.alloc ti86 rfl (fun bz10 => ?_)
          refine RunL.storeAll ti86 rfl rfl rfl (ones rfl) rfl rfl ?_
          refine RunL.ok (OpOk.assign rfl) rfl ?_
          refine RunL.nil ?_
          refine Run.seq ?_
          rw [rw_a]
          rw [rw_b]
          refine Run.region ?_
          refine RunL.ok (OpOk.move rfl) rfl ?_
          refine RunL.mem (frc (frl rfl) rfl) ?_
          refine RunL.call cal49 rfl (s49 (by assumption)) rfl (fun vz11 Az11 hz11 => ?_)
          obtain rfl := hz11
          refine RunL.ok (OpOk.assign rfl) rfl ?_
          refine RunL.nil ?_
          refine Run.seq ?_
          refine Run.seq ?_
          refine Run.region ?_
          refine RunL.ok (OpOk.move rfl) rfl ?_
          refine RunL.ok (OpOk.as (c := false) (OpOk.neq rfl rfl) (by rw [decide_eq_true (by omega)]; rfl)) rfl ?_
          refine RunL.ok (OpOk.move rfl) rfl ?_
          refine RunL.on rfl rfl ?_
          refine RunL.ok (OpOk.move rfl) rfl ?_
          refine RunL.on rfl rfl ?_
          refine RunL.know (fun w s => (s.conv rfl).ownRd0) (fun rdz12 => ?_)
          refine RunL.ok (OpOk.lenR rfl rfl (Rd.right rdz12) rfl) rfl ?_
          refine RunL.on rfl rfl ?_
          refine RunL.ok (OpOk.as (c := false) (OpOk.neq rfl rfl) (by rw [decide_eq_true (by omega)]; rfl)) rfl ?_
          refine RunL.ok (OpOk.pickF rfl rfl) rfl ?_
          refine RunL.nil ?_
          refine Run.condF rfl ?_
          refine Run.skip ?_
          refine Run.seq ?_
          refine Run.region ?_
          refine RunL.lit0B rfl ti5 rfl (fun vz13 rdz13 => ?_)
          refine RunL.ok (OpOk.fieldAddr fld113_1 rfl) rfl ?_
          refine RunL.ok (OpOk.load rfl rfl rfl (Blk.out Blk.pts.left.left.left.left.left.left _ _ (by first | rfl | assumption))) rfl ?_
          refine RunL.appendB0 rfl ti5 rfl rfl rfl rfl rdb0.left.left.left.left.left.left.left.left (by omega) rfl (fun vz14 rdz14 => ?_)
          refine RunL.ok (OpOk.assign rfl) rfl ?_
          refine RunL.nil ?_
          refine Run.seq ?_
          refine Run.know (fun w s => (s.conv (frl (frl (frl (frl rfl))))).ownRd0) (fun rdz15 => ?_)
          refine Run.know (fun w s => (s.conv rfl).ownRd0) (fun rdz16 => ?_)
          (apply Run.drawD [] (by rfl) (sep_emp _).symm; case hchk => kernel_rfl)
          refine Sd.quiet 0 _ _ rfl rfl rfl rfl rfl (QOp.ok (fun X => OpOk.loadS rfl rfl ti86 rfl Blk.pts.left.left.left.left.left rfl)) ?_
          refine Sd.quiet 2 _ _ rfl rfl rfl rfl rfl (QOp.ok (fun X => OpOk.fieldAddr fld113_0 rfl)) ?_
          refine Sd.quiet 3 _ _ rfl rfl rfl rfl rfl (QOp.ok (fun X => OpOk.loadSub rfl rfl ti111 rfl Blk.pts.left.left.left.left.left.left.left.left rfl rfl)) ?_
          refine Sd.quiet 4 _ _ rfl rfl rfl rfl rfl (QOp.ok (fun X => OpOk.fieldAddr fld113_1 rfl)) ?_
          refine Sd.quiet 5 _ _ rfl rfl rfl rfl rfl (QOp.ok (fun X => OpOk.load rfl rfl rfl (Blk.out Blk.pts.left.left.left.left.left.left.left.left _ _ (by first | rfl | assumption)))) ?_
          (refine Sd.exec 1 rfl rfl rfl rfl rfl ?hrest (by rfl) (fun Xz17 Kz17 hKz17 => ?_); case hrest => kernel_rfl)
          refine RunL.mem (fl2 (sep_emp _) (sep_emp _)) ?_
          refine RunL.call cal44 rfl (s44 (Rd.right rdz15).left.left.left.left.left (by assumption)) rfl (fun vz18 Az18 hz18 => ?_)
          obtain ⟨z19, ⟨z20, ⟨z21, ⟨rfl, rfl⟩⟩⟩⟩ := hz18
          refine RunL.know (fun w s => (s.conv rfl).ownRd0) (fun rdz22 => ?_)
          refine Sd.ret hKz17 (Eq.trans rfl (gp2 (sep_emp _).symm (asg rfl))) ⟨_, (emp_sep _).symm⟩ ?_
          (refine Sd.exec 6 rfl rfl rfl rfl rfl ?hrest (by rfl) (fun Xz23 Kz23 hKz23 => ?_); case hrest => kernel_rfl)
          refine RunL.mem (fl2 (flS rfl) (sep_emp _)) ?_
          refine RunL.call cal58 rfl (s58k (Rd.right rdz22) rdb0.left.left.left.left.left.left.left.left.left.left.left (by assumption) (by assumption)) rfl (fun vz24 Az24 hz24 => ?_)
          obtain ⟨z25, ⟨z26, ⟨z27, ⟨z28, ⟨rfl, ⟨z29, ⟨z30, ⟨z31, ⟨z32, rfl⟩⟩⟩⟩⟩⟩⟩⟩⟩ := hz24
          refine RunL.know (fun w s => (s.conv rfl).ownRd0) (fun rdz33 => ?_)
          refine Sd.ret hKz23 (Eq.trans rfl (gp2 (sep_emp _).symm (asg (asg (asg (asg rfl)))))) ⟨_, (asg (asg rfl))⟩ ?_
          refine Sd.quiet 7 _ _ rfl rfl rfl rfl rfl (QOp.ok (fun X => OpOk.move rfl)) ?_
          refine Sd.quiet 8 _ _ rfl rfl rfl rfl rfl (QOp.ok (fun X => OpOk.ext20 rfl)) ?_
          refine Sd.quiet 9 _ _ rfl rfl rfl rfl rfl (QOp.ok (fun X => OpOk.ext21 rfl)) ?_
          refine Sd.quiet 10 _ _ rfl rfl rfl rfl rfl (QOp.ok (fun X => OpOk.assign rfl)) ?_
          refine Sd.quiet 11 _ _ rfl rfl rfl rfl rfl (QOp.ok (fun X => OpOk.assign rfl)) ?_
          (apply Sd.tail; case hall => kernel_rfl)
          refine RunL.mem (fl2 (flS (flS (flS (flS rfl)))) (sep_emp _)) ?_
          refine RunL.nil ?_
          refine Run.seq ?_
          refine Run.seq ?_
          refine Run.region ?_
          refine RunL.ok (OpOk.fieldAddr fld113_2 rfl) rfl ?_
          refine RunL.ok (OpOk.load rfl rfl rfl (Blk.out Blk.pts.left.left.left.left.left.left.left.left.left.left.left _ _ (by first | rfl | assumption))) rfl ?_
          refine RunL.nil ?_
          refine Run.condF rfl ?_
          refine Run.skip ?_
          refine Run.seq ?_
          refine Run.region ?_
          refine RunL.ok (OpOk.move rfl) rfl ?_
          refine RunL.ok (OpOk.fieldAddr fld113_3 rfl) rfl ?_
          refine RunL.ok (OpOk.load rfl rfl rfl (Blk.out Blk.pts.left.left.left.left.left.left.left.left.left.left.left _ _ (by first | rfl | assumption))) rfl ?_
          refine RunL.mem (frc (frl (frl (frl (frl (frl (frl (frl rfl))))))) rfl) ?_
          refine RunL.call cal50 rfl (s50 (by assumption)) rfl (fun vz34 Az34 hz34 => ?_)
          obtain ⟨rfl, rfl⟩ := hz34
          refine RunL.nil ?_
          refine Run.seq ?_
          refine Run.region ?_
          refine RunL.alloc ti86 rfl (fun bz35 => ?_)
          refine RunL.nil ?_
          refine Run.seq ?_
          refine Run.seq ?_
          refine Run.region ?_
          refine RunL.ok (OpOk.fieldAddr fld113_2 rfl) rfl ?_
          refine RunL.ok (OpOk.load rfl rfl rfl (Blk.out Blk.pts.left.left.left.left.left.left.left.left.left.left.left.left _ _ (by first | rfl | assumption))) rfl ?_
          refine RunL.nil ?_
          refine Run.condF rfl ?_
          refine Run.region ?_
          refine RunL.ok (OpOk.move rfl) rfl ?_
          refine RunL.ok (OpOk.loadS rfl rfl ti86 rfl Blk.pts.left.left.left.left.left.left.left.left.left rfl) rfl ?_
          refine RunL.ok (OpOk.fieldAddr fld113_0 rfl) rfl ?_
          refine RunL.ok (OpOk.loadSub rfl rfl ti111 rfl Blk.pts.left.left.left.left.left.left.left.left.left.left.left.left rfl rfl) rfl ?_
          refine RunL.ok (OpOk.move rfl) rfl ?_
          refine RunL.mem (frc (frl rfl) rfl) ?_
          refine RunL.call cal57 rfl (s57k (Rd.right rdz15).left.left.left.left.left.left.left.left.left (Rd.right rdz16).left.left.left.left.left.left (by assumption) (by assumption) (by assumption)) rfl (fun vz36 Az36 hz36 => ?_)
          obtain ⟨z37, ⟨z38, ⟨z39, ⟨z40, ⟨rfl, ⟨z41, rfl⟩⟩⟩⟩⟩⟩ := hz36
          refine RunL.ok (OpOk.move rfl) rfl ?_
          refine RunL.ok (OpOk.ext20 rfl) rfl ?_
          refine RunL.ok (OpOk.ext21 rfl) rfl ?_
          refine RunL.storeAll ti86 rfl rfl rfl (ones rfl) (frl (frl (frl rfl))) rfl ?_
          refine RunL.ok (OpOk.assign rfl) rfl ?_
          refine RunL.nil ?_
          refine Run.seq ?_
          refine Run.region ?_
          refine RunL.ok (OpOk.move rfl) rfl ?_
          refine RunL.mem (frc (frl rfl) rfl) ?_
          refine RunL.call cal50 rfl (s50 (by assumption)) rfl (fun vz42 Az42 hz42 => ?_)
          obtain ⟨rfl, rfl⟩ := hz42
          refine RunL.nil ?_
          refine Run.seq ?_
          refine Run.region ?_
          refine RunL.ok (OpOk.move rfl) rfl ?_
          refine RunL.ok (OpOk.lenR rfl rfl (Rd.right rdz33).left.left.left.left rfl) rfl ?_
          refine RunL.ok (OpOk.assign rfl) rfl ?_
          refine RunL.nil ?_
          refine Run.seq ?_
          refine Run.seq ?_
          refine Run.region ?_
          refine RunL.ok (OpOk.fieldAddr fld113_3 rfl) rfl ?_
          refine RunL.ok (OpOk.load rfl rfl rfl (Blk.out Blk.pts.left.left.left.left.left.left.left.left.left.left.left.left.left.left _ _ (by first | rfl | assumption))) rfl ?_
          refine RunL.ok (OpOk.geq rfl rfl) rfl ?_
          refine RunL.ok (OpOk.move rfl) rfl ?_
          refine RunL.splitD (t := 123) rfl (fun z43 => ?_) (fun z43 => ?_)
          · refine RunL.on rfl rfl ?_
            refine RunL.ok (OpOk.fieldAddr fld113_3 rfl) rfl ?_
            refine RunL.on rfl rfl ?_
            refine RunL.ok (OpOk.load rfl rfl rfl (Blk.out Blk.pts.left.left.left.left.left.left.left.left.left.left.left.left.left.left _ _ (by first | rfl | assumption))) rfl ?_
            refine RunL.on rfl rfl ?_
            refine RunL.ok (OpOk.move rfl) rfl ?_
            refine RunL.on rfl rfl ?_
            refine RunL.ok (OpOk.asF (OpOk.lss rfl rfl) (by omega)) rfl ?_
            refine RunL.ok (OpOk.pickT rfl rfl) rfl ?_
            refine RunL.nil ?_
            refine Run.condF rfl ?_
            refine Run.skip ?_
            refine Run.seq ?_
            refine Run.seq ?_
            refine Run.know (fun w s => (s.conv (frl (frl rfl))).ownRd0) (fun rdz44 => ?_)
            (apply Run.drawD [] (by rfl) (Eq.trans rfl rfl); case hchk => kernel_rfl)
            refine Sd.quiet 0 _ _ rfl rfl rfl rfl rfl (QOp.ok (fun X => OpOk.move rfl)) ?_
            refine Sd.quiet 1 _ _ rfl rfl rfl rfl rfl (QOp.ok (fun X => OpOk.move rfl)) ?_
            refine Sd.quiet 2 _ _ rfl rfl rfl rfl rfl (QOp.ok (fun X => OpOk.as (c := false) (OpOk.neq rfl rfl) (by rw [decide_eq_true (by omega)]; rfl))) ?_
            refine Sd.quiet 3 _ _ rfl rfl rfl rfl rfl (QOp.ok (fun X => OpOk.move rfl)) ?_
            refine Sd.quiet 4 _ _ rfl rfl rfl rfl rfl (QOp.ok (fun X => OpOk.move rfl)) ?_
            refine Sd.quiet 7 _ _ rfl rfl rfl rfl rfl (QOp.ok (fun X => OpOk.move rfl)) ?_
            refine Sd.quiet 8 _ _ rfl rfl rfl rfl rfl (QOp.ok (fun X => OpOk.move rfl)) ?_
            refine Sd.quiet 9 _ _ rfl rfl rfl rfl rfl (QOp.ok (fun X => OpOk.move rfl)) ?_
            (refine Sd.exec 5 rfl rfl rfl rfl rfl ?hrest (by rfl) (fun Xz45 Kz45 hKz45 => ?_); case hrest => kernel_rfl)
            refine RunL.mem (fl2 (sep_emp _) rfl) ?_
            refine RunL.call cal49 rfl (s49 (by assumption)) rfl (fun vz46 Az46 hz46 => ?_)
            obtain rfl := hz46
            refine RunL.know (fun w s => (s.conv rfl).ownRd0) (fun rdz47 => ?_)
            refine Sd.ret hKz45 (Eq.trans rfl (gp2 (sep_emp _).symm (asg rfl))) ⟨_, (emp_sep _).symm⟩ ?_
            refine Sd.quiet 6 _ _ rfl rfl rfl rfl rfl (QOp.ok (fun X => OpOk.strOf rfl rfl rfl rfl (Rd.right (Rd.right rdz47)).left)) ?_
            (refine Sd.exec 10 rfl rfl rfl rfl rfl ?hrest (by rfl) (fun Xz48 Kz48 hKz48 => ?_); case hrest => kernel_rfl)
            refine RunL.mem (fl2 (flS rfl) (sep_emp _)) ?_
            refine RunL.call cal54 rfl (s54 (Rd.right rdz12).left.left.left.left.left.left.left.left.left.left.left.left (Rd.right rdz33).left.left.left.left.left.left (Alls.right z29).left.left.left.left.left.left.left rfl (by assumption) (by omega)) rfl (fun vz49 Az49 hz49 => ?_)
            obtain ⟨z50, rfl⟩ := hz49
            refine RunL.know (fun w s => (s.conv rfl).ownRd0) (fun rdz51 => ?_)
            refine Sd.ret hKz48 (Eq.trans rfl (gp2 (sep_emp _).symm (asg (asg (asg rfl))))) ⟨_, (asg rfl)⟩ ?_
            refine Sd.quiet 11 _ _ rfl rfl rfl rfl rfl (QOp.ok (fun X => OpOk.strOf rfl rfl rfl rfl (Rd.right (Rd.right rdz51)).left)) ?_
            refine Sd.quiet 12 _ _ rfl rfl rfl rfl rfl (QOp.ok (fun X => OpOk.neqSS rfl rfl)) ?_
            refine Sd.quiet 13 _ _ rfl rfl rfl rfl rfl (QOp.ok (fun X => OpOk.pickF rfl rfl)) ?_
            refine Sd.quiet 14 _ _ rfl rfl rfl rfl rfl (QOp.ok (fun X => OpOk.move rfl)) ?_
            refine Sd.splitN (fun z52 => ?_) (fun z52 => ?_)
            · refine Sd.skip 15 _ rfl rfl rfl rfl rfl ?_
              refine Sd.skip 16 _ rfl rfl rfl rfl rfl ?_
              refine Sd.skip 17 _ rfl rfl rfl rfl rfl ?_
              refine Sd.skip 18 _ rfl rfl rfl rfl rfl ?_
              refine Sd.skip 19 _ rfl rfl rfl rfl rfl ?_
              refine Sd.skip 20 _ rfl rfl rfl rfl rfl ?_
              refine Sd.quiet 21 _ _ rfl rfl rfl rfl rfl (QOp.ok (fun X => OpOk.pickT rfl rfl)) ?_
              (apply Sd.tail; case hall => kernel_rfl)
              refine RunL.mem (fl2 (flS (flS (flS rfl))) (sep_emp _)) ?_
              refine RunL.nil ?_
              refine Run.condT rfl ?_
              refine Run.seq ?_
              refine Run.region ?_
              refine RunL.ok (OpOk.assign rfl) rfl ?_
              refine RunL.nil ?_
              refine Run.ret1 Try.func13 rfl rfl ?_
              exact absurd (by rw [Int.toNat_natCast, z31, z30, htk, hzs]) z52
            refine Sd.quiet 15 _ _ rfl rfl rfl rfl rfl (QOp.ok (fun X => OpOk.move rfl)) ?_
            refine Sd.quiet 16 _ _ rfl rfl rfl rfl rfl (QOp.ok (fun X => OpOk.strOf rfl rfl rfl rfl (Rd.right rdz16).left.left.left.left.left.left.left.left.left.left)) ?_
            refine Sd.quiet 17 _ _ rfl rfl rfl rfl rfl (QOp.ok (fun X => OpOk.fieldAddr fld113_1 rfl)) ?_
            refine Sd.quiet 18 _ _ rfl rfl rfl rfl rfl (QOp.ok (fun X => OpOk.load rfl rfl rfl (Blk.out Blk.pts.left.left.left.left.left.left.left.left.left.left.left.left.left.left.left _ _ (by first | rfl | assumption)))) ?_
            refine Sd.quiet 19 _ _ rfl rfl rfl rfl rfl (QOp.ok (fun X => OpOk.strOf rfl rfl rfl rfl rdb0.left.left.left.left.left.left.left.left.left.left.left.left.left.left.left.left.left)) ?_
            refine Sd.quiet 20 _ _ rfl rfl rfl rfl rfl (QOp.ok (fun X => OpOk.neqSS rfl rfl)) ?_
            refine Sd.quiet 21 _ _ rfl rfl rfl rfl rfl (QOp.ok (fun X => OpOk.pickF rfl rfl)) ?_
            (apply Sd.tail; case hall => kernel_rfl)
            refine RunL.mem (fl2 (flS (flS (flS rfl))) (sep_emp _)) ?_
            refine RunL.nil ?_
            refine Run.condNF rfl (by first | omega | with_reducible rfl | assumption) ?_
            refine Run.skip ?_
            refine Run.seq ?_
            refine Run.region ?_
            refine RunL.ok (OpOk.move rfl) rfl ?_
            refine RunL.mem (frc (frl (frl (frl rfl))) rfl) ?_
            refine RunL.call cal39 rfl (s39f (by assumption)) rfl (fun vz57 Az57 hz57 => ?_)
            obtain ⟨z58, ⟨z59, ⟨z60, ⟨rfl, rfl⟩⟩⟩⟩ := hz57
            refine RunL.ok (OpOk.move rfl) rfl ?_
            refine RunL.ok (OpOk.ext20 rfl) rfl ?_
            refine RunL.ok (OpOk.ext21 rfl) rfl ?_
            refine RunL.alloc ti86 rfl (fun bz61 => ?_)
            refine RunL.storeAll ti86 rfl rfl rfl (ones rfl) rfl rfl ?_
            refine RunL.ok (OpOk.assign rfl) rfl ?_
            refine RunL.nil ?_
            refine Run.seq ?_
            refine Run.seq ?_
            rw [rw_a2]
            rw [rw_b2]
            refine Run.region ?_
            refine RunL.ok (OpOk.move rfl) rfl ?_
            refine RunL.ok (OpOk.as (c := false) (OpOk.neq rfl rfl) (by rw [decide_eq_true (by omega)]; rfl)) rfl ?_
            refine RunL.nil ?_
            refine Run.condF rfl ?_
            refine Run.skip ?_
            refine Run.seq ?_
            refine Run.know (fun w s => (s.conv (frl (frl rfl))).ownRd0) (fun rdz62 => ?_)
            (apply Run.drawD [] (by rfl) (sep_emp _).symm; case hchk => kernel_rfl)
            refine Sd.quiet 0 _ _ rfl rfl rfl rfl rfl (QOp.ok (fun X => OpOk.move rfl)) ?_
            refine Sd.quiet 1 _ _ rfl rfl rfl rfl rfl (QOp.ok (fun X => OpOk.asT (OpOk.eql rfl rfl) (by omega))) ?_
            refine Sd.quiet 2 _ _ rfl rfl rfl rfl rfl (QOp.ok (fun X => OpOk.move rfl)) ?_
            refine Sd.quiet 3 _ _ rfl rfl rfl rfl rfl (QOp.ok (fun X => OpOk.loadS rfl rfl ti86 rfl Blk.pts.left.left.left.left.left.left.left.left.left rfl)) ?_
            refine Sd.quiet 5 _ _ rfl rfl rfl rfl rfl (QOp.ok (fun X => OpOk.loadS rfl rfl ti86 rfl Blk.pts.left.left rfl)) ?_
            (refine Sd.exec 4 rfl rfl rfl rfl rfl ?hrest (by rfl) (fun Xz63 Kz63 hKz63 => ?_); case hrest => kernel_rfl)
            refine RunL.mem (fl2 (sep_emp _) (sep_emp _)) ?_
            refine RunL.call cal44 rfl (s44 (Rd.right rdz44).left.left.left.left.left.left.left.left.left (by assumption)) rfl (fun vz64 Az64 hz64 => ?_)
            obtain ⟨z65, ⟨z66, ⟨z67, ⟨rfl, rfl⟩⟩⟩⟩ := hz64
            refine RunL.know (fun w s => (s.conv rfl).ownRd0) (fun rdz68 => ?_)
            refine Sd.ret hKz63 (Eq.trans rfl (gp2 (sep_emp _).symm (asg rfl))) ⟨_, (emp_sep _).symm⟩ ?_
            (refine Sd.exec 6 rfl rfl rfl rfl rfl ?hrest (by rfl) (fun Xz69 Kz69 hKz69 => ?_); case hrest => kernel_rfl)
            refine RunL.mem (fl2 (flS rfl) (sep_emp _)) ?_
            refine RunL.call cal44 rfl (s44 (Rd.right rdz62).left.left.left.left.left (by assumption)) rfl (fun vz70 Az70 hz70 => ?_)
            obtain ⟨z71, ⟨z72, ⟨z73, ⟨rfl, rfl⟩⟩⟩⟩ := hz70
            refine RunL.know (fun w s => (s.conv rfl).ownRd0) (fun rdz74 => ?_)
            refine Sd.ret hKz69 (Eq.trans rfl (gp2 (sep_emp _).symm (asg (asg (asg rfl))))) ⟨_, (asg rfl)⟩ ?_
            (refine Sd.exec 7 rfl rfl rfl rfl rfl ?hrest (by rfl) (fun Xz75 Kz75 hKz75 => ?_); case hrest => kernel_rfl)
            refine RunL.mem (fl2 (flS (flS (flS rfl))) (sep_emp _)) ?_
            refine RunL.call cal43 rfl (s43 (Rd.right rdz68).left.left (Rd.right rdz74)) rfl (fun vz76 Az76 hz76 => ?_)
            obtain ⟨z77, ⟨rfl, rfl⟩⟩ := hz76
            refine Sd.ret hKz75 (Eq.trans rfl (gp2 (sep_emp _).symm (asg (asg (asg (asg rfl)))))) ⟨_, rfl⟩ ?_
            refine Sd.quiet 8 _ _ rfl rfl rfl rfl rfl (QOp.ok (fun X => OpOk.not rfl)) ?_
            refine Sd.quiet 9 _ _ rfl rfl rfl rfl rfl (QOp.ok (fun X => OpOk.pickT rfl rfl)) ?_
            refine Sd.quiet 10 _ _ rfl rfl rfl rfl rfl (QOp.ok (fun X => OpOk.move rfl)) ?_
            refine Sd.quiet 11 _ _ rfl rfl rfl rfl rfl (QOp.ok (fun X => OpOk.move rfl)) ?_
            refine Sd.quiet 12 _ _ rfl rfl rfl rfl rfl (QOp.ok (fun X => OpOk.as (c := false) (OpOk.neq rfl rfl) (by rw [decide_eq_true (by omega)]; rfl))) ?_
            refine Sd.quiet 13 _ _ rfl rfl rfl rfl rfl (QOp.ok (fun X => OpOk.move rfl)) ?_
            refine Sd.skip 14 _ rfl rfl rfl rfl rfl ?_
            refine Sd.skip 15 _ rfl rfl rfl rfl rfl ?_
            refine Sd.skip 16 _ rfl rfl rfl rfl rfl ?_
            refine Sd.skip 17 _ rfl rfl rfl rfl rfl ?_
            refine Sd.skip 18 _ rfl rfl rfl rfl rfl ?_
            refine Sd.skip 19 _ rfl rfl rfl rfl rfl ?_
            refine Sd.skip 20 _ rfl rfl rfl rfl rfl ?_
            refine Sd.skip 21 _ rfl rfl rfl rfl rfl ?_
            refine Sd.skip 22 _ rfl rfl rfl rfl rfl ?_
            refine Sd.skip 23 _ rfl rfl rfl rfl rfl ?_
            refine Sd.skip 24 _ rfl rfl rfl rfl rfl ?_
            refine Sd.skip 25 _ rfl rfl rfl rfl rfl ?_
            refine Sd.skip 26 _ rfl rfl rfl rfl rfl ?_
            refine Sd.skip 27 _ rfl rfl rfl rfl rfl ?_
            refine Sd.skip 28 _ rfl rfl rfl rfl rfl ?_
            refine Sd.skip 29 _ rfl rfl rfl rfl rfl ?_
            refine Sd.skip 30 _ rfl rfl rfl rfl rfl ?_
            refine Sd.quiet 31 _ _ rfl rfl rfl rfl rfl (QOp.ok (fun X => OpOk.pickF rfl rfl)) ?_
            refine Sd.quiet 32 _ _ rfl rfl rfl rfl rfl (QOp.ok (fun X => OpOk.pickF rfl rfl)) ?_
            (apply Sd.tail; case hall => kernel_rfl)
            refine RunL.mem (fl2 (flS (flS (flS (flS rfl)))) (sep_emp _)) ?_
            refine RunL.nil ?_
            refine Run.condF rfl ?_
            refine Run.skip ?_
            refine Run.inBlock ?_
            refine Run.region ?_
            refine RunL.ok (OpOk.move rfl) rfl ?_
            refine RunL.ok (OpOk.addN _ 1 rfl rfl rfl rfl (by omega)) rfl ?_
            refine RunL.ok (OpOk.assign rfl) rfl ?_
            refine RunL.nil ?_
            first
            | rw [show max (-1 : Int) (-1) = -1 from rfl]
            | skip
            refine Run.jump ((ih (i + 1, _, zs, q + 1, 3 - t, es2) ⟨by dsimp only; omega, by dsimp only; omega, hSz⟩ (by dsimp only; omega))) ⟨rfl, rfl, rfl, trivial⟩ (Grew.of (Eq.trans (frc (frl (frl (frl (frl (frl (frl rfl)))))) rfl) (congrArg (· * _) (asg (asg (asg (asg (asg (asg (asg (asg (asg (asg (asg (asg (asg (asg (asg (asg (asg (asg (asg (asg (asg (asg (asg (asg (asg as1))))))))))))))))))))))))))) (Grew.refl _))
          refine RunL.off rfl rfl rfl rfl ?_
          refine RunL.off rfl rfl rfl rfl ?_
          refine RunL.off rfl rfl rfl rfl ?_
          refine RunL.off rfl rfl rfl rfl ?_
          refine RunL.ok (OpOk.pickF rfl rfl) rfl ?_
          refine RunL.nil ?_
          refine Run.condF rfl ?_
          refine Run.skip ?_
          refine Run.seq ?_
          refine Run.seq ?_
          refine Run.know (fun w s => (s.conv (frl (frl rfl))).ownRd0) (fun rdz78 => ?_)
          (apply Run.drawD [] (by rfl) (Eq.trans rfl rfl); case hchk => kernel_rfl)
          refine Sd.quiet 0 _ _ rfl rfl rfl rfl rfl (QOp.ok (fun X => OpOk.move rfl)) ?_
          refine Sd.quiet 1 _ _ rfl rfl rfl rfl rfl (QOp.ok (fun X => OpOk.move rfl)) ?_
          refine Sd.quiet 2 _ _ rfl rfl rfl rfl rfl (QOp.ok (fun X => OpOk.as (c := false) (OpOk.neq rfl rfl) (by rw [decide_eq_true (by omega)]; rfl))) ?_
          refine Sd.quiet 3 _ _ rfl rfl rfl rfl rfl (QOp.ok (fun X => OpOk.move rfl)) ?_
          refine Sd.quiet 4 _ _ rfl rfl rfl rfl rfl (QOp.ok (fun X => OpOk.move rfl)) ?_
          refine Sd.quiet 7 _ _ rfl rfl rfl rfl rfl (QOp.ok (fun X => OpOk.move rfl)) ?_
          refine Sd.quiet 8 _ _ rfl rfl rfl rfl rfl (QOp.ok (fun X => OpOk.move rfl)) ?_
          refine Sd.quiet 9 _ _ rfl rfl rfl rfl rfl (QOp.ok (fun X => OpOk.move rfl)) ?_
          (refine Sd.exec 5 rfl rfl rfl rfl rfl ?hrest (by rfl) (fun Xz79 Kz79 hKz79 => ?_); case hrest => kernel_rfl)
          refine RunL.mem (fl2 (sep_emp _) rfl) ?_
          refine RunL.call cal49 rfl (s49 (by assumption)) rfl (fun vz80 Az80 hz80 => ?_)
          obtain rfl := hz80
          refine RunL.know (fun w s => (s.conv rfl).ownRd0) (fun rdz81 => ?_)
          refine Sd.ret hKz79 (Eq.trans rfl (gp2 (sep_emp _).symm (asg rfl))) ⟨_, (emp_sep _).symm⟩ ?_
          refine Sd.quiet 6 _ _ rfl rfl rfl rfl rfl (QOp.ok (fun X => OpOk.strOf rfl rfl rfl rfl (Rd.right (Rd.right rdz81)).left)) ?_
          (refine Sd.exec 10 rfl rfl rfl rfl rfl ?hrest (by rfl) (fun Xz82 Kz82 hKz82 => ?_); case hrest => kernel_rfl)
          refine RunL.mem (fl2 (flS rfl) (sep_emp _)) ?_
          refine RunL.call cal54 rfl (s54 (Rd.right rdz12).left.left.left.left.left.left.left.left.left.left.left.left (Rd.right rdz33).left.left.left.left.left.left (Alls.right z29).left.left.left.left.left.left.left rfl (by assumption) (by omega)) rfl (fun vz83 Az83 hz83 => ?_)
          obtain ⟨z84, rfl⟩ := hz83
          refine RunL.know (fun w s => (s.conv rfl).ownRd0) (fun rdz85 => ?_)
          refine Sd.ret hKz82 (Eq.trans rfl (gp2 (sep_emp _).symm (asg (asg (asg rfl))))) ⟨_, (asg rfl)⟩ ?_
          refine Sd.quiet 11 _ _ rfl rfl rfl rfl rfl (QOp.ok (fun X => OpOk.strOf rfl rfl rfl rfl (Rd.right (Rd.right rdz85)).left)) ?_
          refine Sd.quiet 12 _ _ rfl rfl rfl rfl rfl (QOp.ok (fun X => OpOk.neqSS rfl rfl)) ?_
          refine Sd.quiet 13 _ _ rfl rfl rfl rfl rfl (QOp.ok (fun X => OpOk.pickF rfl rfl)) ?_
          refine Sd.quiet 14 _ _ rfl rfl rfl rfl rfl (QOp.ok (fun X => OpOk.move rfl)) ?_
          refine Sd.splitN (fun z86 => ?_) (fun z86 => ?_)
          · refine Sd.skip 15 _ rfl rfl rfl rfl rfl ?_
            refine Sd.skip 16 _ rfl rfl rfl rfl rfl ?_
            refine Sd.skip 17 _ rfl rfl rfl rfl rfl ?_
            refine Sd.skip 18 _ rfl rfl rfl rfl rfl ?_
            refine Sd.skip 19 _ rfl rfl rfl rfl rfl ?_
            refine Sd.skip 20 _ rfl rfl rfl rfl rfl ?_
            refine Sd.quiet 21 _ _ rfl rfl rfl rfl rfl (QOp.ok (fun X => OpOk.pickT rfl rfl)) ?_
            (apply Sd.tail; case hall => kernel_rfl)
            refine RunL.mem (fl2 (flS (flS (flS rfl))) (sep_emp _)) ?_
            refine RunL.nil ?_
            refine Run.condT rfl ?_
            refine Run.seq ?_
            refine Run.region ?_
            refine RunL.ok (OpOk.assign rfl) rfl ?_
            refine RunL.nil ?_
            refine Run.ret1 Try.func13 rfl rfl ?_
            exact absurd (by rw [Int.toNat_natCast, z31, z30, htk, hzs]) z86
          refine Sd.quiet 15 _ _ rfl rfl rfl rfl rfl (QOp.ok (fun X => OpOk.move rfl)) ?_
          refine Sd.quiet 16 _ _ rfl rfl rfl rfl rfl (QOp.ok (fun X => OpOk.strOf rfl rfl rfl rfl (Rd.right rdz16).left.left.left.left.left.left.left.left.left.left)) ?_
          refine Sd.quiet 17 _ _ rfl rfl rfl rfl rfl (QOp.ok (fun X => OpOk.fieldAddr fld113_1 rfl)) ?_
          refine Sd.quiet 18 _ _ rfl rfl rfl rfl rfl (QOp.ok (fun X => OpOk.load rfl rfl rfl (Blk.out Blk.pts.left.left.left.left.left.left.left.left.left.left.left.left.left.left.left _ _ (by first | rfl | assumption)))) ?_
          refine Sd.quiet 19 _ _ rfl rfl rfl rfl rfl (QOp.ok (fun X => OpOk.strOf rfl rfl rfl rfl rdb0.left.left.left.left.left.left.left.left.left.left.left.left.left.left.left.left.left)) ?_
          refine Sd.quiet 20 _ _ rfl rfl rfl rfl rfl (QOp.ok (fun X => OpOk.neqSS rfl rfl)) ?_
          refine Sd.quiet 21 _ _ rfl rfl rfl rfl rfl (QOp.ok (fun X => OpOk.pickF rfl rfl)) ?_
          (apply Sd.tail; case hall => kernel_rfl)
          refine RunL.mem (fl2 (flS (flS (flS rfl))) (sep_emp _)) ?_
          refine RunL.nil ?_
          refine Run.condNF rfl (by first | omega | with_reducible rfl | assumption) ?_
          refine Run.skip ?_
          refine Run.seq ?_
          refine Run.region ?_
          refine RunL.ok (OpOk.move rfl) rfl ?_
          refine RunL.mem (frc (frl (frl (frl rfl))) rfl) ?_
          refine RunL.call cal39 rfl (s39f (by assumption)) rfl (fun vz91 Az91 hz91 => ?_)
          obtain ⟨z92, ⟨z93, ⟨z94, ⟨rfl, rfl⟩⟩⟩⟩ := hz91
          refine RunL.ok (OpOk.move rfl) rfl ?_
          refine RunL.ok (OpOk.ext20 rfl) rfl ?_
          refine RunL.ok (OpOk.ext21 rfl) rfl ?_
          refine RunL.alloc ti86 rfl (fun bz95 => ?_)
          refine RunL.storeAll ti86 rfl rfl rfl (ones rfl) rfl rfl ?_
          refine RunL.ok (OpOk.assign rfl) rfl ?_
          refine RunL.nil ?_
          refine Run.seq ?_
          refine Run.seq ?_
          rw [rw_a2]
          rw [rw_b2]
          refine Run.region ?_
          refine RunL.ok (OpOk.move rfl) rfl ?_
          refine RunL.ok (OpOk.as (c := false) (OpOk.neq rfl rfl) (by rw [decide_eq_true (by omega)]; rfl)) rfl ?_
          refine RunL.nil ?_
          refine Run.condF rfl ?_
          refine Run.skip ?_
          refine Run.seq ?_
          refine Run.know (fun w s => (s.conv (frl (frl rfl))).ownRd0) (fun rdz96 => ?_)
          (apply Run.drawD [] (by rfl) (sep_emp _).symm; case hchk => kernel_rfl)
          refine Sd.quiet 0 _ _ rfl rfl rfl rfl rfl (QOp.ok (fun X => OpOk.move rfl)) ?_
          refine Sd.quiet 1 _ _ rfl rfl rfl rfl rfl (QOp.ok (fun X => OpOk.asT (OpOk.eql rfl rfl) (by omega))) ?_
          refine Sd.quiet 2 _ _ rfl rfl rfl rfl rfl (QOp.ok (fun X => OpOk.move rfl)) ?_
          refine Sd.quiet 3 _ _ rfl rfl rfl rfl rfl (QOp.ok (fun X => OpOk.loadS rfl rfl ti86 rfl Blk.pts.left.left.left.left.left.left.left.left.left rfl)) ?_
          refine Sd.quiet 5 _ _ rfl rfl rfl rfl rfl (QOp.ok (fun X => OpOk.loadS rfl rfl ti86 rfl Blk.pts.left.left rfl)) ?_
          (refine Sd.exec 4 rfl rfl rfl rfl rfl ?hrest (by rfl) (fun Xz97 Kz97 hKz97 => ?_); case hrest => kernel_rfl)
          refine RunL.mem (fl2 (sep_emp _) (sep_emp _)) ?_
          refine RunL.call cal44 rfl (s44 (Rd.right rdz78).left.left.left.left.left.left.left.left.left (by assumption)) rfl (fun vz98 Az98 hz98 => ?_)
          obtain ⟨z99, ⟨z100, ⟨z101, ⟨rfl, rfl⟩⟩⟩⟩ := hz98
          refine RunL.know (fun w s => (s.conv rfl).ownRd0) (fun rdz102 => ?_)
          refine Sd.ret hKz97 (Eq.trans rfl (gp2 (sep_emp _).symm (asg rfl))) ⟨_, (emp_sep _).symm⟩ ?_
          (refine Sd.exec 6 rfl rfl rfl rfl rfl ?hrest (by rfl) (fun Xz103 Kz103 hKz103 => ?_); case hrest => kernel_rfl)
          refine RunL.mem (fl2 (flS rfl) (sep_emp _)) ?_
          refine RunL.call cal44 rfl (s44 (Rd.right rdz96).left.left.left.left.left (by assumption)) rfl (fun vz104 Az104 hz104 => ?_)
          obtain ⟨z105, ⟨z106, ⟨z107, ⟨rfl, rfl⟩⟩⟩⟩ := hz104
          refine RunL.know (fun w s => (s.conv rfl).ownRd0) (fun rdz108 => ?_)
          refine Sd.ret hKz103 (Eq.trans rfl (gp2 (sep_emp _).symm (asg (asg (asg rfl))))) ⟨_, (asg rfl)⟩ ?_
          (refine Sd.exec 7 rfl rfl rfl rfl rfl ?hrest (by rfl) (fun Xz109 Kz109 hKz109 => ?_); case hrest => kernel_rfl)
          refine RunL.mem (fl2 (flS (flS (flS rfl))) (sep_emp _)) ?_
          refine RunL.call cal43 rfl (s43 (Rd.right rdz102).left.left (Rd.right rdz108)) rfl (fun vz110 Az110 hz110 => ?_)
          obtain ⟨z111, ⟨rfl, rfl⟩⟩ := hz110
          refine Sd.ret hKz109 (Eq.trans rfl (gp2 (sep_emp _).symm (asg (asg (asg (asg rfl)))))) ⟨_, rfl⟩ ?_
          refine Sd.quiet 8 _ _ rfl rfl rfl rfl rfl (QOp.ok (fun X => OpOk.not rfl)) ?_
          refine Sd.quiet 9 _ _ rfl rfl rfl rfl rfl (QOp.ok (fun X => OpOk.pickT rfl rfl)) ?_
          refine Sd.quiet 10 _ _ rfl rfl rfl rfl rfl (QOp.ok (fun X => OpOk.move rfl)) ?_
          refine Sd.quiet 11 _ _ rfl rfl rfl rfl rfl (QOp.ok (fun X => OpOk.move rfl)) ?_
          refine Sd.quiet 12 _ _ rfl rfl rfl rfl rfl (QOp.ok (fun X => OpOk.as (c := false) (OpOk.neq rfl rfl) (by rw [decide_eq_true (by omega)]; rfl))) ?_
          refine Sd.quiet 13 _ _ rfl rfl rfl rfl rfl (QOp.ok (fun X => OpOk.move rfl)) ?_
          refine Sd.skip 14 _ rfl rfl rfl rfl rfl ?_
          refine Sd.skip 15 _ rfl rfl rfl rfl rfl ?_
          refine Sd.skip 16 _ rfl rfl rfl rfl rfl ?_
          refine Sd.skip 17 _ rfl rfl rfl rfl rfl ?_
          refine Sd.skip 18 _ rfl rfl rfl rfl rfl ?_
          refine Sd.skip 19 _ rfl rfl rfl rfl rfl ?_
          refine Sd.skip 20 _ rfl rfl rfl rfl rfl ?_
          refine Sd.skip 21 _ rfl rfl rfl rfl rfl ?_
          refine Sd.skip 22 _ rfl rfl rfl rfl rfl ?_
          refine Sd.skip 23 _ rfl rfl rfl rfl rfl ?_
          refine Sd.skip 24 _ rfl rfl rfl rfl rfl ?_
          refine Sd.skip 25 _ rfl rfl rfl rfl rfl ?_
          refine Sd.skip 26 _ rfl rfl rfl rfl rfl ?_
          refine Sd.skip 27 _ rfl rfl rfl rfl rfl ?_
          refine Sd.skip 28 _ rfl rfl rfl rfl rfl ?_
          refine Sd.skip 29 _ rfl rfl rfl rfl rfl ?_
          refine Sd.skip 30 _ rfl rfl rfl rfl rfl ?_
          refine Sd.quiet 31 _ _ rfl rfl rfl rfl rfl (QOp.ok (fun X => OpOk.pickF rfl rfl)) ?_
          refine Sd.quiet 32 _ _ rfl rfl rfl rfl rfl (QOp.ok (fun X => OpOk.pickF rfl rfl)) ?_
          (apply Sd.tail; case hall => kernel_rfl)
          refine RunL.mem (fl2 (flS (flS (flS (flS rfl)))) (sep_emp _)) ?_
          refine RunL.nil ?_
          refine Run.condF rfl ?_
          refine Run.skip ?_
          refine Run.inBlock ?_
          refine Run.region ?_
          refine RunL.ok (OpOk.move rfl) rfl ?_
          refine RunL.ok (OpOk.addN _ 1 rfl rfl rfl rfl (by omega)) rfl ?_
          refine RunL.ok (OpOk.assign rfl) rfl ?_
          refine RunL.nil ?_
          first
          | rw [show max (-1 : Int) (-1) = -1 from rfl]
          | skip
          refine Run.jump ((ih (i + 1, _, zs, q + 1, 3 - t, es2) ⟨by dsimp only; omega, by dsimp only; omega, hSz⟩ (by dsimp only; omega))) ⟨rfl, rfl, rfl, trivial⟩ (Grew.of (Eq.trans (frc (frl (frl (frl (frl (frl (frl rfl)))))) rfl) (congrArg (· * _) (asg (asg (asg (asg (asg (asg (asg (asg (asg (asg (asg (asg (asg (asg (asg (asg (asg (asg (asg (asg (asg (asg (asg (asg (asg as1))))))))))))))))))))))))))) (Grew.refl _))
        · have hk0 : kk = 0 := by rw [← hkk, hC.bad (by rw [hff]; exact hf0)]; rfl
          have hR0 : (storesP q t es k o i2 bs).1 = [] := hC.bad (by rw [hff]; exact hf0)
          have hE : errN (storesP q t es k o i2 bs) (max n (-1)) = ff := by rw [errN, hkk, if_neg (by omega), hff]
          have hO : OutIs xs (storesP q t es k o i2 bs) (max n (-1)) a b q t xs ff 0 0 0 0 [] := ⟨hE, by rw [vwN, hE, if_neg hf0], by rw [hR0, List.take_nil]; rfl⟩
          have hxl := hSx.len
          refine Run.seq ?_
          refine Run.seq ?_
          refine Run.region ?_
          refine RunL.ok (OpOk.move rfl) rfl ?_
          refine RunL.ok (OpOk.move rfl) rfl ?_
          refine RunL.ok (OpOk.lenR rfl rfl rd.left.left rfl) rfl ?_
          refine RunL.ok (OpOk.asT (OpOk.lss rfl rfl) (by omega)) rfl ?_
          refine RunL.ok (OpOk.move rfl) rfl ?_
          refine RunL.on rfl rfl ?_
          refine RunL.ok (OpOk.move rfl) rfl ?_
          refine RunL.on rfl rfl ?_
          refine RunL.ok (OpOk.asT (OpOk.lss rfl rfl) (by omega)) rfl ?_
          refine RunL.ok (OpOk.pickT rfl rfl) rfl ?_
          refine RunL.nil ?_
          refine Run.condT rfl ?_
          refine Run.skip ?_
          refine Run.seq ?_
          refine Run.block ?_
          refine Run.seq ?_
          refine Run.region ?_
          refine RunL.ok (OpOk.move rfl) rfl ?_
          refine RunL.ok (OpOk.move rfl) rfl ?_
          refine RunL.ok (OpOk.idxN rfl ti113 rfl rd.left.left rfl (by omega)) rfl ?_
          refine RunL.ok (OpOk.loadFlE (by assumption) rfl rfl ti113 rfl rd.left.left (fun _ => rfl) rfl (by omega)) rfl ?_
          refine RunL.alloc ti113 rfl (fun bz1 => ?_)
          refine RunL.storeAll ti113 rfl rfl rfl (fun w hw => OneC.one (enc := encT113) (((k, o, i2, s), v, bs, false, n)) w hw) rfl rfl ?_
          refine RunL.nil ?_
          refine Run.seq ?_
          refine Run.region ?_
          refine RunL.ok (OpOk.move rfl) rfl ?_
          refine RunL.mem (frc (frl rfl) rfl) ?_
          refine RunL.call cal39 rfl (s39f (by assumption)) rfl (fun vz6 Az6 hz6 => ?_)
          obtain ⟨z7, ⟨z8, ⟨z9, ⟨rfl, rfl⟩⟩⟩⟩ := hz6
          refine RunL.ok (OpOk.move rfl) rfl ?_
          refine RunL.ok (OpOk.ext20 rfl) rfl ?_
          refine RunL.ok (OpOk.ext21 rfl) rfl ?_
          refine RunL.alloc ti86 rfl (fun bz10 => ?_)
          refine RunL.storeAll ti86 rfl rfl rfl (ones rfl) rfl rfl ?_
          refine RunL.ok (OpOk.assign rfl) rfl ?_
          refine RunL.nil ?_
          refine Run.seq ?_
          rw [rw_a]
          rw [rw_b]
          refine Run.region ?_
          refine RunL.ok (OpOk.move rfl) rfl ?_
          refine RunL.mem (frc (frl rfl) rfl) ?_
          refine RunL.call cal49 rfl (s49 (by assumption)) rfl (fun vz11 Az11 hz11 => ?_)
          obtain rfl := hz11
          refine RunL.ok (OpOk.assign rfl) rfl ?_
          refine RunL.nil ?_
          refine Run.seq ?_
          refine Run.seq ?_
          refine Run.region ?_
          refine RunL.ok (OpOk.move rfl) rfl ?_
          refine RunL.ok (OpOk.as (c := false) (OpOk.neq rfl rfl) (by rw [decide_eq_true (by omega)]; rfl)) rfl ?_
          refine RunL.ok (OpOk.move rfl) rfl ?_
          refine RunL.on rfl rfl ?_
          refine RunL.ok (OpOk.move rfl) rfl ?_
          refine RunL.on rfl rfl ?_
          refine RunL.know (fun w s => (s.conv rfl).ownRd0) (fun rdz12 => ?_)
          refine RunL.ok (OpOk.lenR rfl rfl (Rd.right rdz12) rfl) rfl ?_
          refine RunL.on rfl rfl ?_
          refine RunL.ok (OpOk.as (c := false) (OpOk.neq rfl rfl) (by rw [decide_eq_true (by omega)]; rfl)) rfl ?_
          refine RunL.ok (OpOk.pickF rfl rfl) rfl ?_
          refine RunL.nil ?_
          refine Run.condF rfl ?_
          refine Run.skip ?_
          refine Run.seq ?_
          refine Run.region ?_
          refine RunL.lit0B rfl ti5 rfl (fun vz13 rdz13 => ?_)
          refine RunL.ok (OpOk.fieldAddr fld113_1 rfl) rfl ?_
          refine RunL.ok (OpOk.load rfl rfl rfl (Blk.out Blk.pts.left.left.left.left.left.left _ _ (by first | rfl | assumption))) rfl ?_
          refine RunL.appendB0 rfl ti5 rfl rfl rfl rfl rdb0.left.left.left.left.left.left.left.left (by omega) rfl (fun vz14 rdz14 => ?_)
          refine RunL.ok (OpOk.assign rfl) rfl ?_
          refine RunL.nil ?_
          refine Run.seq ?_
          refine Run.know (fun w s => (s.conv (frl (frl (frl (frl rfl))))).ownRd0) (fun rdz15 => ?_)
          refine Run.know (fun w s => (s.conv rfl).ownRd0) (fun rdz16 => ?_)
          (apply Run.drawD [] (by rfl) (sep_emp _).symm; case hchk => kernel_rfl)
          refine Sd.quiet 0 _ _ rfl rfl rfl rfl rfl (QOp.ok (fun X => OpOk.loadS rfl rfl ti86 rfl Blk.pts.left.left.left.left.left rfl)) ?_
          refine Sd.quiet 2 _ _ rfl rfl rfl rfl rfl (QOp.ok (fun X => OpOk.fieldAddr fld113_0 rfl)) ?_
          refine Sd.quiet 3 _ _ rfl rfl rfl rfl rfl (QOp.ok (fun X => OpOk.loadSub rfl rfl ti111 rfl Blk.pts.left.left.left.left.left.left.left.left rfl rfl)) ?_
          refine Sd.quiet 4 _ _ rfl rfl rfl rfl rfl (QOp.ok (fun X => OpOk.fieldAddr fld113_1 rfl)) ?_
          refine Sd.quiet 5 _ _ rfl rfl rfl rfl rfl (QOp.ok (fun X => OpOk.load rfl rfl rfl (Blk.out Blk.pts.left.left.left.left.left.left.left.left _ _ (by first | rfl | assumption)))) ?_
          (refine Sd.exec 1 rfl rfl rfl rfl rfl ?hrest (by rfl) (fun Xz17 Kz17 hKz17 => ?_); case hrest => kernel_rfl)
          refine RunL.mem (fl2 (sep_emp _) (sep_emp _)) ?_
          refine RunL.call cal44 rfl (s44 (Rd.right rdz15).left.left.left.left.left (by assumption)) rfl (fun vz18 Az18 hz18 => ?_)
          obtain ⟨z19, ⟨z20, ⟨z21, ⟨rfl, rfl⟩⟩⟩⟩ := hz18
          refine RunL.know (fun w s => (s.conv rfl).ownRd0) (fun rdz22 => ?_)
          refine Sd.ret hKz17 (Eq.trans rfl (gp2 (sep_emp _).symm (asg rfl))) ⟨_, (emp_sep _).symm⟩ ?_
          (refine Sd.exec 6 rfl rfl rfl rfl rfl ?hrest (by rfl) (fun Xz23 Kz23 hKz23 => ?_); case hrest => kernel_rfl)
          refine RunL.mem (fl2 (flS rfl) (sep_emp _)) ?_
          refine RunL.call cal58 rfl (s58k (Rd.right rdz22) rdb0.left.left.left.left.left.left.left.left.left.left.left (by assumption) (by assumption)) rfl (fun vz24 Az24 hz24 => ?_)
          obtain ⟨z25, ⟨z26, ⟨z27, ⟨z28, ⟨rfl, ⟨z29, ⟨z30, ⟨z31, ⟨z32, rfl⟩⟩⟩⟩⟩⟩⟩⟩⟩ := hz24
          refine RunL.know (fun w s => (s.conv rfl).ownRd0) (fun rdz33 => ?_)
          refine Sd.ret hKz23 (Eq.trans rfl (gp2 (sep_emp _).symm (asg (asg (asg (asg rfl)))))) ⟨_, (asg (asg rfl))⟩ ?_
          refine Sd.quiet 7 _ _ rfl rfl rfl rfl rfl (QOp.ok (fun X => OpOk.move rfl)) ?_
          refine Sd.quiet 8 _ _ rfl rfl rfl rfl rfl (QOp.ok (fun X => OpOk.ext20 rfl)) ?_
          refine Sd.quiet 9 _ _ rfl rfl rfl rfl rfl (QOp.ok (fun X => OpOk.ext21 rfl)) ?_
          refine Sd.quiet 10 _ _ rfl rfl rfl rfl rfl (QOp.ok (fun X => OpOk.assign rfl)) ?_
          refine Sd.quiet 11 _ _ rfl rfl rfl rfl rfl (QOp.ok (fun X => OpOk.assign rfl)) ?_
          (apply Sd.tail; case hall => kernel_rfl)
          refine RunL.mem (fl2 (flS (flS (flS (flS rfl)))) (sep_emp _)) ?_
          refine RunL.nil ?_
          refine Run.seq ?_
          refine Run.seq ?_
          refine Run.region ?_
          refine RunL.ok (OpOk.fieldAddr fld113_2 rfl) rfl ?_
          refine RunL.ok (OpOk.load rfl rfl rfl (Blk.out Blk.pts.left.left.left.left.left.left.left.left.left.left.left _ _ (by first | rfl | assumption))) rfl ?_
          refine RunL.nil ?_
          refine Run.condF rfl ?_
          refine Run.skip ?_
          refine Run.seq ?_
          refine Run.region ?_
          refine RunL.ok (OpOk.move rfl) rfl ?_
          refine RunL.ok (OpOk.fieldAddr fld113_3 rfl) rfl ?_
          refine RunL.ok (OpOk.load rfl rfl rfl (Blk.out Blk.pts.left.left.left.left.left.left.left.left.left.left.left _ _ (by first | rfl | assumption))) rfl ?_
          refine RunL.mem (frc (frl (frl (frl (frl (frl (frl (frl rfl))))))) rfl) ?_
          refine RunL.call cal50 rfl (s50 (by assumption)) rfl (fun vz34 Az34 hz34 => ?_)
          obtain ⟨rfl, rfl⟩ := hz34
          refine RunL.nil ?_
          refine Run.seq ?_
          refine Run.region ?_
          refine RunL.alloc ti86 rfl (fun bz35 => ?_)
          refine RunL.nil ?_
          refine Run.seq ?_
          refine Run.seq ?_
          refine Run.region ?_
          refine RunL.ok (OpOk.fieldAddr fld113_2 rfl) rfl ?_
          refine RunL.ok (OpOk.load rfl rfl rfl (Blk.out Blk.pts.left.left.left.left.left.left.left.left.left.left.left.left _ _ (by first | rfl | assumption))) rfl ?_
          refine RunL.nil ?_
          refine Run.condF rfl ?_
          refine Run.region ?_
          refine RunL.ok (OpOk.move rfl) rfl ?_
          refine RunL.ok (OpOk.loadS rfl rfl ti86 rfl Blk.pts.left.left.left.left.left.left.left.left.left rfl) rfl ?_
          refine RunL.ok (OpOk.fieldAddr fld113_0 rfl) rfl ?_
          refine RunL.ok (OpOk.loadSub rfl rfl ti111 rfl Blk.pts.left.left.left.left.left.left.left.left.left.left.left.left rfl rfl) rfl ?_
          refine RunL.ok (OpOk.move rfl) rfl ?_
          refine RunL.mem (frc (frl rfl) rfl) ?_
          refine RunL.call cal57 rfl (s57k (Rd.right rdz15).left.left.left.left.left.left.left.left.left (Rd.right rdz16).left.left.left.left.left.left (by assumption) (by assumption) (by assumption)) rfl (fun vz36 Az36 hz36 => ?_)
          obtain ⟨z37, ⟨z38, ⟨z39, ⟨z40, ⟨rfl, ⟨z41, rfl⟩⟩⟩⟩⟩⟩ := hz36
          refine RunL.ok (OpOk.move rfl) rfl ?_
          refine RunL.ok (OpOk.ext20 rfl) rfl ?_
          refine RunL.ok (OpOk.ext21 rfl) rfl ?_
          refine RunL.storeAll ti86 rfl rfl rfl (ones rfl) (frl (frl (frl rfl))) rfl ?_
          refine RunL.ok (OpOk.assign rfl) rfl ?_
          refine RunL.nil ?_
          refine Run.seq ?_
          refine Run.region ?_
          refine RunL.ok (OpOk.move rfl) rfl ?_
          refine RunL.mem (frc (frl rfl) rfl) ?_
          refine RunL.call cal50 rfl (s50 (by assumption)) rfl (fun vz42 Az42 hz42 => ?_)
          obtain ⟨rfl, rfl⟩ := hz42
          refine RunL.nil ?_
          refine Run.seq ?_
          refine Run.region ?_
          refine RunL.ok (OpOk.move rfl) rfl ?_
          refine RunL.ok (OpOk.lenR rfl rfl (Rd.right rdz33).left.left.left.left rfl) rfl ?_
          refine RunL.ok (OpOk.assign rfl) rfl ?_
          refine RunL.nil ?_
          refine Run.seq ?_
          refine Run.seq ?_
          refine Run.region ?_
          refine RunL.ok (OpOk.fieldAddr fld113_3 rfl) rfl ?_
          refine RunL.ok (OpOk.load rfl rfl rfl (Blk.out Blk.pts.left.left.left.left.left.left.left.left.left.left.left.left.left.left _ _ (by first | rfl | assumption))) rfl ?_
          refine RunL.ok (OpOk.geq rfl rfl) rfl ?_
          refine RunL.ok (OpOk.move rfl) rfl ?_
          refine RunL.splitD (t := 123) rfl (fun z43 => ?_) (fun z43 => ?_)
          · refine RunL.on rfl rfl ?_
            refine RunL.ok (OpOk.fieldAddr fld113_3 rfl) rfl ?_
            refine RunL.on rfl rfl ?_
            refine RunL.ok (OpOk.load rfl rfl rfl (Blk.out Blk.pts.left.left.left.left.left.left.left.left.left.left.left.left.left.left _ _ (by first | rfl | assumption))) rfl ?_
            refine RunL.on rfl rfl ?_
            refine RunL.ok (OpOk.move rfl) rfl ?_
            refine RunL.on rfl rfl ?_
            refine RunL.ok (OpOk.asF (OpOk.lss rfl rfl) (by omega)) rfl ?_
            refine RunL.ok (OpOk.pickT rfl rfl) rfl ?_
            refine RunL.nil ?_
            refine Run.condF rfl ?_
            refine Run.skip ?_
            refine Run.seq ?_
            refine Run.seq ?_
            refine Run.know (fun w s => (s.conv (frl (frl rfl))).ownRd0) (fun rdz44 => ?_)
            (apply Run.drawD [] (by rfl) (Eq.trans rfl rfl); case hchk => kernel_rfl)
            refine Sd.quiet 0 _ _ rfl rfl rfl rfl rfl (QOp.ok (fun X => OpOk.move rfl)) ?_
            refine Sd.quiet 1 _ _ rfl rfl rfl rfl rfl (QOp.ok (fun X => OpOk.move rfl)) ?_
            refine Sd.quiet 2 _ _ rfl rfl rfl rfl rfl (QOp.ok (fun X => OpOk.as (c := false) (OpOk.neq rfl rfl) (by rw [decide_eq_true (by omega)]; rfl))) ?_
            refine Sd.quiet 3 _ _ rfl rfl rfl rfl rfl (QOp.ok (fun X => OpOk.move rfl)) ?_
            refine Sd.quiet 4 _ _ rfl rfl rfl rfl rfl (QOp.ok (fun X => OpOk.move rfl)) ?_
            refine Sd.quiet 7 _ _ rfl rfl rfl rfl rfl (QOp.ok (fun X => OpOk.move rfl)) ?_
            refine Sd.quiet 8 _ _ rfl rfl rfl rfl rfl (QOp.ok (fun X => OpOk.move rfl)) ?_
            refine Sd.quiet 9 _ _ rfl rfl rfl rfl rfl (QOp.ok (fun X => OpOk.move rfl)) ?_
            (refine Sd.exec 5 rfl rfl rfl rfl rfl ?hrest (by rfl) (fun Xz45 Kz45 hKz45 => ?_); case hrest => kernel_rfl)
            refine RunL.mem (fl2 (sep_emp _) rfl) ?_
            refine RunL.call cal49 rfl (s49 (by assumption)) rfl (fun vz46 Az46 hz46 => ?_)
            obtain rfl := hz46
            refine RunL.know (fun w s => (s.conv rfl).ownRd0) (fun rdz47 => ?_)
            refine Sd.ret hKz45 (Eq.trans rfl (gp2 (sep_emp _).symm (asg rfl))) ⟨_, (emp_sep _).symm⟩ ?_
            refine Sd.quiet 6 _ _ rfl rfl rfl rfl rfl (QOp.ok (fun X => OpOk.strOf rfl rfl rfl rfl (Rd.right (Rd.right rdz47)).left)) ?_
            (refine Sd.exec 10 rfl rfl rfl rfl rfl ?hrest (by rfl) (fun Xz48 Kz48 hKz48 => ?_); case hrest => kernel_rfl)
            refine RunL.mem (fl2 (flS rfl) (sep_emp _)) ?_
            refine RunL.call cal54 rfl (s54 (Rd.right rdz12).left.left.left.left.left.left.left.left.left.left.left.left (Rd.right rdz33).left.left.left.left.left.left (Alls.right z29).left.left.left.left.left.left.left rfl (by assumption) (by omega)) rfl (fun vz49 Az49 hz49 => ?_)
            obtain ⟨z50, rfl⟩ := hz49
            refine RunL.know (fun w s => (s.conv rfl).ownRd0) (fun rdz51 => ?_)
            refine Sd.ret hKz48 (Eq.trans rfl (gp2 (sep_emp _).symm (asg (asg (asg rfl))))) ⟨_, (asg rfl)⟩ ?_
            refine Sd.quiet 11 _ _ rfl rfl rfl rfl rfl (QOp.ok (fun X => OpOk.strOf rfl rfl rfl rfl (Rd.right (Rd.right rdz51)).left)) ?_
            refine Sd.quiet 12 _ _ rfl rfl rfl rfl rfl (QOp.ok (fun X => OpOk.neqSS rfl rfl)) ?_
            refine Sd.quiet 13 _ _ rfl rfl rfl rfl rfl (QOp.ok (fun X => OpOk.pickF rfl rfl)) ?_
            refine Sd.quiet 14 _ _ rfl rfl rfl rfl rfl (QOp.ok (fun X => OpOk.move rfl)) ?_
            refine Sd.splitN (fun z52 => ?_) (fun z52 => ?_)
            · refine Sd.skip 15 _ rfl rfl rfl rfl rfl ?_
              refine Sd.skip 16 _ rfl rfl rfl rfl rfl ?_
              refine Sd.skip 17 _ rfl rfl rfl rfl rfl ?_
              refine Sd.skip 18 _ rfl rfl rfl rfl rfl ?_
              refine Sd.skip 19 _ rfl rfl rfl rfl rfl ?_
              refine Sd.skip 20 _ rfl rfl rfl rfl rfl ?_
              refine Sd.quiet 21 _ _ rfl rfl rfl rfl rfl (QOp.ok (fun X => OpOk.pickT rfl rfl)) ?_
              (apply Sd.tail; case hall => kernel_rfl)
              refine RunL.mem (fl2 (flS (flS (flS rfl))) (sep_emp _)) ?_
              refine RunL.nil ?_
              refine Run.condT rfl ?_
              refine Run.seq ?_
              refine Run.region ?_
              refine RunL.ok (OpOk.assign rfl) rfl ?_
              refine RunL.nil ?_
              refine Run.ret1 Try.func13 rfl rfl ?_
              exact absurd (by rw [z30, hR0, List.take_nil, doneF]) z52
            refine Sd.quiet 15 _ _ rfl rfl rfl rfl rfl (QOp.ok (fun X => OpOk.move rfl)) ?_
            refine Sd.quiet 16 _ _ rfl rfl rfl rfl rfl (QOp.ok (fun X => OpOk.strOf rfl rfl rfl rfl (Rd.right rdz16).left.left.left.left.left.left.left.left.left.left)) ?_
            refine Sd.quiet 17 _ _ rfl rfl rfl rfl rfl (QOp.ok (fun X => OpOk.fieldAddr fld113_1 rfl)) ?_
            refine Sd.quiet 18 _ _ rfl rfl rfl rfl rfl (QOp.ok (fun X => OpOk.load rfl rfl rfl (Blk.out Blk.pts.left.left.left.left.left.left.left.left.left.left.left.left.left.left.left _ _ (by first | rfl | assumption)))) ?_
            refine Sd.quiet 19 _ _ rfl rfl rfl rfl rfl (QOp.ok (fun X => OpOk.strOf rfl rfl rfl rfl rdb0.left.left.left.left.left.left.left.left.left.left.left.left.left.left.left.left.left)) ?_
            refine Sd.quiet 20 _ _ rfl rfl rfl rfl rfl (QOp.ok (fun X => OpOk.neqSS rfl rfl)) ?_
            refine Sd.quiet 21 _ _ rfl rfl rfl rfl rfl (QOp.ok (fun X => OpOk.pickF rfl rfl)) ?_
            (apply Sd.tail; case hall => kernel_rfl)
            refine RunL.mem (fl2 (flS (flS (flS rfl))) (sep_emp _)) ?_
            refine RunL.nil ?_
            refine Run.condNF rfl (by first | omega | with_reducible rfl | assumption) ?_
            refine Run.skip ?_
            refine Run.seq ?_
            refine Run.region ?_
            refine RunL.ok (OpOk.move rfl) rfl ?_
            refine RunL.mem (frc (frl (frl (frl rfl))) rfl) ?_
            refine RunL.call cal39 rfl (s39f (by assumption)) rfl (fun vz57 Az57 hz57 => ?_)
            obtain ⟨z58, ⟨z59, ⟨z60, ⟨rfl, rfl⟩⟩⟩⟩ := hz57
            refine RunL.ok (OpOk.move rfl) rfl ?_
            refine RunL.ok (OpOk.ext20 rfl) rfl ?_
            refine RunL.ok (OpOk.ext21 rfl) rfl ?_
            refine RunL.alloc ti86 rfl (fun bz61 => ?_)
            refine RunL.storeAll ti86 rfl rfl rfl (ones rfl) rfl rfl ?_
            refine RunL.ok (OpOk.assign rfl) rfl ?_
            refine RunL.nil ?_
            refine Run.seq ?_
            refine Run.seq ?_
            rw [rw_a]
            rw [rw_b]
            refine Run.region ?_
            refine RunL.ok (OpOk.move rfl) rfl ?_
            refine RunL.ok (OpOk.as (c := false) (OpOk.neq rfl rfl) (by rw [decide_eq_true (by omega)]; rfl)) rfl ?_
            refine RunL.nil ?_
            refine Run.condF rfl ?_
            refine Run.skip ?_
            refine Run.seq ?_
            refine Run.know (fun w s => (s.conv (frl (frl rfl))).ownRd0) (fun rdz62 => ?_)
            (apply Run.drawD [] (by rfl) (sep_emp _).symm; case hchk => kernel_rfl)
            refine Sd.quiet 0 _ _ rfl rfl rfl rfl rfl (QOp.ok (fun X => OpOk.move rfl)) ?_
            refine Sd.quiet 1 _ _ rfl rfl rfl rfl rfl (QOp.ok (fun X => OpOk.asF (OpOk.eql rfl rfl) (by omega))) ?_
            refine Sd.quiet 2 _ _ rfl rfl rfl rfl rfl (QOp.ok (fun X => OpOk.move rfl)) ?_
            refine Sd.skip 3 _ rfl rfl rfl rfl rfl ?_
            refine Sd.skip 4 _ rfl rfl rfl rfl rfl ?_
            refine Sd.skip 5 _ rfl rfl rfl rfl rfl ?_
            refine Sd.skip 6 _ rfl rfl rfl rfl rfl ?_
            refine Sd.skip 7 _ rfl rfl rfl rfl rfl ?_
            refine Sd.skip 8 _ rfl rfl rfl rfl rfl ?_
            refine Sd.quiet 9 _ _ rfl rfl rfl rfl rfl (QOp.ok (fun X => OpOk.pickF rfl rfl)) ?_
            refine Sd.quiet 10 _ _ rfl rfl rfl rfl rfl (QOp.ok (fun X => OpOk.move rfl)) ?_
            refine Sd.quiet 11 _ _ rfl rfl rfl rfl rfl (QOp.ok (fun X => OpOk.move rfl)) ?_
            refine Sd.quiet 12 _ _ rfl rfl rfl rfl rfl (QOp.ok (fun X => OpOk.as (c := true) (OpOk.neq rfl rfl) (by rw [decide_eq_false (by omega)]; rfl))) ?_
            refine Sd.quiet 13 _ _ rfl rfl rfl rfl rfl (QOp.ok (fun X => OpOk.move rfl)) ?_
            refine Sd.quiet 14 _ _ rfl rfl rfl rfl rfl (QOp.ok (fun X => OpOk.fieldAddr fld86_2 rfl)) ?_
            refine Sd.quiet 15 _ _ rfl rfl rfl rfl rfl (QOp.ok (fun X => OpOk.load rfl rfl rfl (Blk.out Blk.pts.left.left.left.left.left.left.left.left.left _ _ (by first | rfl | assumption)))) ?_
            refine Sd.quiet 16 _ _ rfl rfl rfl rfl rfl (QOp.ok (fun X => OpOk.as (c := false) (OpOk.neq rfl rfl) (by rw [decide_eq_true (by omega)]; rfl))) ?_
            refine Sd.quiet 17 _ _ rfl rfl rfl rfl rfl (QOp.ok (fun X => OpOk.move rfl)) ?_
            refine Sd.quiet 18 _ _ rfl rfl rfl rfl rfl (QOp.ok (fun X => OpOk.fieldAddr fld86_4 rfl)) ?_
            refine Sd.quiet 19 _ _ rfl rfl rfl rfl rfl (QOp.ok (fun X => OpOk.load rfl rfl rfl (Blk.out Blk.pts.left.left.left.left.left.left.left.left.left _ _ (by first | rfl | assumption)))) ?_
            refine Sd.quiet 20 _ _ rfl rfl rfl rfl rfl (QOp.ok (fun X => OpOk.lenV rfl rfl rfl)) ?_
            refine Sd.quiet 21 _ _ rfl rfl rfl rfl rfl (QOp.ok (fun X => OpOk.neq rfl rfl)) ?_
            refine Sd.quiet 22 _ _ rfl rfl rfl rfl rfl (QOp.ok (fun X => OpOk.pickF rfl rfl)) ?_
            refine Sd.quiet 23 _ _ rfl rfl rfl rfl rfl (QOp.ok (fun X => OpOk.move rfl)) ?_
            refine Sd.quiet 24 _ _ rfl rfl rfl rfl rfl (QOp.ok (fun X => OpOk.loadS rfl rfl ti86 rfl Blk.pts.left.left rfl)) ?_
            refine Sd.quiet 26 _ _ rfl rfl rfl rfl rfl (QOp.ok (fun X => OpOk.loadS rfl rfl ti86 rfl Blk.pts.left.left.left.left.left.left.left.left.left.left.left.left.left.left.left.left.left.left.left rfl)) ?_
            (refine Sd.exec 25 rfl rfl rfl rfl rfl ?hrest (by rfl) (fun Xz63 Kz63 hKz63 => ?_); case hrest => kernel_rfl)
            refine RunL.mem (fl2 (sep_emp _) (sep_emp _)) ?_
            refine RunL.call cal44 rfl (s44 (Rd.right rdz62).left.left.left (by assumption)) rfl (fun vz64 Az64 hz64 => ?_)
            obtain ⟨z65, ⟨z66, ⟨z67, ⟨rfl, rfl⟩⟩⟩⟩ := hz64
            refine RunL.know (fun w s => (s.conv rfl).ownRd0) (fun rdz68 => ?_)
            refine Sd.ret hKz63 (Eq.trans rfl (gp2 (sep_emp _).symm (asg rfl))) ⟨_, (emp_sep _).symm⟩ ?_
            (refine Sd.exec 27 rfl rfl rfl rfl rfl ?hrest (by rfl) (fun Xz69 Kz69 hKz69 => ?_); case hrest => kernel_rfl)
            refine RunL.mem (fl2 (flS rfl) (sep_emp _)) ?_
            refine RunL.call cal44 rfl (s44 (Rd.right rdz15).left.left.left.left.left.left.left.left.left.left.left.left.left.left.left.left.left.left.left.left.left (by assumption)) rfl (fun vz70 Az70 hz70 => ?_)
            obtain ⟨z71, ⟨z72, ⟨z73, ⟨rfl, rfl⟩⟩⟩⟩ := hz70
            refine RunL.know (fun w s => (s.conv rfl).ownRd0) (fun rdz74 => ?_)
            refine Sd.ret hKz69 (Eq.trans rfl (gp2 (sep_emp _).symm (asg (asg (asg rfl))))) ⟨_, (asg rfl)⟩ ?_
            (refine Sd.exec 28 rfl rfl rfl rfl rfl ?hrest (by rfl) (fun Xz75 Kz75 hKz75 => ?_); case hrest => kernel_rfl)
            refine RunL.mem (fl2 (flS (flS (flS rfl))) (sep_emp _)) ?_
            refine RunL.call cal43 rfl (s43 (Rd.right rdz68).left.left (Rd.right rdz74)) rfl (fun vz76 Az76 hz76 => ?_)
            obtain ⟨z77, ⟨rfl, rfl⟩⟩ := hz76
            refine Sd.ret hKz75 (Eq.trans rfl (gp2 (sep_emp _).symm (asg (asg (asg (asg rfl)))))) ⟨_, rfl⟩ ?_
            refine Sd.quiet 29 _ _ rfl rfl rfl rfl rfl (QOp.ok (fun X => OpOk.not rfl)) ?_
            refine Sd.quiet 30 _ _ rfl rfl rfl rfl rfl (QOp.ok (fun X => OpOk.pickF rfl rfl)) ?_
            refine Sd.quiet 31 _ _ rfl rfl rfl rfl rfl (QOp.ok (fun X => OpOk.pickT rfl rfl)) ?_
            refine Sd.quiet 32 _ _ rfl rfl rfl rfl rfl (QOp.ok (fun X => OpOk.pickF rfl rfl)) ?_
            (apply Sd.tail; case hall => kernel_rfl)
            refine RunL.mem (fl2 (flS (flS (flS (flS rfl)))) (sep_emp _)) ?_
            refine RunL.nil ?_
            refine Run.condF rfl ?_
            refine Run.skip ?_
            refine Run.inBlock ?_
            refine Run.region ?_
            refine RunL.ok (OpOk.move rfl) rfl ?_
            refine RunL.ok (OpOk.addN _ 1 rfl rfl rfl rfl (by omega)) rfl ?_
            refine RunL.ok (OpOk.assign rfl) rfl ?_
            refine RunL.nil ?_
            first
            | rw [show max (-1 : Int) (-1) = -1 from rfl]
            | skip
            refine Run.jump ((ih (i + 1, _, xs, q, t, es) ⟨by dsimp only; omega, by dsimp only; omega, hSx⟩ (by dsimp only; omega))) ⟨rfl, rfl, rfl, trivial⟩ (Grew.of (Eq.trans (frc (frl (frl (frl (frl (frl (frl rfl)))))) rfl) (congrArg (· * _) (asg (asg (asg (asg (asg (asg (asg (asg (asg (asg (asg (asg (asg (asg (asg (asg (asg (asg (asg (asg (asg (asg (asg (asg (asg as1))))))))))))))))))))))))))) (Grew.refl _))
          refine RunL.off rfl rfl rfl rfl ?_
          refine RunL.off rfl rfl rfl rfl ?_
          refine RunL.off rfl rfl rfl rfl ?_
          refine RunL.off rfl rfl rfl rfl ?_
          refine RunL.ok (OpOk.pickF rfl rfl) rfl ?_
          refine RunL.nil ?_
          refine Run.condF rfl ?_
          refine Run.skip ?_
          refine Run.seq ?_
          refine Run.seq ?_
          refine Run.know (fun w s => (s.conv (frl (frl rfl))).ownRd0) (fun rdz78 => ?_)
          (apply Run.drawD [] (by rfl) (Eq.trans rfl rfl); case hchk => kernel_rfl)
          refine Sd.quiet 0 _ _ rfl rfl rfl rfl rfl (QOp.ok (fun X => OpOk.move rfl)) ?_
          refine Sd.quiet 1 _ _ rfl rfl rfl rfl rfl (QOp.ok (fun X => OpOk.move rfl)) ?_
          refine Sd.quiet 2 _ _ rfl rfl rfl rfl rfl (QOp.ok (fun X => OpOk.as (c := false) (OpOk.neq rfl rfl) (by rw [decide_eq_true (by omega)]; rfl))) ?_
          refine Sd.quiet 3 _ _ rfl rfl rfl rfl rfl (QOp.ok (fun X => OpOk.move rfl)) ?_
          refine Sd.quiet 4 _ _ rfl rfl rfl rfl rfl (QOp.ok (fun X => OpOk.move rfl)) ?_
          refine Sd.quiet 7 _ _ rfl rfl rfl rfl rfl (QOp.ok (fun X => OpOk.move rfl)) ?_
          refine Sd.quiet 8 _ _ rfl rfl rfl rfl rfl (QOp.ok (fun X => OpOk.move rfl)) ?_
          refine Sd.quiet 9 _ _ rfl rfl rfl rfl rfl (QOp.ok (fun X => OpOk.move rfl)) ?_
          (refine Sd.exec 5 rfl rfl rfl rfl rfl ?hrest (by rfl) (fun Xz79 Kz79 hKz79 => ?_); case hrest => kernel_rfl)
          refine RunL.mem (fl2 (sep_emp _) rfl) ?_
          refine RunL.call cal49 rfl (s49 (by assumption)) rfl (fun vz80 Az80 hz80 => ?_)
          obtain rfl := hz80
          refine RunL.know (fun w s => (s.conv rfl).ownRd0) (fun rdz81 => ?_)
          refine Sd.ret hKz79 (Eq.trans rfl (gp2 (sep_emp _).symm (asg rfl))) ⟨_, (emp_sep _).symm⟩ ?_
          refine Sd.quiet 6 _ _ rfl rfl rfl rfl rfl (QOp.ok (fun X => OpOk.strOf rfl rfl rfl rfl (Rd.right (Rd.right rdz81)).left)) ?_
          (refine Sd.exec 10 rfl rfl rfl rfl rfl ?hrest (by rfl) (fun Xz82 Kz82 hKz82 => ?_); case hrest => kernel_rfl)
          refine RunL.mem (fl2 (flS rfl) (sep_emp _)) ?_
          refine RunL.call cal54 rfl (s54 (Rd.right rdz12).left.left.left.left.left.left.left.left.left.left.left.left (Rd.right rdz33).left.left.left.left.left.left (Alls.right z29).left.left.left.left.left.left.left rfl (by assumption) (by omega)) rfl (fun vz83 Az83 hz83 => ?_)
          obtain ⟨z84, rfl⟩ := hz83
          refine RunL.know (fun w s => (s.conv rfl).ownRd0) (fun rdz85 => ?_)
          refine Sd.ret hKz82 (Eq.trans rfl (gp2 (sep_emp _).symm (asg (asg (asg rfl))))) ⟨_, (asg rfl)⟩ ?_
          refine Sd.quiet 11 _ _ rfl rfl rfl rfl rfl (QOp.ok (fun X => OpOk.strOf rfl rfl rfl rfl (Rd.right (Rd.right rdz85)).left)) ?_
          refine Sd.quiet 12 _ _ rfl rfl rfl rfl rfl (QOp.ok (fun X => OpOk.neqSS rfl rfl)) ?_
          refine Sd.quiet 13 _ _ rfl rfl rfl rfl rfl (QOp.ok (fun X => OpOk.pickF rfl rfl)) ?_
          refine Sd.quiet 14 _ _ rfl rfl rfl rfl rfl (QOp.ok (fun X => OpOk.move rfl)) ?_
          refine Sd.splitN (fun z86 => ?_) (fun z86 => ?_)
          · refine Sd.skip 15 _ rfl rfl rfl rfl rfl ?_
            refine Sd.skip 16 _ rfl rfl rfl rfl rfl ?_
            refine Sd.skip 17 _ rfl rfl rfl rfl rfl ?_
            refine Sd.skip 18 _ rfl rfl rfl rfl rfl ?_
            refine Sd.skip 19 _ rfl rfl rfl rfl rfl ?_
            refine Sd.skip 20 _ rfl rfl rfl rfl rfl ?_
            refine Sd.quiet 21 _ _ rfl rfl rfl rfl rfl (QOp.ok (fun X => OpOk.pickT rfl rfl)) ?_
            (apply Sd.tail; case hall => kernel_rfl)
            refine RunL.mem (fl2 (flS (flS (flS rfl))) (sep_emp _)) ?_
            refine RunL.nil ?_
            refine Run.condT rfl ?_
            refine Run.seq ?_
            refine Run.region ?_
            refine RunL.ok (OpOk.assign rfl) rfl ?_
            refine RunL.nil ?_
            refine Run.ret1 Try.func13 rfl rfl ?_
            exact absurd (by rw [z30, hR0, List.take_nil, doneF]) z86
          refine Sd.quiet 15 _ _ rfl rfl rfl rfl rfl (QOp.ok (fun X => OpOk.move rfl)) ?_
          refine Sd.quiet 16 _ _ rfl rfl rfl rfl rfl (QOp.ok (fun X => OpOk.strOf rfl rfl rfl rfl (Rd.right rdz16).left.left.left.left.left.left.left.left.left.left)) ?_
          refine Sd.quiet 17 _ _ rfl rfl rfl rfl rfl (QOp.ok (fun X => OpOk.fieldAddr fld113_1 rfl)) ?_
          refine Sd.quiet 18 _ _ rfl rfl rfl rfl rfl (QOp.ok (fun X => OpOk.load rfl rfl rfl (Blk.out Blk.pts.left.left.left.left.left.left.left.left.left.left.left.left.left.left.left _ _ (by first | rfl | assumption)))) ?_
          refine Sd.quiet 19 _ _ rfl rfl rfl rfl rfl (QOp.ok (fun X => OpOk.strOf rfl rfl rfl rfl rdb0.left.left.left.left.left.left.left.left.left.left.left.left.left.left.left.left.left)) ?_
          refine Sd.quiet 20 _ _ rfl rfl rfl rfl rfl (QOp.ok (fun X => OpOk.neqSS rfl rfl)) ?_
          refine Sd.quiet 21 _ _ rfl rfl rfl rfl rfl (QOp.ok (fun X => OpOk.pickF rfl rfl)) ?_
          (apply Sd.tail; case hall => kernel_rfl)
          refine RunL.mem (fl2 (flS (flS (flS rfl))) (sep_emp _)) ?_
          refine RunL.nil ?_
          refine Run.condNF rfl (by first | omega | with_reducible rfl | assumption) ?_
          refine Run.skip ?_
          refine Run.seq ?_
          refine Run.region ?_
          refine RunL.ok (OpOk.move rfl) rfl ?_
          refine RunL.mem (frc (frl (frl (frl rfl))) rfl) ?_
          refine RunL.call cal39 rfl (s39f (by assumption)) rfl (fun vz91 Az91 hz91 => ?_)
          obtain ⟨z92, ⟨z93, ⟨z94, ⟨rfl, rfl⟩⟩⟩⟩ := hz91
          refine RunL.ok (OpOk.move rfl) rfl ?_
          refine RunL.ok (OpOk.ext20 rfl) rfl ?_
          refine RunL.ok (OpOk.ext21 rfl) rfl ?_
          refine RunL.alloc ti86 rfl (fun bz95 => ?_)
          refine RunL.storeAll ti86 rfl rfl rfl (ones rfl) rfl rfl ?_
          refine RunL.ok (OpOk.assign rfl) rfl ?_
          refine RunL.nil ?_
          refine Run.seq ?_
          refine Run.seq ?_
          rw [rw_a]
          rw [rw_b]
          refine Run.region ?_
          refine RunL.ok (OpOk.move rfl) rfl ?_
          refine RunL.ok (OpOk.as (c := false) (OpOk.neq rfl rfl) (by rw [decide_eq_true (by omega)]; rfl)) rfl ?_
          refine RunL.nil ?_
          refine Run.condF rfl ?_
          refine Run.skip ?_
          refine Run.seq ?_
          refine Run.know (fun w s => (s.conv (frl (frl rfl))).ownRd0) (fun rdz96 => ?_)
          (apply Run.drawD [] (by rfl) (sep_emp _).symm; case hchk => kernel_rfl)
          refine Sd.quiet 0 _ _ rfl rfl rfl rfl rfl (QOp.ok (fun X => OpOk.move rfl)) ?_
          refine Sd.quiet 1 _ _ rfl rfl rfl rfl rfl (QOp.ok (fun X => OpOk.asF (OpOk.eql rfl rfl) (by omega))) ?_
          refine Sd.quiet 2 _ _ rfl rfl rfl rfl rfl (QOp.ok (fun X => OpOk.move rfl)) ?_
          refine Sd.skip 3 _ rfl rfl rfl rfl rfl ?_
          refine Sd.skip 4 _ rfl rfl rfl rfl rfl ?_
          refine Sd.skip 5 _ rfl rfl rfl rfl rfl ?_
          refine Sd.skip 6 _ rfl rfl rfl rfl rfl ?_
          refine Sd.skip 7 _ rfl rfl rfl rfl rfl ?_
          refine Sd.skip 8 _ rfl rfl rfl rfl rfl ?_
          refine Sd.quiet 9 _ _ rfl rfl rfl rfl rfl (QOp.ok (fun X => OpOk.pickF rfl rfl)) ?_
          refine Sd.quiet 10 _ _ rfl rfl rfl rfl rfl (QOp.ok (fun X => OpOk.move rfl)) ?_
          refine Sd.quiet 11 _ _ rfl rfl rfl rfl rfl (QOp.ok (fun X => OpOk.move rfl)) ?_
          refine Sd.quiet 12 _ _ rfl rfl rfl rfl rfl (QOp.ok (fun X => OpOk.as (c := true) (OpOk.neq rfl rfl) (by rw [decide_eq_false (by omega)]; rfl))) ?_
          refine Sd.quiet 13 _ _ rfl rfl rfl rfl rfl (QOp.ok (fun X => OpOk.move rfl)) ?_
          refine Sd.quiet 14 _ _ rfl rfl rfl rfl rfl (QOp.ok (fun X => OpOk.fieldAddr fld86_2 rfl)) ?_
          refine Sd.quiet 15 _ _ rfl rfl rfl rfl rfl (QOp.ok (fun X => OpOk.load rfl rfl rfl (Blk.out Blk.pts.left.left.left.left.left.left.left.left.left _ _ (by first | rfl | assumption)))) ?_
          refine Sd.quiet 16 _ _ rfl rfl rfl rfl rfl (QOp.ok (fun X => OpOk.as (c := false) (OpOk.neq rfl rfl) (by rw [decide_eq_true (by omega)]; rfl))) ?_
          refine Sd.quiet 17 _ _ rfl rfl rfl rfl rfl (QOp.ok (fun X => OpOk.move rfl)) ?_
          refine Sd.quiet 18 _ _ rfl rfl rfl rfl rfl (QOp.ok (fun X => OpOk.fieldAddr fld86_4 rfl)) ?_
          refine Sd.quiet 19 _ _ rfl rfl rfl rfl rfl (QOp.ok (fun X => OpOk.load rfl rfl rfl (Blk.out Blk.pts.left.left.left.left.left.left.left.left.left _ _ (by first | rfl | assumption)))) ?_
          refine Sd.quiet 20 _ _ rfl rfl rfl rfl rfl (QOp.ok (fun X => OpOk.lenV rfl rfl rfl)) ?_
          refine Sd.quiet 21 _ _ rfl rfl rfl rfl rfl (QOp.ok (fun X => OpOk.neq rfl rfl)) ?_
          refine Sd.quiet 22 _ _ rfl rfl rfl rfl rfl (QOp.ok (fun X => OpOk.pickF rfl rfl)) ?_
          refine Sd.quiet 23 _ _ rfl rfl rfl rfl rfl (QOp.ok (fun X => OpOk.move rfl)) ?_
          refine Sd.quiet 24 _ _ rfl rfl rfl rfl rfl (QOp.ok (fun X => OpOk.loadS rfl rfl ti86 rfl Blk.pts.left.left rfl)) ?_
          refine Sd.quiet 26 _ _ rfl rfl rfl rfl rfl (QOp.ok (fun X => OpOk.loadS rfl rfl ti86 rfl Blk.pts.left.left.left.left.left.left.left.left.left.left.left.left.left.left.left.left.left.left.left rfl)) ?_
          (refine Sd.exec 25 rfl rfl rfl rfl rfl ?hrest (by rfl) (fun Xz97 Kz97 hKz97 => ?_); case hrest => kernel_rfl)
          refine RunL.mem (fl2 (sep_emp _) (sep_emp _)) ?_
          refine RunL.call cal44 rfl (s44 (Rd.right rdz96).left.left.left (by assumption)) rfl (fun vz98 Az98 hz98 => ?_)
          obtain ⟨z99, ⟨z100, ⟨z101, ⟨rfl, rfl⟩⟩⟩⟩ := hz98
          refine RunL.know (fun w s => (s.conv rfl).ownRd0) (fun rdz102 => ?_)
          refine Sd.ret hKz97 (Eq.trans rfl (gp2 (sep_emp _).symm (asg rfl))) ⟨_, (emp_sep _).symm⟩ ?_
          (refine Sd.exec 27 rfl rfl rfl rfl rfl ?hrest (by rfl) (fun Xz103 Kz103 hKz103 => ?_); case hrest => kernel_rfl)
          refine RunL.mem (fl2 (flS rfl) (sep_emp _)) ?_
          refine RunL.call cal44 rfl (s44 (Rd.right rdz15).left.left.left.left.left.left.left.left.left.left.left.left.left.left.left.left.left.left.left.left.left (by assumption)) rfl (fun vz104 Az104 hz104 => ?_)
          obtain ⟨z105, ⟨z106, ⟨z107, ⟨rfl, rfl⟩⟩⟩⟩ := hz104
          refine RunL.know (fun w s => (s.conv rfl).ownRd0) (fun rdz108 => ?_)
          refine Sd.ret hKz103 (Eq.trans rfl (gp2 (sep_emp _).symm (asg (asg (asg rfl))))) ⟨_, (asg rfl)⟩ ?_
          (refine Sd.exec 28 rfl rfl rfl rfl rfl ?hrest (by rfl) (fun Xz109 Kz109 hKz109 => ?_); case hrest => kernel_rfl)
          refine RunL.mem (fl2 (flS (flS (flS rfl))) (sep_emp _)) ?_
          refine RunL.call cal43 rfl (s43 (Rd.right rdz102).left.left (Rd.right rdz108)) rfl (fun vz110 Az110 hz110 => ?_)
          obtain ⟨z111, ⟨rfl, rfl⟩⟩ := hz110
          refine Sd.ret hKz109 (Eq.trans rfl (gp2 (sep_emp _).symm (asg (asg (asg (asg rfl)))))) ⟨_, rfl⟩ ?_
          refine Sd.quiet 29 _ _ rfl rfl rfl rfl rfl (QOp.ok (fun X => OpOk.not rfl)) ?_
          refine Sd.quiet 30 _ _ rfl rfl rfl rfl rfl (QOp.ok (fun X => OpOk.pickF rfl rfl)) ?_
          refine Sd.quiet 31 _ _ rfl rfl rfl rfl rfl (QOp.ok (fun X => OpOk.pickT rfl rfl)) ?_
          refine Sd.quiet 32 _ _ rfl rfl rfl rfl rfl (QOp.ok (fun X => OpOk.pickF rfl rfl)) ?_
          (apply Sd.tail; case hall => kernel_rfl)
          refine RunL.mem (fl2 (flS (flS (flS (flS rfl)))) (sep_emp _)) ?_
          refine RunL.nil ?_
          refine Run.condF rfl ?_
          refine Run.skip ?_
          refine Run.inBlock ?_
          refine Run.region ?_
          refine RunL.ok (OpOk.move rfl) rfl ?_
          refine RunL.ok (OpOk.addN _ 1 rfl rfl rfl rfl (by omega)) rfl ?_
          refine RunL.ok (OpOk.assign rfl) rfl ?_
          refine RunL.nil ?_
          first
          | rw [show max (-1 : Int) (-1) = -1 from rfl]
          | skip
          refine Run.jump ((ih (i + 1, _, xs, q, t, es) ⟨by dsimp only; omega, by dsimp only; omega, hSx⟩ (by dsimp only; omega))) ⟨rfl, rfl, rfl, trivial⟩ (Grew.of (Eq.trans (frc (frl (frl (frl (frl (frl (frl rfl)))))) rfl) (congrArg (· * _) (asg (asg (asg (asg (asg (asg (asg (asg (asg (asg (asg (asg (asg (asg (asg (asg (asg (asg (asg (asg (asg (asg (asg (asg (asg as1))))))))))))))))))))))))))) (Grew.refl _))
  · obtain rfl : i = 60 := by omega
    clear ih
    refine Run.seq ?_
    refine Run.seq ?_
    refine Run.region ?_
    refine RunL.ok (OpOk.move rfl) rfl ?_
    refine RunL.ok (OpOk.move rfl) rfl ?_
    refine RunL.ok (OpOk.lenR rfl rfl rd.left.left rfl) rfl ?_
    refine RunL.ok (OpOk.asT (OpOk.lss rfl rfl) (by omega)) rfl ?_
    refine RunL.ok (OpOk.move rfl) rfl ?_
    refine RunL.on rfl rfl ?_
    refine RunL.ok (OpOk.move rfl) rfl ?_
    refine RunL.on rfl rfl ?_
    refine RunL.ok (OpOk.asF (OpOk.lss rfl rfl) (by omega)) rfl ?_
    refine RunL.ok (OpOk.pickT rfl rfl) rfl ?_
    refine RunL.nil ?_
    refine Run.condF rfl ?_
    refine Run.exit rfl ?_
    refine Run.seq ?_
    refine Run.region ?_
    refine RunL.ok (OpOk.assign rfl) rfl ?_
    refine RunL.nil ?_
    refine Run.ret1 Try.func13 rfl rfl ?_
    exact ⟨_, rfl, (asg as1)⟩
  · obtain rfl : i = cs.length := by omega
    clear ih
    refine Run.seq ?_
    refine Run.seq ?_
    refine Run.region ?_
    refine RunL.ok (OpOk.move rfl) rfl ?_
    refine RunL.ok (OpOk.move rfl) rfl ?_
    refine RunL.ok (OpOk.lenR rfl rfl rd.left.left rfl) rfl ?_
    refine RunL.ok (OpOk.asF (OpOk.lss rfl rfl) (by omega)) rfl ?_
    refine RunL.ok (OpOk.move rfl) rfl ?_
    refine RunL.off rfl rfl rfl rfl ?_
    refine RunL.off rfl rfl rfl rfl ?_
    refine RunL.ok (OpOk.pickF rfl rfl) rfl ?_
    refine RunL.nil ?_
    refine Run.condF rfl ?_
    refine Run.exit rfl ?_
    refine Run.seq ?_
    refine Run.region ?_
    refine RunL.ok (OpOk.assign rfl) rfl ?_
    refine RunL.nil ?_
    refine Run.ret1 Try.func13 rfl rfl ?_
    exact ⟨_, rfl, (asg as1)⟩
end
end Go.Proofs.Yteopadjihklkmaa
end
