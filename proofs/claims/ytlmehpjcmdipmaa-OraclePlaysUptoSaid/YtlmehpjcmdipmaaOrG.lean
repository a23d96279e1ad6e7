/- The law OraclePlays, walked. -/
import Derived.Test.YtlmehpjcmdipmaaOrF
namespace Go.Proofs.Ytlmehpjcmdipmaa
open Go Go.Proofs
set_option maxRecDepth 100000
set_option maxHeartbeats 4000000
set_option linter.unusedSimpArgs false
theorem flatB_mapO {a b : List (Value × List UInt8)} (h : a.map Prod.snd = b.map Prod.snd) : flatB a = flatB b := by
  have e : ∀ l : List (Value × List UInt8), flatB l = (l.map Prod.snd).flatten := fun l => by simp [flatB, List.flatMap]
  rw [e, e, h]
theorem snd_atO {a b : List (Value × List UInt8)} (h : a.map Prod.snd = b.map Prod.snd) (k : Nat) : (a.getD k default).2 = (b.getD k default).2 := by
  have e : ∀ l : List (Value × List UInt8), (l.getD k default).2 = (l.map Prod.snd).getD k default := fun l => by
    simp only [List.getD_eq_getElem?_getD, List.getElem?_map]
    cases l[k]? <;> rfl
  rw [e, e, h]
theorem holds_at {l : List Me} (hn : l.Nodup) (t : Int) (x : Me) : holdsP l t x ↔ 0 < ((atF 0 l x : Nat) : Int) ∧ t = ((atF 0 l x : Nat) : Int) := by
  constructor
  · rintro ⟨h1, h2, h3⟩
    have hne : atF 0 l x ≠ 0 := fun e => by
      refine (atF_zero e).2 (h3 ▸ getD_mem (show (t - 1).toNat < l.length by omega))
    obtain ⟨_, h4, h5, h6⟩ := atF_pos hne
    have := nodup_getD hn (i := (t - 1).toNat) (j := atF 0 l x - 0 - 1) (by omega) (by omega) (h3.trans h6.symm)
    omega
  · rintro ⟨h1, h2⟩
    obtain ⟨_, h4, h5, h6⟩ := atF_pos (show atF 0 l x ≠ 0 by omega)
    refine ⟨by omega, by omega, ?_⟩
    rw [show (t - 1).toNat = atF 0 l x - 0 - 1 by omega]
    exact h6
structure OpG2 (w0 : World) (o : OpT) : Prop where
  g : OpG w0 o
  nm : o.2.2.2.2.length ≤ 1048576
section
variable {w0 : World} {A : Asn}
theorem oraclePlays_spec {u : Value} {ops : List OpT} (rd : Rd w0 (old w0) u 7 ops.length (Fl encT28 ops)) (hok : ∀ o ∈ ops, OpG2 w0 o) :
    Spec Try.prog w0 11 [u] (old w0) (fun v' A' => v' = .bool true ∧ Grew (old w0) A') := by
  have hmx := rd.max
  refine Spec.of_run [(0, u)] Try.func11 rfl (Nat.le_of_ble_eq_true rfl) (by repeat (first | exact trivial | refine ⟨rfl, ?_⟩)) ?_
  refine Run.seq ?_
  refine Run.region ?_
  refine RunL.alloc ti4 rfl (fun bx1 => ?_)
  refine RunL.nil ?_
  refine Run.seq ?_
  refine Run.seq ?_
  refine Run.region ?_
  refine RunL.call cal13 rfl (s13) rfl (fun vx2 Ax2 hx2 => ?_)
  obtain ⟨x3, ⟨rfl, rfl⟩⟩ := hx2
  refine RunL.ok (OpOk.not rfl) rfl ?_
  refine RunL.nil ?_
  refine Run.condF rfl ?_
  refine Run.skip ?_
  refine Run.seq ?_
  refine Run.region ?_
  refine RunL.ok (OpOk.build rfl (fun w => run_build w 34 _ _ (by rfl))) rfl ?_
  refine RunL.box rfl rfl (fun bx4 => ?_)
  refine RunL.ent (newT34 _ _) ?_
  refine RunL.ok (OpOk.assign rfl) rfl ?_
  refine RunL.nil ?_
  refine Run.seq ?_
  refine Run.region ?_
  refine RunL.alloc ti79 rfl (fun bx5 => ?_)
  refine RunL.nil ?_
  refine Run.seq ?_
  refine Run.seq ?_
  refine Run.region ?_
  refine RunL.ok (OpOk.assign rfl) rfl ?_
  refine RunL.nil ?_
  refine Run.block ?_
  refine Run.ent (Ent.ownNil' _ 87 5 (Fl encT87 ([] : List Me)) rfl) ?_
  refine Run.jump ((Run.loopM0 (X := Nat × List Nat × Asn × Value × Value × Value × List Me) (fun x => x.2.1) (fun x => [(5, .int .i64 (x.1 : Int)), (4, .pointer (some ⟨bx5, 0, none⟩)), (3, .pointer (some ⟨bx4, 0, none⟩)), (2, .pointer (some ⟨bx1, 0, none⟩)), (0, u)]) (fun x => old w0 * x.2.2.1 * pts bx1 (.cells #[.bool false] 4 (0, 0)) * pts bx5 (.cells #[x.2.2.2.2.2.1] 79 (0, 0)) * own 87 5 x.2.2.2.2.2.1 x.2.2.2.2.2.2.length (Fl encT87 x.2.2.2.2.2.2) * pts bx4 (.cells #[x.2.2.2.1, x.2.2.2.2.1] 34 (0, 0)) * omap x.2.2.2.1 (x.2.2.2.2.2.2) * own 85 6 x.2.2.2.2.1 (x.2.2.2.2.2.2).length (Fl encT85 (mintF 0 (x.2.2.2.2.2.2)))) (fun x => x.1 ≤ ops.length ∧ x.1 ≤ 100 ∧ x.2.2.2.2.2.2.length ≤ x.1 ∧ x.2.2.2.2.2.2.Nodup) (fun x => ops.length - x.1) (0, [], _, .map none, .slice none 0 0, .slice none 0 0, []) ⟨Nat.zero_le _, Nat.zero_le _, by simp, by simp⟩ rfl (fun x hx ih => ?_))) ⟨rfl, rfl, rfl, rfl, rfl, trivial⟩ (Grew.of (Eq.trans (frc (frl (frl rfl)) (frc (frl (frl rfl)) (frc (frl (frl rfl)) (frc rfl (frc rfl (frc (frl rfl) rfl)))))) (congrArg (· * _) (congrArg (· * _) (congrArg (· * _) (congrArg (· * _) (congrArg (· * _) (congrArg (· * _) as1))))))) (Grew.refl _))
  obtain ⟨i, ds, J, mv, av, lv, l⟩ := x
  simp only at hx ih ⊢
  obtain ⟨hi, hi1, hl, hnd⟩ := hx
  rcases Nat.lt_or_ge i ops.length with hlt | hge
  · rcases Nat.lt_or_ge i 100 with h100 | h100
    · have ho := hok _ (getD_mem hlt)
      obtain ⟨o, hoe⟩ : ∃ o, ops.getD i default = o := ⟨_, rfl⟩
      rw [hoe] at ho
      obtain ⟨ob, ot, ⟨oa, oc, od, oe⟩, os, ol⟩ := o
      have hord := ho.g.rd
      have hoal := ho.g.al
      have hosz := ho.g.sz
      have honm := ho.nm
      dsimp only at hord hoal hosz honm
      obtain ⟨l2, hl2⟩ : ∃ y, y = nxtL l ((oa, oc, od, oe), flatB ol) := ⟨_, rfl⟩
      obtain ⟨t2, ht2⟩ : ∃ y, y = nxtT l ((oa, oc, od, oe), flatB ol) := ⟨_, rfl⟩
      have hone : ∀ w ∈ (Value.agg (encT28 (ob, ot, (oa, oc, od, oe), os, ol)).toArray).cells.toList, w.oneCell' = true := fun w hw => OneC.one (enc := encT28) (ob, ot, (oa, oc, od, oe), os, ol) w hw
      refine Run.seq ?_
      refine Run.seq ?_
      refine Run.region ?_
      refine RunL.ok (OpOk.move rfl) rfl ?_
      refine RunL.ok (OpOk.move rfl) rfl ?_
      refine RunL.ok (OpOk.lenR rfl rfl rd.left.left.left.left.left.left.left.left rfl) rfl ?_
      refine RunL.ok (OpOk.asT (OpOk.lss rfl rfl) (by omega)) rfl ?_
      refine RunL.ok (OpOk.move rfl) rfl ?_
      refine RunL.on rfl rfl ?_
      refine RunL.ok (OpOk.move rfl) rfl ?_
      refine RunL.on rfl rfl ?_
      refine RunL.ok (OpOk.asT (OpOk.lss rfl rfl) (by omega)) rfl ?_
      refine RunL.ok (OpOk.pickT rfl rfl) rfl ?_
      refine RunL.nil ?_
      refine Run.condT rfl ?_
      refine Run.skip ?_
      refine Run.seq ?_
      refine Run.block ?_
      refine Run.seq ?_
      refine Run.region ?_
      refine RunL.ok (OpOk.move rfl) rfl ?_
      refine RunL.ok (OpOk.move rfl) rfl ?_
      refine RunL.ok (OpOk.idxN rfl ti28 rfl rd.left.left.left.left.left.left.left.left rfl (by omega)) rfl ?_
      refine RunL.ok (OpOk.loadFlE (by assumption) rfl rfl ti28 rfl rd.left.left.left.left.left.left.left.left (fun _ => rfl) rfl (by omega)) rfl ?_
      refine RunL.alloc ti28 rfl (fun by1 => ?_)
      refine RunL.storeAll ti28 rfl rfl rfl (by assumption) rfl rfl ?_
      refine RunL.nil ?_
      refine Run.seq ?_
      refine Run.region ?_
      refine RunL.ok (OpOk.fieldAddr fld28_3 rfl) rfl ?_
      refine RunL.ok (OpOk.load rfl rfl rfl (Blk.out Blk.pts _ _ (by first | rfl | assumption))) rfl ?_
      refine RunL.call cal16 rfl (s16 hord.left.left.left.left.left.left.left.left.left hoal.left.left.left.left.left.left.left.left.left (by omega)) rfl (fun vy2 Ay2 hy2 => ?_)
      obtain ⟨rfl, rfl⟩ := hy2
      refine RunL.ok (OpOk.assign rfl) rfl ?_
      refine RunL.nil ?_
      refine Run.seq ?_
      refine Run.region ?_
      refine RunL.ok (OpOk.assign rfl) rfl ?_
      refine RunL.nil ?_
      refine Run.seq ?_
      refine Run.seq ?_
      refine Run.region ?_
      refine RunL.ok (OpOk.assign rfl) rfl ?_
      refine RunL.nil ?_
      refine Run.block ?_
      refine Run.ent (Ent.ownNil' _ 37 1 (Fl encV ([] : List (Value × List UInt8))) rfl) ?_
      refine Run.mem (sep_emp _).symm ?_
      rw [show emp = ownsB 5 [] from rfl]
      refine Run.jump ((Run.loopJ (X := Nat × Asn × Value × List (Value × List UInt8)) (fun x => [(9, .int .i64 (x.1 : Int)), (8, x.2.2.1), (7, S (flatB ol)), (6, .pointer (some ⟨by1, 0, none⟩)), (5, .int .i64 (i : Int)), (4, .pointer (some ⟨bx5, 0, none⟩)), (3, .pointer (some ⟨bx4, 0, none⟩)), (2, .pointer (some ⟨bx1, 0, none⟩)), (0, u)]) (fun x => old w0 * x.2.1 * pts bx1 (.cells #[.bool false] 4 (0, 0)) * pts bx5 (.cells #[lv] 79 (0, 0)) * own 87 5 lv (l).length (Fl encT87 (l)) * pts bx4 (.cells #[mv, av] 34 (0, 0)) * omap mv (l) * own 85 6 av (l).length (Fl encT85 (mintF 0 (l))) * pts by1 (.cells (Value.agg (encT28 (ob, ot, (oa, oc, od, oe), os, ol)).toArray).cells 28 (0, 0)) * marks ds * ownsB 5 x.2.2.2 * own 37 1 x.2.2.1 x.1 (Fl encV x.2.2.2)) (fun x => x.1 ≤ ol.length ∧ x.2.2.2.map Prod.snd = (ol.take x.1).map Prod.snd) (fun x => ol.length - x.1) (0, J, .slice none 0 0, []) ⟨Nat.zero_le _, by simp⟩ (fun x hx ih2 => ?_))) ⟨rfl, rfl, rfl, rfl, rfl, rfl, rfl, rfl, rfl, trivial⟩ (Grew.of (frc (frl rfl) (frc rfl (frc (frl rfl) rfl))) (Grew.refl _))
      obtain ⟨k, J1, vin, ms⟩ := x
      simp only at hx ih2 ⊢
      obtain ⟨hk, hms⟩ := hx
      have hml : ms.length = min k ol.length := by have := congrArg List.length hms; simpa using this
      rcases Nat.lt_or_ge k ol.length with hk1 | hk1
      · have rdi : Rd w0 (old w0) (ol.getD k default).1 1 (ol.getD k default).2.length (B (ol.getD k default).2) := hoal.get hk1
        have hv := Fl_V ol k hk1
        have hf2 := flatB_le ol (k + 1)
        have hft := congrArg List.length (flatB_take hk1)
        rw [List.length_append] at hft
        refine Run.seq ?_
        refine Run.seq ?_
        refine Run.region ?_
        refine RunL.ok (OpOk.move rfl) rfl ?_
        refine RunL.ok (OpOk.fieldAddr fld28_3 rfl) rfl ?_
        refine RunL.ok (OpOk.load rfl rfl rfl (Blk.out Blk.pts.left.left.left _ _ (by first | rfl | assumption))) rfl ?_
        refine RunL.ok (OpOk.lenR rfl rfl hord.left.left.left.left.left.left.left.left.left.left.left rfl) rfl ?_
        refine RunL.ok (OpOk.asT (OpOk.lss rfl rfl) (by omega)) rfl ?_
        refine RunL.nil ?_
        refine Run.condT rfl ?_
        refine Run.skip ?_
        refine Run.seq ?_
        refine Run.block ?_
        refine Run.region ?_
        refine RunL.ok (OpOk.move rfl) rfl ?_
        refine RunL.lit0B rfl ti5 rfl (fun vz1 rdz1 => ?_)
        refine RunL.ok (OpOk.fieldAddr fld28_3 rfl) rfl ?_
        refine RunL.ok (OpOk.load rfl rfl rfl (Blk.out Blk.pts.left.left.left.left _ _ (by first | rfl | assumption))) rfl ?_
        refine RunL.ok (OpOk.move rfl) rfl ?_
        refine RunL.ok (OpOk.idx1N rfl ti37 rfl hord.left.left.left.left.left.left.left.left.left.left.left.left rfl (by omega)) rfl ?_
        refine RunL.ok (OpOk.load rfl rfl rfl (Rd.cell hord.left.left.left.left.left.left.left.left.left.left.left.left (by first | assumption | rfl))) rfl ?_
        refine RunL.appendB0 rfl ti5 rfl rfl rfl rfl rdi.left.left.left.left.left.left.left.left.left.left.left.left (by omega) rfl (fun vz2 rdz2 => ?_)
        refine RunL.know (fun w s => (s.conv rfl).ownRd0) (fun rdz4 => ?_)
        have alz3 : Alls (GB w0) _ [(vz2, (ol.getD k default).snd)] := (Alls.cons (GB.of rdz4) Alls.nil)
        refine RunL.litV (ls := [(vz2, (ol.getD k default).snd)]) (Alls.right alz3) rfl ti37 rfl rfl rfl (by decide) rfl (fun vz3 rdz3 => ?_)
        refine RunL.know (fun w s => (s.conv rfl).ownRd0) (fun rdz6 => ?_)
        refine RunL.appendV (Alls.right alz3).left rfl ti37 rfl rfl rfl (frl (frl rfl)) (Rd.right rdz6) (by omega) rfl (fun vz5 rdz5 => ?_)
        refine RunL.ok (OpOk.assign rfl) rfl ?_
        refine RunL.nil ?_
        refine Run.inBlock ?_
        refine Run.region ?_
        refine RunL.ok (OpOk.move rfl) rfl ?_
        refine RunL.ok (OpOk.addN _ 1 rfl rfl rfl rfl (by omega)) rfl ?_
        refine RunL.ok (OpOk.assign rfl) rfl ?_
        refine RunL.nil ?_
        refine Run.jump ((ih2 (k + 1, _, _, ms ++ [(vz2, (ol.getD k default).2)]) ⟨by dsimp only; omega, by dsimp only; rw [take_next hk1, List.map_append, List.map_append, hms]; rfl⟩ (by dsimp only; omega))) ⟨rfl, rfl, rfl, rfl, rfl, rfl, rfl, rfl, rfl, trivial⟩ (by simp only [ownsB_snoc, ← sep_assoc]; exact (Grew.of (Eq.trans (frc rfl (frc (frl rfl) (frc (frl rfl) (frc (frl rfl) (frc (frl rfl) (frc (frl rfl) (frc (frl rfl) (frc (frl rfl) (frc (frl rfl) (frc (frl rfl) (frc (frl rfl) rfl))))))))))) (congrArg (· * _) (congrArg (· * _) (congrArg (· * _) (congrArg (· * _) (congrArg (· * _) (congrArg (· * _) (congrArg (· * _) (congrArg (· * _) (congrArg (· * _) (congrArg (· * _) (congrArg (· * _) (asg as1))))))))))))) (Grew.refl _)))
      · obtain rfl : k = ol.length := by omega
        rw [List.take_length] at hms
        clear ih2
        have hflat := flatB_mapO hms
        have hfsz : (flatB ms).length ≤ 140737488355328 := by rw [hflat]; omega
        cases ob with
        | true =>
          have hha := holds_at hnd ot ((oa, oc, od, oe), flatB ol)
          rcases Decidable.em (holdsP l ot ((oa, oc, od, oe), flatB ms)) with hh | hh
          · have hh2 := hh
            rw [hflat] at hh2
            obtain ⟨hp1, hp2⟩ := hha.1 hh2
            refine Run.seq ?_
            refine Run.seq ?_
            refine Run.region ?_
            refine RunL.ok (OpOk.move rfl) rfl ?_
            refine RunL.ok (OpOk.fieldAddr fld28_3 rfl) rfl ?_
            refine RunL.ok (OpOk.load rfl rfl rfl (Blk.out Blk.pts.left.left.left _ _ (by first | rfl | assumption))) rfl ?_
            refine RunL.ok (OpOk.lenR rfl rfl hord.left.left.left.left.left.left.left.left.left.left.left rfl) rfl ?_
            refine RunL.ok (OpOk.asF (OpOk.lss rfl rfl) (by omega)) rfl ?_
            refine RunL.nil ?_
            refine Run.condF rfl ?_
            refine Run.exit rfl ?_
            refine Run.seq ?_
            refine Run.region ?_
            refine RunL.ok (OpOk.load rfl rfl rfl (Blk.out Blk.pts.left.left.left.left.left.left.left.left _ _ (by first | rfl | assumption))) rfl ?_
            refine RunL.ok (OpOk.fieldAddr fld28_2 rfl) rfl ?_
            refine RunL.ok (OpOk.loadSub rfl rfl ti25 rfl Blk.pts.left.left.left rfl rfl) rfl ?_
            refine RunL.ok (OpOk.move rfl) rfl ?_
            refine RunL.know (fun w s => (s.conv (frl rfl)).ownsB0) (fun alz1 => ?_)
            refine RunL.know (fun w s => (s.conv (frl (frl (frl (frl (frl (frl (frl rfl)))))))).ownRd0) (fun rdz2 => ?_)
            refine RunL.call cal37 rfl (s37 (Rd.right rdz2).left.left.left.left.left.left.left (by omega)) rfl (fun vz3 Az3 hz3 => ?_)
            obtain ⟨z4, ⟨rfl, rfl⟩⟩ := hz3
            refine RunL.ok (OpOk.assign rfl) rfl ?_
            refine RunL.nil ?_
            refine Run.seq ?_
            refine Run.seq ?_
            refine Run.region ?_
            refine RunL.ok (OpOk.fieldAddr fld28_0 rfl) rfl ?_
            refine RunL.ok (OpOk.load rfl rfl rfl (Blk.out Blk.pts.left.left.left.left _ _ (by first | rfl | assumption))) rfl ?_
            refine RunL.nil ?_
            refine Run.condT rfl ?_
            refine Run.seq ?_
            refine Run.region ?_
            refine RunL.ok (OpOk.move rfl) rfl ?_
            refine RunL.ok (OpOk.fieldAddr fld28_1 rfl) rfl ?_
            refine RunL.ok (OpOk.load rfl rfl rfl (Blk.out Blk.pts.left.left.left.left _ _ (by first | rfl | assumption))) rfl ?_
            refine RunL.ok (OpOk.fieldAddr fld28_2 rfl) rfl ?_
            refine RunL.ok (OpOk.loadSub rfl rfl ti25 rfl Blk.pts.left.left.left.left rfl rfl) rfl ?_
            refine RunL.ok (OpOk.move rfl) rfl ?_
            refine RunL.know (fun w s => (s.conv (frl rfl)).ownRd0) (fun rdz5 => ?_)
            refine RunL.mem (frc (frl (frl (frl (frl (frl rfl))))) (frc (frl (frl (frl (frl (frl rfl))))) (frc (frl (frl (frl (frl (frl rfl))))) rfl))) ?_
            refine RunL.call cal15 rfl (s15 (Rd.right rdz5).left (Alls.right alz1).left.left (by assumption) (by omega)) rfl (fun vz9 Az9 hz9 => ?_)
            obtain ⟨z10, ⟨rfl, rfl⟩⟩ := hz9
            refine RunL.ok (OpOk.move rfl) rfl ?_
            refine RunL.ok (OpOk.asT (OpOk.gtr rfl rfl) (by omega)) rfl ?_
            refine RunL.ok (OpOk.move rfl) rfl ?_
            refine RunL.on rfl rfl ?_
            refine RunL.ok (OpOk.fieldAddr fld28_1 rfl) rfl ?_
            refine RunL.on rfl rfl ?_
            refine RunL.ok (OpOk.load rfl rfl rfl (Blk.out Blk.pts.left.left.left.left.left.left.left.left _ _ (by first | rfl | assumption))) rfl ?_
            refine RunL.on rfl rfl ?_
            refine RunL.ok (OpOk.move rfl) rfl ?_
            refine RunL.on rfl rfl ?_
            refine RunL.ok (OpOk.asT (OpOk.eql rfl rfl) (by omega)) rfl ?_
            refine RunL.ok (OpOk.pickT rfl rfl) rfl ?_
            refine RunL.splitDT (t := 68) rfl (by first | omega | with_reducible rfl | assumption) ?_
            refine RunL.ok (OpOk.neqB rfl rfl rfl) rfl ?_
            refine RunL.nil ?_
            refine Run.condF rfl ?_
            refine Run.skip ?_
            refine Run.seq ?_
            refine Run.seq ?_
            refine Run.region ?_
            refine RunL.ok (OpOk.assign rfl) rfl ?_
            refine RunL.nil ?_
            refine Run.block ?_
            refine Run.jump ((Run.loopJ (X := Nat × Asn) (fun x => [(15, .int .i64 (x.1 : Int)), (8, vin), (7, S (flatB ol)), (6, .pointer (some ⟨by1, 0, none⟩)), (5, .int .i64 (i : Int)), (4, .pointer (some ⟨bx5, 0, none⟩)), (3, .pointer (some ⟨bx4, 0, none⟩)), (2, .pointer (some ⟨bx1, 0, none⟩)), (0, u)]) (fun x => old w0 * x.2 * pts bx1 (.cells #[.bool false] 4 (0, 0)) * pts bx5 (.cells #[lv] 79 (0, 0)) * own 87 5 lv (l).length (Fl encT87 (l)) * pts bx4 (.cells #[mv, av] 34 (0, 0)) * omap mv (l) * own 85 6 av (l).length (Fl encT85 (mintF 0 (l))) * pts by1 (.cells (Value.agg (encT28 (true, ot, (oa, oc, od, oe), os, ol)).toArray).cells 28 (0, 0)) * marks ds * ownsB 5 (ms.drop x.1) * own 37 1 vin ol.length (Fl encV ms)) (fun x => x.1 ≤ ol.length) (fun x => ol.length - x.1) (0, _) (Nat.zero_le _) (fun x hx ih3 => ?_))) ⟨rfl, rfl, rfl, rfl, rfl, rfl, rfl, rfl, rfl, trivial⟩ (Grew.of (Eq.trans (frc (frl (frl (frl (frl (frl rfl))))) (frc (frl (frl (frl (frl (frl rfl))))) (frc (frl (frl (frl (frl (frl rfl))))) (frc (frl (frl (frl (frl (frl rfl))))) (frc rfl (frc rfl (frc rfl (frc (frl (frl rfl)) (frc (frl (frl rfl)) (frc (frl (frl rfl)) rfl)))))))))) (congrArg (· * _) (congrArg (· * _) (congrArg (· * _) (congrArg (· * _) (congrArg (· * _) (congrArg (· * _) (congrArg (· * _) (congrArg (· * _) (congrArg (· * _) (congrArg (· * _) (asg (asg as1))))))))))))) (Grew.refl _))
            obtain ⟨k, J2⟩ := x
            simp only at hx ih3 ⊢
            rcases Nat.lt_or_ge k ol.length with hk1 | hk1
            · have rdi : Rd w0 (old w0) (ol.getD k default).1 1 (ol.getD k default).2.length (B (ol.getD k default).2) := hoal.get hk1
              have hv := Fl_V ol k hk1
              have hvm := Fl_V ms k (by omega)
              have hsnd := snd_atO hms k
              have hsl := congrArg List.length hsnd
              have hmk := rdi.max
              rw [ownsB_drop 5 (show k < ms.length by omega)]
              simp only [← sep_assoc]
              refine Run.seq ?_
              refine Run.seq ?_
              refine Run.region ?_
              refine RunL.ok (OpOk.move rfl) rfl ?_
              refine RunL.ok (OpOk.move rfl) rfl ?_
              refine RunL.ok (OpOk.lenR rfl rfl (Rd.right rdz5) rfl) rfl ?_
              refine RunL.ok (OpOk.asT (OpOk.lss rfl rfl) (by omega)) rfl ?_
              refine RunL.nil ?_
              refine Run.condT rfl ?_
              refine Run.skip ?_
              refine Run.seq ?_
              refine Run.block ?_
              refine Run.seq ?_
              refine Run.seq ?_
              refine Run.know (fun w s => (s.conv (frl (frl (frl (frl (frl rfl)))))).ownRd0) (fun rdt1 => ?_)
              refine Run.know (fun w s => (s.conv (frl rfl)).ownRd0) (fun rdt2 => ?_)
              (apply Run.drawD [] (by rfl) (sep_emp _).symm; case hchk => kernel_rfl)
              refine Sd.quiet 0 _ _ rfl rfl rfl rfl rfl (QOp.ok (fun X => OpOk.move rfl)) ?_
              refine Sd.quiet 1 _ _ rfl rfl rfl rfl rfl (QOp.ok (fun X => OpOk.move rfl)) ?_
              refine Sd.quiet 2 _ _ rfl rfl rfl rfl rfl (QOp.ok (fun X => OpOk.idx1N rfl ti37 rfl (Rd.right rdz5).left.left rfl (by omega))) ?_
              refine Sd.quiet 3 _ _ rfl rfl rfl rfl rfl (QOp.ok (fun X => OpOk.load rfl rfl rfl (Rd.cell (Rd.right rdz5).left.left (by first | assumption | rfl)))) ?_
              refine Sd.quiet 4 _ _ rfl rfl rfl rfl rfl (QOp.ok (fun X => OpOk.strOf rfl rfl rfl rfl (Rd.right rdt2).left.left.left)) ?_
              refine Sd.quiet 5 _ _ rfl rfl rfl rfl rfl (QOp.ok (fun X => OpOk.fieldAddr fld28_3 rfl)) ?_
              refine Sd.quiet 6 _ _ rfl rfl rfl rfl rfl (QOp.ok (fun X => OpOk.load rfl rfl rfl (Blk.out Blk.pts.left.left.left.left.left.left _ _ (by first | rfl | assumption)))) ?_
              refine Sd.quiet 7 _ _ rfl rfl rfl rfl rfl (QOp.ok (fun X => OpOk.move rfl)) ?_
              refine Sd.quiet 8 _ _ rfl rfl rfl rfl rfl (QOp.ok (fun X => OpOk.idx1N rfl ti37 rfl hord.left.left.left.left.left.left.left.left.left.left.left.left.left.left rfl (by omega))) ?_
              refine Sd.quiet 9 _ _ rfl rfl rfl rfl rfl (QOp.ok (fun X => OpOk.load rfl rfl rfl (Rd.cell hord.left.left.left.left.left.left.left.left.left.left.left.left.left.left (by first | assumption | rfl)))) ?_
              refine Sd.quiet 10 _ _ rfl rfl rfl rfl rfl (QOp.ok (fun X => OpOk.strOf rfl rfl rfl rfl rdi.left.left.left.left.left.left.left.left.left.left.left.left.left.left)) ?_
              refine Sd.quiet 11 _ _ rfl rfl rfl rfl rfl (QOp.ok (fun X => OpOk.as (c := false) (OpOk.neqSS rfl rfl) (by rw [decide_eq_true (by omega)]; rfl))) ?_
              (apply Sd.tail; case hall => kernel_rfl)
              refine RunL.mem (fl2 (sep_emp _) (sep_emp _)) ?_
              refine RunL.nil ?_
              refine Run.condF rfl ?_
              refine Run.skip ?_
              refine Run.seq ?_
              refine Run.region ?_
              refine RunL.ok (OpOk.assign rfl) rfl ?_
              refine RunL.nil ?_
              refine Run.block ?_
              refine Run.jump ((Run.loopJ (X := Nat × List UInt8) (fun x => [(16, .int .i64 (x.1 : Int)), (15, .int .i64 (k : Int)), (8, vin), (7, S (flatB ol)), (6, .pointer (some ⟨by1, 0, none⟩)), (5, .int .i64 (i : Int)), (4, .pointer (some ⟨bx5, 0, none⟩)), (3, .pointer (some ⟨bx4, 0, none⟩)), (2, .pointer (some ⟨bx1, 0, none⟩)), (0, u)]) (fun x => old w0 * J2 * pts bx1 (.cells #[.bool false] 4 (0, 0)) * pts bx5 (.cells #[lv] 79 (0, 0)) * own 87 5 lv (l).length (Fl encT87 (l)) * pts bx4 (.cells #[mv, av] 34 (0, 0)) * omap mv (l) * own 85 6 av (l).length (Fl encT85 (mintF 0 (l))) * pts by1 (.cells (Value.agg (encT28 (true, ot, (oa, oc, od, oe), os, ol)).toArray).cells 28 (0, 0)) * marks ds * ownsB 5 (ms.drop (k + 1)) * own 5 1 (ms.getD k default).1 (ms.getD k default).2.length (B x.2) * own 37 1 vin ol.length (Fl encV ms)) (fun x => x.1 ≤ (ms.getD k default).2.length ∧ x.2.length = (ms.getD k default).2.length) (fun x => (ms.getD k default).2.length - x.1) (0, (ms.getD k default).2) ⟨Nat.zero_le _, rfl⟩ (fun x hx ih4 => ?_))) ⟨rfl, rfl, rfl, rfl, rfl, rfl, rfl, rfl, rfl, rfl, trivial⟩ ((Grew.refl _))
              obtain ⟨q, zs⟩ := x
              simp only at hx ih4 ⊢
              obtain ⟨hq, hzl⟩ := hx
              rcases Nat.lt_or_ge q (ms.getD k default).2.length with hq1 | hq1
              · refine Run.seq ?_
                refine Run.seq ?_
                refine Run.region ?_
                refine RunL.ok (OpOk.move rfl) rfl ?_
                refine RunL.ok (OpOk.move rfl) rfl ?_
                refine RunL.ok (OpOk.move rfl) rfl ?_
                refine RunL.ok (OpOk.idx1N rfl ti37 rfl (Rd.right rdz5) rfl (by omega)) rfl ?_
                refine RunL.ok (OpOk.load rfl rfl rfl (Rd.cell (Rd.right rdz5) (by first | assumption | rfl))) rfl ?_
                refine RunL.know (fun w s => (s.conv (frl rfl)).ownRd0) (fun rdr1 => ?_)
                refine RunL.ok (OpOk.lenR rfl rfl (Rd.right rdr1).left rfl) rfl ?_
                refine RunL.ok (OpOk.asT (OpOk.lss rfl rfl) (by omega)) rfl ?_
                refine RunL.nil ?_
                refine Run.condT rfl ?_
                refine Run.skip ?_
                refine Run.seq ?_
                refine Run.block ?_
                (apply Run.drawD [14] (by rfl) (sep_emp _).symm; case hchk => kernel_rfl)
                refine Sd.quiet 0 _ _ rfl rfl rfl rfl rfl (QOp.ok (fun X => OpOk.move rfl)) ?_
                refine Sd.quiet 1 _ _ rfl rfl rfl rfl rfl (QOp.ok (fun X => OpOk.move rfl)) ?_
                refine Sd.quiet 2 _ _ rfl rfl rfl rfl rfl (QOp.ok (fun X => OpOk.idx1N rfl ti37 rfl (Rd.right rdz5).left.left rfl (by omega))) ?_
                refine Sd.quiet 3 _ _ rfl rfl rfl rfl rfl (QOp.ok (fun X => OpOk.load rfl rfl rfl (Rd.cell (Rd.right rdz5).left.left (by first | assumption | rfl)))) ?_
                refine Sd.quiet 4 _ _ rfl rfl rfl rfl rfl (QOp.ok (fun X => OpOk.move rfl)) ?_
                refine Sd.quiet 5 _ _ rfl rfl rfl rfl rfl (QOp.ok (fun X => OpOk.move rfl)) ?_
                refine Sd.quiet 6 _ _ rfl rfl rfl rfl rfl (QOp.ok (fun X => OpOk.move rfl)) ?_
                refine Sd.quiet 7 _ _ rfl rfl rfl rfl rfl (QOp.ok (fun X => OpOk.idx1N rfl ti37 rfl (Rd.right rdz5).left.left rfl (by omega))) ?_
                refine Sd.quiet 8 _ _ rfl rfl rfl rfl rfl (QOp.ok (fun X => OpOk.load rfl rfl rfl (Rd.cell (Rd.right rdz5).left.left (by first | assumption | rfl)))) ?_
                refine Sd.quiet 9 _ _ rfl rfl rfl rfl rfl (QOp.ok (fun X => OpOk.move rfl)) ?_
                refine Sd.quiet 10 _ _ rfl rfl rfl rfl rfl (QOp.ok (fun X => OpOk.idx1N rfl ti5 rfl (Rd.right rdr1).left.left.left rfl (by omega))) ?_
                refine Sd.quiet 11 _ _ rfl rfl rfl rfl rfl (QOp.ok (fun X => OpOk.load rfl rfl rfl (Rd.getB (Rd.right rdr1).left.left.left (by omega)))) ?_
                refine Sd.quiet 12 _ _ rfl rfl rfl rfl rfl (QOp.ok (fun X => OpOk.xor rfl rfl (x255 _))) ?_
                refine Sd.quiet 13 _ _ rfl rfl rfl rfl rfl (QOp.ok (fun X => OpOk.idx1N rfl ti5 rfl (Rd.right rdr1).left.left.left rfl (by omega))) ?_
                (apply Sd.tail; case hall => kernel_rfl)
                refine RunL.mem (fl2 (sep_emp _) (sep_emp _)) ?_
                refine RunL.storeB _ ti5 rfl rfl rfl (frl rfl) (by omega) ?_
                refine RunL.nil ?_
                refine Run.inBlock ?_
                refine Run.region ?_
                refine RunL.ok (OpOk.move rfl) rfl ?_
                refine RunL.ok (OpOk.addN _ 1 rfl rfl rfl rfl (by omega)) rfl ?_
                refine RunL.ok (OpOk.assign rfl) rfl ?_
                refine RunL.nil ?_
                refine Run.jump ((ih4 (q + 1, _) ⟨by dsimp only; omega, by simp [hzl]⟩ (by dsimp only; omega))) ⟨rfl, rfl, rfl, rfl, rfl, rfl, rfl, rfl, rfl, rfl, trivial⟩ (Grew.of (frc (frl rfl) rfl) (Grew.refl _))
              · obtain rfl : q = (ms.getD k default).2.length := by omega
                clear ih4
                refine Run.seq ?_
                refine Run.seq ?_
                refine Run.region ?_
                refine RunL.ok (OpOk.move rfl) rfl ?_
                refine RunL.ok (OpOk.move rfl) rfl ?_
                refine RunL.ok (OpOk.move rfl) rfl ?_
                refine RunL.ok (OpOk.idx1N rfl ti37 rfl (Rd.right rdz5) rfl (by omega)) rfl ?_
                refine RunL.ok (OpOk.load rfl rfl rfl (Rd.cell (Rd.right rdz5) (by first | assumption | rfl))) rfl ?_
                refine RunL.know (fun w s => (s.conv (frl rfl)).ownRd0) (fun rdr1 => ?_)
                refine RunL.ok (OpOk.lenR rfl rfl (Rd.right rdr1).left rfl) rfl ?_
                refine RunL.ok (OpOk.asF (OpOk.lss rfl rfl) (by omega)) rfl ?_
                refine RunL.nil ?_
                refine Run.condF rfl ?_
                refine Run.exit rfl ?_
                refine Run.inBlock ?_
                refine Run.region ?_
                refine RunL.ok (OpOk.move rfl) rfl ?_
                refine RunL.ok (OpOk.addN _ 1 rfl rfl rfl rfl (by omega)) rfl ?_
                refine RunL.ok (OpOk.assign rfl) rfl ?_
                refine RunL.nil ?_
                refine Run.jump ((ih3 (k + 1, _) (by dsimp only; omega) (by dsimp only; omega))) ⟨rfl, rfl, rfl, rfl, rfl, rfl, rfl, rfl, rfl, trivial⟩ (Grew.of (Eq.trans (frc rfl (frc (frl rfl) (frc (frl rfl) (frc (frl rfl) (frc (frl rfl) (frc (frl rfl) (frc (frl rfl) (frc (frl rfl) (frc (frl rfl) (frc (frl rfl) rfl)))))))))) (congrArg (· * _) (congrArg (· * _) (congrArg (· * _) (congrArg (· * _) (congrArg (· * _) (congrArg (· * _) (congrArg (· * _) (congrArg (· * _) (congrArg (· * _) (congrArg (· * _) (asg as1)))))))))))) (Grew.refl _))
            · obtain rfl : k = ol.length := by omega
              clear ih3
              refine Run.seq ?_
              refine Run.seq ?_
              refine Run.region ?_
              refine RunL.ok (OpOk.move rfl) rfl ?_
              refine RunL.ok (OpOk.move rfl) rfl ?_
              refine RunL.ok (OpOk.lenR rfl rfl (Rd.right rdz5) rfl) rfl ?_
              refine RunL.ok (OpOk.asF (OpOk.lss rfl rfl) (by omega)) rfl ?_
              refine RunL.nil ?_
              refine Run.condF rfl ?_
              refine Run.exit rfl ?_
              refine Run.seq ?_
              refine Run.know (fun w s => (s.conv (frl (frl (frl (frl rfl))))).ownRd0) (fun rdt1 => ?_)
              (apply Run.drawD [] (by rfl) (Eq.trans (frc (frl (frl (frl (frl rfl)))) (frc (frl (frl (frl (frl rfl)))) (frc (frl (frl (frl (frl rfl)))) rfl))) (asg (asg rfl))); case hchk => kernel_rfl)
              refine Sd.quiet 0 _ _ rfl rfl rfl rfl rfl (QOp.ok (fun X => OpOk.move rfl)) ?_
              refine Sd.quiet 2 _ _ rfl rfl rfl rfl rfl (QOp.ok (fun X => OpOk.load rfl rfl rfl (Blk.out Blk.pts.left.left.left.left.left.left.left _ _ (by first | rfl | assumption)))) ?_
              refine Sd.quiet 3 _ _ rfl rfl rfl rfl rfl (QOp.ok (fun X => OpOk.lenR rfl rfl (Rd.right rdz2).left.left.left.left.left.left rfl)) ?_
              (refine Sd.exec 1 rfl rfl rfl rfl rfl ?hrest (by rfl) (fun Xt2 Kt2 hKt2 => ?_); case hrest => kernel_rfl)
              refine RunL.mem (fl2 (sep_emp _) (flS (flS rfl))) ?_
              refine RunL.know (fun w s => (s.conv (frl (frl (frl (frl (frl rfl)))))).ownsB0) (fun alt3 => ?_)
              refine RunL.call cal39 rfl (s39) rfl (fun vt4 At4 ht4 => ?_)
              obtain ⟨rfl, rfl⟩ := ht4
              refine Sd.ret hKt2 (Eq.trans rfl (gp2 (sep_emp _).symm (asg (asg rfl)))) ⟨_, (emp_sep _).symm⟩ ?_
              refine Sd.quiet 4 _ _ rfl rfl rfl rfl rfl (QOp.ok (fun X => OpOk.as (c := false) (OpOk.neq rfl rfl) (by rw [decide_eq_true (by omega)]; rfl))) ?_
              (apply Sd.tail; case hall => kernel_rfl)
              refine RunL.mem (fl2 (flS (flS rfl)) (sep_emp _)) ?_
              refine RunL.nil ?_
              refine Run.condF rfl ?_
              refine Run.skip ?_
              refine Run.inBlock ?_
              refine Run.region ?_
              refine RunL.ok (OpOk.move rfl) rfl ?_
              refine RunL.ok (OpOk.addN _ 1 rfl rfl rfl rfl (by omega)) rfl ?_
              refine RunL.ok (OpOk.assign rfl) rfl ?_
              refine RunL.nil ?_
              refine Run.jump ((ih (i + 1, ds, _, mv, av, lv, l) ⟨by dsimp only; omega, by dsimp only; omega, (by dsimp only; omega), hnd⟩ (by dsimp only; omega))) ⟨rfl, rfl, rfl, rfl, rfl, trivial⟩ (Grew.of (Eq.trans (frc (frl (frl (frl (frl (frl rfl))))) (frc rfl (frc rfl (frc rfl (frc (frl (frl (frl rfl))) (frc (frl (frl (frl rfl))) (frc (frl (frl (frl rfl))) rfl))))))) (congrArg (· * _) (congrArg (· * _) (congrArg (· * _) (congrArg (· * _) (congrArg (· * _) (congrArg (· * _) (congrArg (· * _) (asg (asg (asg as1))))))))))) (Grew.refl _))
          · have hh2 := hh
            rw [hflat, hha] at hh2
            refine Run.seq ?_
            refine Run.seq ?_
            refine Run.region ?_
            refine RunL.ok (OpOk.move rfl) rfl ?_
            refine RunL.ok (OpOk.fieldAddr fld28_3 rfl) rfl ?_
            refine RunL.ok (OpOk.load rfl rfl rfl (Blk.out Blk.pts.left.left.left _ _ (by first | rfl | assumption))) rfl ?_
            refine RunL.ok (OpOk.lenR rfl rfl hord.left.left.left.left.left.left.left.left.left.left.left rfl) rfl ?_
            refine RunL.ok (OpOk.asF (OpOk.lss rfl rfl) (by omega)) rfl ?_
            refine RunL.nil ?_
            refine Run.condF rfl ?_
            refine Run.exit rfl ?_
            refine Run.seq ?_
            refine Run.region ?_
            refine RunL.ok (OpOk.load rfl rfl rfl (Blk.out Blk.pts.left.left.left.left.left.left.left.left _ _ (by first | rfl | assumption))) rfl ?_
            refine RunL.ok (OpOk.fieldAddr fld28_2 rfl) rfl ?_
            refine RunL.ok (OpOk.loadSub rfl rfl ti25 rfl Blk.pts.left.left.left rfl rfl) rfl ?_
            refine RunL.ok (OpOk.move rfl) rfl ?_
            refine RunL.know (fun w s => (s.conv (frl rfl)).ownsB0) (fun alz1 => ?_)
            refine RunL.know (fun w s => (s.conv (frl (frl (frl (frl (frl (frl (frl rfl)))))))).ownRd0) (fun rdz2 => ?_)
            refine RunL.call cal37 rfl (s37 (Rd.right rdz2).left.left.left.left.left.left.left (by omega)) rfl (fun vz3 Az3 hz3 => ?_)
            obtain ⟨z4, ⟨rfl, rfl⟩⟩ := hz3
            refine RunL.ok (OpOk.assign rfl) rfl ?_
            refine RunL.nil ?_
            refine Run.seq ?_
            refine Run.seq ?_
            refine Run.region ?_
            refine RunL.ok (OpOk.fieldAddr fld28_0 rfl) rfl ?_
            refine RunL.ok (OpOk.load rfl rfl rfl (Blk.out Blk.pts.left.left.left.left _ _ (by first | rfl | assumption))) rfl ?_
            refine RunL.nil ?_
            refine Run.condT rfl ?_
            refine Run.seq ?_
            refine Run.region ?_
            refine RunL.ok (OpOk.move rfl) rfl ?_
            refine RunL.ok (OpOk.fieldAddr fld28_1 rfl) rfl ?_
            refine RunL.ok (OpOk.load rfl rfl rfl (Blk.out Blk.pts.left.left.left.left _ _ (by first | rfl | assumption))) rfl ?_
            refine RunL.ok (OpOk.fieldAddr fld28_2 rfl) rfl ?_
            refine RunL.ok (OpOk.loadSub rfl rfl ti25 rfl Blk.pts.left.left.left.left rfl rfl) rfl ?_
            refine RunL.ok (OpOk.move rfl) rfl ?_
            refine RunL.know (fun w s => (s.conv (frl rfl)).ownRd0) (fun rdz5 => ?_)
            refine RunL.mem (frc (frl (frl (frl (frl (frl rfl))))) (frc (frl (frl (frl (frl (frl rfl))))) (frc (frl (frl (frl (frl (frl rfl))))) rfl))) ?_
            refine RunL.call cal15 rfl (s15 (Rd.right rdz5).left (Alls.right alz1).left.left (by assumption) (by omega)) rfl (fun vz9 Az9 hz9 => ?_)
            obtain ⟨z10, ⟨rfl, rfl⟩⟩ := hz9
            refine RunL.ok (OpOk.move rfl) rfl ?_
            refine RunL.ok (OpOk.gtr rfl rfl) rfl ?_
            refine RunL.ok (OpOk.move rfl) rfl ?_
            refine RunL.splitD (t := 71) rfl (fun z11 => ?_) (fun z11 => ?_)
            · refine RunL.on rfl rfl ?_
              refine RunL.ok (OpOk.fieldAddr fld28_1 rfl) rfl ?_
              refine RunL.on rfl rfl ?_
              refine RunL.ok (OpOk.load rfl rfl rfl (Blk.out Blk.pts.left.left.left.left.left.left.left.left _ _ (by first | rfl | assumption))) rfl ?_
              refine RunL.on rfl rfl ?_
              refine RunL.ok (OpOk.move rfl) rfl ?_
              refine RunL.on rfl rfl ?_
              refine RunL.ok (OpOk.asF (OpOk.eql rfl rfl) (by omega)) rfl ?_
              refine RunL.ok (OpOk.pickT rfl rfl) rfl ?_
              refine RunL.splitDF (t := 68) rfl (by first | omega | with_reducible rfl | assumption) ?_
              refine RunL.ok (OpOk.neqB rfl rfl rfl) rfl ?_
              refine RunL.nil ?_
              refine Run.condF rfl ?_
              refine Run.skip ?_
              refine Run.seq ?_
              refine Run.seq ?_
              refine Run.region ?_
              refine RunL.ok (OpOk.assign rfl) rfl ?_
              refine RunL.nil ?_
              refine Run.block ?_
              refine Run.jump ((Run.loopJ (X := Nat × Asn) (fun x => [(15, .int .i64 (x.1 : Int)), (8, vin), (7, S (flatB ol)), (6, .pointer (some ⟨by1, 0, none⟩)), (5, .int .i64 (i : Int)), (4, .pointer (some ⟨bx5, 0, none⟩)), (3, .pointer (some ⟨bx4, 0, none⟩)), (2, .pointer (some ⟨bx1, 0, none⟩)), (0, u)]) (fun x => old w0 * x.2 * pts bx1 (.cells #[.bool false] 4 (0, 0)) * pts bx5 (.cells #[lv] 79 (0, 0)) * own 87 5 lv (l).length (Fl encT87 (l)) * pts bx4 (.cells #[mv, av] 34 (0, 0)) * omap mv (l) * own 85 6 av (l).length (Fl encT85 (mintF 0 (l))) * pts by1 (.cells (Value.agg (encT28 (true, ot, (oa, oc, od, oe), os, ol)).toArray).cells 28 (0, 0)) * marks ds * ownsB 5 (ms.drop x.1) * own 37 1 vin ol.length (Fl encV ms)) (fun x => x.1 ≤ ol.length) (fun x => ol.length - x.1) (0, _) (Nat.zero_le _) (fun x hx ih3 => ?_))) ⟨rfl, rfl, rfl, rfl, rfl, rfl, rfl, rfl, rfl, trivial⟩ (Grew.of (Eq.trans (frc (frl (frl (frl (frl (frl rfl))))) (frc (frl (frl (frl (frl (frl rfl))))) (frc (frl (frl (frl (frl (frl rfl))))) (frc (frl (frl (frl (frl (frl rfl))))) (frc rfl (frc rfl (frc rfl (frc (frl (frl rfl)) (frc (frl (frl rfl)) (frc (frl (frl rfl)) rfl)))))))))) (congrArg (· * _) (congrArg (· * _) (congrArg (· * _) (congrArg (· * _) (congrArg (· * _) (congrArg (· * _) (congrArg (· * _) (congrArg (· * _) (congrArg (· * _) (congrArg (· * _) (asg (asg as1))))))))))))) (Grew.refl _))
              obtain ⟨k, J2⟩ := x
              simp only at hx ih3 ⊢
              rcases Nat.lt_or_ge k ol.length with hk1 | hk1
              · have rdi : Rd w0 (old w0) (ol.getD k default).1 1 (ol.getD k default).2.length (B (ol.getD k default).2) := hoal.get hk1
                have hv := Fl_V ol k hk1
                have hvm := Fl_V ms k (by omega)
                have hsnd := snd_atO hms k
                have hsl := congrArg List.length hsnd
                have hmk := rdi.max
                rw [ownsB_drop 5 (show k < ms.length by omega)]
                simp only [← sep_assoc]
                refine Run.seq ?_
                refine Run.seq ?_
                refine Run.region ?_
                refine RunL.ok (OpOk.move rfl) rfl ?_
                refine RunL.ok (OpOk.move rfl) rfl ?_
                refine RunL.ok (OpOk.lenR rfl rfl (Rd.right rdz5) rfl) rfl ?_
                refine RunL.ok (OpOk.asT (OpOk.lss rfl rfl) (by omega)) rfl ?_
                refine RunL.nil ?_
                refine Run.condT rfl ?_
                refine Run.skip ?_
                refine Run.seq ?_
                refine Run.block ?_
                refine Run.seq ?_
                refine Run.seq ?_
                refine Run.know (fun w s => (s.conv (frl (frl (frl (frl (frl rfl)))))).ownRd0) (fun rdt1 => ?_)
                refine Run.know (fun w s => (s.conv (frl rfl)).ownRd0) (fun rdt2 => ?_)
                (apply Run.drawD [] (by rfl) (sep_emp _).symm; case hchk => kernel_rfl)
                refine Sd.quiet 0 _ _ rfl rfl rfl rfl rfl (QOp.ok (fun X => OpOk.move rfl)) ?_
                refine Sd.quiet 1 _ _ rfl rfl rfl rfl rfl (QOp.ok (fun X => OpOk.move rfl)) ?_
                refine Sd.quiet 2 _ _ rfl rfl rfl rfl rfl (QOp.ok (fun X => OpOk.idx1N rfl ti37 rfl (Rd.right rdz5).left.left rfl (by omega))) ?_
                refine Sd.quiet 3 _ _ rfl rfl rfl rfl rfl (QOp.ok (fun X => OpOk.load rfl rfl rfl (Rd.cell (Rd.right rdz5).left.left (by first | assumption | rfl)))) ?_
                refine Sd.quiet 4 _ _ rfl rfl rfl rfl rfl (QOp.ok (fun X => OpOk.strOf rfl rfl rfl rfl (Rd.right rdt2).left.left.left)) ?_
                refine Sd.quiet 5 _ _ rfl rfl rfl rfl rfl (QOp.ok (fun X => OpOk.fieldAddr fld28_3 rfl)) ?_
                refine Sd.quiet 6 _ _ rfl rfl rfl rfl rfl (QOp.ok (fun X => OpOk.load rfl rfl rfl (Blk.out Blk.pts.left.left.left.left.left.left _ _ (by first | rfl | assumption)))) ?_
                refine Sd.quiet 7 _ _ rfl rfl rfl rfl rfl (QOp.ok (fun X => OpOk.move rfl)) ?_
                refine Sd.quiet 8 _ _ rfl rfl rfl rfl rfl (QOp.ok (fun X => OpOk.idx1N rfl ti37 rfl hord.left.left.left.left.left.left.left.left.left.left.left.left.left.left rfl (by omega))) ?_
                refine Sd.quiet 9 _ _ rfl rfl rfl rfl rfl (QOp.ok (fun X => OpOk.load rfl rfl rfl (Rd.cell hord.left.left.left.left.left.left.left.left.left.left.left.left.left.left (by first | assumption | rfl)))) ?_
                refine Sd.quiet 10 _ _ rfl rfl rfl rfl rfl (QOp.ok (fun X => OpOk.strOf rfl rfl rfl rfl rdi.left.left.left.left.left.left.left.left.left.left.left.left.left.left)) ?_
                refine Sd.quiet 11 _ _ rfl rfl rfl rfl rfl (QOp.ok (fun X => OpOk.as (c := false) (OpOk.neqSS rfl rfl) (by rw [decide_eq_true (by omega)]; rfl))) ?_
                (apply Sd.tail; case hall => kernel_rfl)
                refine RunL.mem (fl2 (sep_emp _) (sep_emp _)) ?_
                refine RunL.nil ?_
                refine Run.condF rfl ?_
                refine Run.skip ?_
                refine Run.seq ?_
                refine Run.region ?_
                refine RunL.ok (OpOk.assign rfl) rfl ?_
                refine RunL.nil ?_
                refine Run.block ?_
                refine Run.jump ((Run.loopJ (X := Nat × List UInt8) (fun x => [(16, .int .i64 (x.1 : Int)), (15, .int .i64 (k : Int)), (8, vin), (7, S (flatB ol)), (6, .pointer (some ⟨by1, 0, none⟩)), (5, .int .i64 (i : Int)), (4, .pointer (some ⟨bx5, 0, none⟩)), (3, .pointer (some ⟨bx4, 0, none⟩)), (2, .pointer (some ⟨bx1, 0, none⟩)), (0, u)]) (fun x => old w0 * J2 * pts bx1 (.cells #[.bool false] 4 (0, 0)) * pts bx5 (.cells #[lv] 79 (0, 0)) * own 87 5 lv (l).length (Fl encT87 (l)) * pts bx4 (.cells #[mv, av] 34 (0, 0)) * omap mv (l) * own 85 6 av (l).length (Fl encT85 (mintF 0 (l))) * pts by1 (.cells (Value.agg (encT28 (true, ot, (oa, oc, od, oe), os, ol)).toArray).cells 28 (0, 0)) * marks ds * ownsB 5 (ms.drop (k + 1)) * own 5 1 (ms.getD k default).1 (ms.getD k default).2.length (B x.2) * own 37 1 vin ol.length (Fl encV ms)) (fun x => x.1 ≤ (ms.getD k default).2.length ∧ x.2.length = (ms.getD k default).2.length) (fun x => (ms.getD k default).2.length - x.1) (0, (ms.getD k default).2) ⟨Nat.zero_le _, rfl⟩ (fun x hx ih4 => ?_))) ⟨rfl, rfl, rfl, rfl, rfl, rfl, rfl, rfl, rfl, rfl, trivial⟩ ((Grew.refl _))
                obtain ⟨q, zs⟩ := x
                simp only at hx ih4 ⊢
                obtain ⟨hq, hzl⟩ := hx
                rcases Nat.lt_or_ge q (ms.getD k default).2.length with hq1 | hq1
                · refine Run.seq ?_
                  refine Run.seq ?_
                  refine Run.region ?_
                  refine RunL.ok (OpOk.move rfl) rfl ?_
                  refine RunL.ok (OpOk.move rfl) rfl ?_
                  refine RunL.ok (OpOk.move rfl) rfl ?_
                  refine RunL.ok (OpOk.idx1N rfl ti37 rfl (Rd.right rdz5) rfl (by omega)) rfl ?_
                  refine RunL.ok (OpOk.load rfl rfl rfl (Rd.cell (Rd.right rdz5) (by first | assumption | rfl))) rfl ?_
                  refine RunL.know (fun w s => (s.conv (frl rfl)).ownRd0) (fun rdr1 => ?_)
                  refine RunL.ok (OpOk.lenR rfl rfl (Rd.right rdr1).left rfl) rfl ?_
                  refine RunL.ok (OpOk.asT (OpOk.lss rfl rfl) (by omega)) rfl ?_
                  refine RunL.nil ?_
                  refine Run.condT rfl ?_
                  refine Run.skip ?_
                  refine Run.seq ?_
                  refine Run.block ?_
                  (apply Run.drawD [14] (by rfl) (sep_emp _).symm; case hchk => kernel_rfl)
                  refine Sd.quiet 0 _ _ rfl rfl rfl rfl rfl (QOp.ok (fun X => OpOk.move rfl)) ?_
                  refine Sd.quiet 1 _ _ rfl rfl rfl rfl rfl (QOp.ok (fun X => OpOk.move rfl)) ?_
                  refine Sd.quiet 2 _ _ rfl rfl rfl rfl rfl (QOp.ok (fun X => OpOk.idx1N rfl ti37 rfl (Rd.right rdz5).left.left rfl (by omega))) ?_
                  refine Sd.quiet 3 _ _ rfl rfl rfl rfl rfl (QOp.ok (fun X => OpOk.load rfl rfl rfl (Rd.cell (Rd.right rdz5).left.left (by first | assumption | rfl)))) ?_
                  refine Sd.quiet 4 _ _ rfl rfl rfl rfl rfl (QOp.ok (fun X => OpOk.move rfl)) ?_
                  refine Sd.quiet 5 _ _ rfl rfl rfl rfl rfl (QOp.ok (fun X => OpOk.move rfl)) ?_
                  refine Sd.quiet 6 _ _ rfl rfl rfl rfl rfl (QOp.ok (fun X => OpOk.move rfl)) ?_
                  refine Sd.quiet 7 _ _ rfl rfl rfl rfl rfl (QOp.ok (fun X => OpOk.idx1N rfl ti37 rfl (Rd.right rdz5).left.left rfl (by omega))) ?_
                  refine Sd.quiet 8 _ _ rfl rfl rfl rfl rfl (QOp.ok (fun X => OpOk.load rfl rfl rfl (Rd.cell (Rd.right rdz5).left.left (by first | assumption | rfl)))) ?_
                  refine Sd.quiet 9 _ _ rfl rfl rfl rfl rfl (QOp.ok (fun X => OpOk.move rfl)) ?_
                  refine Sd.quiet 10 _ _ rfl rfl rfl rfl rfl (QOp.ok (fun X => OpOk.idx1N rfl ti5 rfl (Rd.right rdr1).left.left.left rfl (by omega))) ?_
                  refine Sd.quiet 11 _ _ rfl rfl rfl rfl rfl (QOp.ok (fun X => OpOk.load rfl rfl rfl (Rd.getB (Rd.right rdr1).left.left.left (by omega)))) ?_
                  refine Sd.quiet 12 _ _ rfl rfl rfl rfl rfl (QOp.ok (fun X => OpOk.xor rfl rfl (x255 _))) ?_
                  refine Sd.quiet 13 _ _ rfl rfl rfl rfl rfl (QOp.ok (fun X => OpOk.idx1N rfl ti5 rfl (Rd.right rdr1).left.left.left rfl (by omega))) ?_
                  (apply Sd.tail; case hall => kernel_rfl)
                  refine RunL.mem (fl2 (sep_emp _) (sep_emp _)) ?_
                  refine RunL.storeB _ ti5 rfl rfl rfl (frl rfl) (by omega) ?_
                  refine RunL.nil ?_
                  refine Run.inBlock ?_
                  refine Run.region ?_
                  refine RunL.ok (OpOk.move rfl) rfl ?_
                  refine RunL.ok (OpOk.addN _ 1 rfl rfl rfl rfl (by omega)) rfl ?_
                  refine RunL.ok (OpOk.assign rfl) rfl ?_
                  refine RunL.nil ?_
                  refine Run.jump ((ih4 (q + 1, _) ⟨by dsimp only; omega, by simp [hzl]⟩ (by dsimp only; omega))) ⟨rfl, rfl, rfl, rfl, rfl, rfl, rfl, rfl, rfl, rfl, trivial⟩ (Grew.of (frc (frl rfl) rfl) (Grew.refl _))
                · obtain rfl : q = (ms.getD k default).2.length := by omega
                  clear ih4
                  refine Run.seq ?_
                  refine Run.seq ?_
                  refine Run.region ?_
                  refine RunL.ok (OpOk.move rfl) rfl ?_
                  refine RunL.ok (OpOk.move rfl) rfl ?_
                  refine RunL.ok (OpOk.move rfl) rfl ?_
                  refine RunL.ok (OpOk.idx1N rfl ti37 rfl (Rd.right rdz5) rfl (by omega)) rfl ?_
                  refine RunL.ok (OpOk.load rfl rfl rfl (Rd.cell (Rd.right rdz5) (by first | assumption | rfl))) rfl ?_
                  refine RunL.know (fun w s => (s.conv (frl rfl)).ownRd0) (fun rdr1 => ?_)
                  refine RunL.ok (OpOk.lenR rfl rfl (Rd.right rdr1).left rfl) rfl ?_
                  refine RunL.ok (OpOk.asF (OpOk.lss rfl rfl) (by omega)) rfl ?_
                  refine RunL.nil ?_
                  refine Run.condF rfl ?_
                  refine Run.exit rfl ?_
                  refine Run.inBlock ?_
                  refine Run.region ?_
                  refine RunL.ok (OpOk.move rfl) rfl ?_
                  refine RunL.ok (OpOk.addN _ 1 rfl rfl rfl rfl (by omega)) rfl ?_
                  refine RunL.ok (OpOk.assign rfl) rfl ?_
                  refine RunL.nil ?_
                  refine Run.jump ((ih3 (k + 1, _) (by dsimp only; omega) (by dsimp only; omega))) ⟨rfl, rfl, rfl, rfl, rfl, rfl, rfl, rfl, rfl, trivial⟩ (Grew.of (Eq.trans (frc rfl (frc (frl rfl) (frc (frl rfl) (frc (frl rfl) (frc (frl rfl) (frc (frl rfl) (frc (frl rfl) (frc (frl rfl) (frc (frl rfl) (frc (frl rfl) rfl)))))))))) (congrArg (· * _) (congrArg (· * _) (congrArg (· * _) (congrArg (· * _) (congrArg (· * _) (congrArg (· * _) (congrArg (· * _) (congrArg (· * _) (congrArg (· * _) (congrArg (· * _) (asg as1)))))))))))) (Grew.refl _))
              · obtain rfl : k = ol.length := by omega
                clear ih3
                refine Run.seq ?_
                refine Run.seq ?_
                refine Run.region ?_
                refine RunL.ok (OpOk.move rfl) rfl ?_
                refine RunL.ok (OpOk.move rfl) rfl ?_
                refine RunL.ok (OpOk.lenR rfl rfl (Rd.right rdz5) rfl) rfl ?_
                refine RunL.ok (OpOk.asF (OpOk.lss rfl rfl) (by omega)) rfl ?_
                refine RunL.nil ?_
                refine Run.condF rfl ?_
                refine Run.exit rfl ?_
                refine Run.seq ?_
                refine Run.know (fun w s => (s.conv (frl (frl (frl (frl rfl))))).ownRd0) (fun rdt1 => ?_)
                (apply Run.drawD [] (by rfl) (Eq.trans (frc (frl (frl (frl (frl rfl)))) (frc (frl (frl (frl (frl rfl)))) (frc (frl (frl (frl (frl rfl)))) rfl))) (asg (asg rfl))); case hchk => kernel_rfl)
                refine Sd.quiet 0 _ _ rfl rfl rfl rfl rfl (QOp.ok (fun X => OpOk.move rfl)) ?_
                refine Sd.quiet 2 _ _ rfl rfl rfl rfl rfl (QOp.ok (fun X => OpOk.load rfl rfl rfl (Blk.out Blk.pts.left.left.left.left.left.left.left _ _ (by first | rfl | assumption)))) ?_
                refine Sd.quiet 3 _ _ rfl rfl rfl rfl rfl (QOp.ok (fun X => OpOk.lenR rfl rfl (Rd.right rdz2).left.left.left.left.left.left rfl)) ?_
                (refine Sd.exec 1 rfl rfl rfl rfl rfl ?hrest (by rfl) (fun Xt2 Kt2 hKt2 => ?_); case hrest => kernel_rfl)
                refine RunL.mem (fl2 (sep_emp _) (flS (flS rfl))) ?_
                refine RunL.know (fun w s => (s.conv (frl (frl (frl (frl (frl rfl)))))).ownsB0) (fun alt3 => ?_)
                refine RunL.call cal39 rfl (s39) rfl (fun vt4 At4 ht4 => ?_)
                obtain ⟨rfl, rfl⟩ := ht4
                refine Sd.ret hKt2 (Eq.trans rfl (gp2 (sep_emp _).symm (asg (asg rfl)))) ⟨_, (emp_sep _).symm⟩ ?_
                refine Sd.quiet 4 _ _ rfl rfl rfl rfl rfl (QOp.ok (fun X => OpOk.as (c := false) (OpOk.neq rfl rfl) (by rw [decide_eq_true (by omega)]; rfl))) ?_
                (apply Sd.tail; case hall => kernel_rfl)
                refine RunL.mem (fl2 (flS (flS rfl)) (sep_emp _)) ?_
                refine RunL.nil ?_
                refine Run.condF rfl ?_
                refine Run.skip ?_
                refine Run.inBlock ?_
                refine Run.region ?_
                refine RunL.ok (OpOk.move rfl) rfl ?_
                refine RunL.ok (OpOk.addN _ 1 rfl rfl rfl rfl (by omega)) rfl ?_
                refine RunL.ok (OpOk.assign rfl) rfl ?_
                refine RunL.nil ?_
                refine Run.jump ((ih (i + 1, ds, _, mv, av, lv, l) ⟨by dsimp only; omega, by dsimp only; omega, (by dsimp only; omega), hnd⟩ (by dsimp only; omega))) ⟨rfl, rfl, rfl, rfl, rfl, trivial⟩ (Grew.of (Eq.trans (frc (frl (frl (frl (frl (frl rfl))))) (frc rfl (frc rfl (frc rfl (frc (frl (frl (frl rfl))) (frc (frl (frl (frl rfl))) (frc (frl (frl (frl rfl))) rfl))))))) (congrArg (· * _) (congrArg (· * _) (congrArg (· * _) (congrArg (· * _) (congrArg (· * _) (congrArg (· * _) (congrArg (· * _) (asg (asg (asg as1))))))))))) (Grew.refl _))
            refine RunL.off rfl rfl rfl rfl ?_
            refine RunL.off rfl rfl rfl rfl ?_
            refine RunL.off rfl rfl rfl rfl ?_
            refine RunL.off rfl rfl rfl rfl ?_
            refine RunL.ok (OpOk.pickF rfl rfl) rfl ?_
            refine RunL.splitDF (t := 68) rfl (by first | omega | with_reducible rfl | assumption) ?_
            refine RunL.ok (OpOk.neqB rfl rfl rfl) rfl ?_
            refine RunL.nil ?_
            refine Run.condF rfl ?_
            refine Run.skip ?_
            refine Run.seq ?_
            refine Run.seq ?_
            refine Run.region ?_
            refine RunL.ok (OpOk.assign rfl) rfl ?_
            refine RunL.nil ?_
            refine Run.block ?_
            refine Run.jump ((Run.loopJ (X := Nat × Asn) (fun x => [(15, .int .i64 (x.1 : Int)), (8, vin), (7, S (flatB ol)), (6, .pointer (some ⟨by1, 0, none⟩)), (5, .int .i64 (i : Int)), (4, .pointer (some ⟨bx5, 0, none⟩)), (3, .pointer (some ⟨bx4, 0, none⟩)), (2, .pointer (some ⟨bx1, 0, none⟩)), (0, u)]) (fun x => old w0 * x.2 * pts bx1 (.cells #[.bool false] 4 (0, 0)) * pts bx5 (.cells #[lv] 79 (0, 0)) * own 87 5 lv (l).length (Fl encT87 (l)) * pts bx4 (.cells #[mv, av] 34 (0, 0)) * omap mv (l) * own 85 6 av (l).length (Fl encT85 (mintF 0 (l))) * pts by1 (.cells (Value.agg (encT28 (true, ot, (oa, oc, od, oe), os, ol)).toArray).cells 28 (0, 0)) * marks ds * ownsB 5 (ms.drop x.1) * own 37 1 vin ol.length (Fl encV ms)) (fun x => x.1 ≤ ol.length) (fun x => ol.length - x.1) (0, _) (Nat.zero_le _) (fun x hx ih3 => ?_))) ⟨rfl, rfl, rfl, rfl, rfl, rfl, rfl, rfl, rfl, trivial⟩ (Grew.of (Eq.trans (frc (frl (frl (frl (frl (frl rfl))))) (frc (frl (frl (frl (frl (frl rfl))))) (frc (frl (frl (frl (frl (frl rfl))))) (frc (frl (frl (frl (frl (frl rfl))))) (frc rfl (frc rfl (frc rfl (frc (frl (frl rfl)) (frc (frl (frl rfl)) (frc (frl (frl rfl)) rfl)))))))))) (congrArg (· * _) (congrArg (· * _) (congrArg (· * _) (congrArg (· * _) (congrArg (· * _) (congrArg (· * _) (congrArg (· * _) (congrArg (· * _) (congrArg (· * _) (congrArg (· * _) (asg (asg as1))))))))))))) (Grew.refl _))
            obtain ⟨k, J2⟩ := x
            simp only at hx ih3 ⊢
            rcases Nat.lt_or_ge k ol.length with hk1 | hk1
            · have rdi : Rd w0 (old w0) (ol.getD k default).1 1 (ol.getD k default).2.length (B (ol.getD k default).2) := hoal.get hk1
              have hv := Fl_V ol k hk1
              have hvm := Fl_V ms k (by omega)
              have hsnd := snd_atO hms k
              have hsl := congrArg List.length hsnd
              have hmk := rdi.max
              rw [ownsB_drop 5 (show k < ms.length by omega)]
              simp only [← sep_assoc]
              refine Run.seq ?_
              refine Run.seq ?_
              refine Run.region ?_
              refine RunL.ok (OpOk.move rfl) rfl ?_
              refine RunL.ok (OpOk.move rfl) rfl ?_
              refine RunL.ok (OpOk.lenR rfl rfl (Rd.right rdz5) rfl) rfl ?_
              refine RunL.ok (OpOk.asT (OpOk.lss rfl rfl) (by omega)) rfl ?_
              refine RunL.nil ?_
              refine Run.condT rfl ?_
              refine Run.skip ?_
              refine Run.seq ?_
              refine Run.block ?_
              refine Run.seq ?_
              refine Run.seq ?_
              refine Run.know (fun w s => (s.conv (frl (frl (frl (frl (frl rfl)))))).ownRd0) (fun rdt1 => ?_)
              refine Run.know (fun w s => (s.conv (frl rfl)).ownRd0) (fun rdt2 => ?_)
              (apply Run.drawD [] (by rfl) (sep_emp _).symm; case hchk => kernel_rfl)
              refine Sd.quiet 0 _ _ rfl rfl rfl rfl rfl (QOp.ok (fun X => OpOk.move rfl)) ?_
              refine Sd.quiet 1 _ _ rfl rfl rfl rfl rfl (QOp.ok (fun X => OpOk.move rfl)) ?_
              refine Sd.quiet 2 _ _ rfl rfl rfl rfl rfl (QOp.ok (fun X => OpOk.idx1N rfl ti37 rfl (Rd.right rdz5).left.left rfl (by omega))) ?_
              refine Sd.quiet 3 _ _ rfl rfl rfl rfl rfl (QOp.ok (fun X => OpOk.load rfl rfl rfl (Rd.cell (Rd.right rdz5).left.left (by first | assumption | rfl)))) ?_
              refine Sd.quiet 4 _ _ rfl rfl rfl rfl rfl (QOp.ok (fun X => OpOk.strOf rfl rfl rfl rfl (Rd.right rdt2).left.left.left)) ?_
              refine Sd.quiet 5 _ _ rfl rfl rfl rfl rfl (QOp.ok (fun X => OpOk.fieldAddr fld28_3 rfl)) ?_
              refine Sd.quiet 6 _ _ rfl rfl rfl rfl rfl (QOp.ok (fun X => OpOk.load rfl rfl rfl (Blk.out Blk.pts.left.left.left.left.left.left _ _ (by first | rfl | assumption)))) ?_
              refine Sd.quiet 7 _ _ rfl rfl rfl rfl rfl (QOp.ok (fun X => OpOk.move rfl)) ?_
              refine Sd.quiet 8 _ _ rfl rfl rfl rfl rfl (QOp.ok (fun X => OpOk.idx1N rfl ti37 rfl hord.left.left.left.left.left.left.left.left.left.left.left.left.left.left rfl (by omega))) ?_
              refine Sd.quiet 9 _ _ rfl rfl rfl rfl rfl (QOp.ok (fun X => OpOk.load rfl rfl rfl (Rd.cell hord.left.left.left.left.left.left.left.left.left.left.left.left.left.left (by first | assumption | rfl)))) ?_
              refine Sd.quiet 10 _ _ rfl rfl rfl rfl rfl (QOp.ok (fun X => OpOk.strOf rfl rfl rfl rfl rdi.left.left.left.left.left.left.left.left.left.left.left.left.left.left)) ?_
              refine Sd.quiet 11 _ _ rfl rfl rfl rfl rfl (QOp.ok (fun X => OpOk.as (c := false) (OpOk.neqSS rfl rfl) (by rw [decide_eq_true (by omega)]; rfl))) ?_
              (apply Sd.tail; case hall => kernel_rfl)
              refine RunL.mem (fl2 (sep_emp _) (sep_emp _)) ?_
              refine RunL.nil ?_
              refine Run.condF rfl ?_
              refine Run.skip ?_
              refine Run.seq ?_
              refine Run.region ?_
              refine RunL.ok (OpOk.assign rfl) rfl ?_
              refine RunL.nil ?_
              refine Run.block ?_
              refine Run.jump ((Run.loopJ (X := Nat × List UInt8) (fun x => [(16, .int .i64 (x.1 : Int)), (15, .int .i64 (k : Int)), (8, vin), (7, S (flatB ol)), (6, .pointer (some ⟨by1, 0, none⟩)), (5, .int .i64 (i : Int)), (4, .pointer (some ⟨bx5, 0, none⟩)), (3, .pointer (some ⟨bx4, 0, none⟩)), (2, .pointer (some ⟨bx1, 0, none⟩)), (0, u)]) (fun x => old w0 * J2 * pts bx1 (.cells #[.bool false] 4 (0, 0)) * pts bx5 (.cells #[lv] 79 (0, 0)) * own 87 5 lv (l).length (Fl encT87 (l)) * pts bx4 (.cells #[mv, av] 34 (0, 0)) * omap mv (l) * own 85 6 av (l).length (Fl encT85 (mintF 0 (l))) * pts by1 (.cells (Value.agg (encT28 (true, ot, (oa, oc, od, oe), os, ol)).toArray).cells 28 (0, 0)) * marks ds * ownsB 5 (ms.drop (k + 1)) * own 5 1 (ms.getD k default).1 (ms.getD k default).2.length (B x.2) * own 37 1 vin ol.length (Fl encV ms)) (fun x => x.1 ≤ (ms.getD k default).2.length ∧ x.2.length = (ms.getD k default).2.length) (fun x => (ms.getD k default).2.length - x.1) (0, (ms.getD k default).2) ⟨Nat.zero_le _, rfl⟩ (fun x hx ih4 => ?_))) ⟨rfl, rfl, rfl, rfl, rfl, rfl, rfl, rfl, rfl, rfl, trivial⟩ ((Grew.refl _))
              obtain ⟨q, zs⟩ := x
              simp only at hx ih4 ⊢
              obtain ⟨hq, hzl⟩ := hx
              rcases Nat.lt_or_ge q (ms.getD k default).2.length with hq1 | hq1
              · refine Run.seq ?_
                refine Run.seq ?_
                refine Run.region ?_
                refine RunL.ok (OpOk.move rfl) rfl ?_
                refine RunL.ok (OpOk.move rfl) rfl ?_
                refine RunL.ok (OpOk.move rfl) rfl ?_
                refine RunL.ok (OpOk.idx1N rfl ti37 rfl (Rd.right rdz5) rfl (by omega)) rfl ?_
                refine RunL.ok (OpOk.load rfl rfl rfl (Rd.cell (Rd.right rdz5) (by first | assumption | rfl))) rfl ?_
                refine RunL.know (fun w s => (s.conv (frl rfl)).ownRd0) (fun rdr1 => ?_)
                refine RunL.ok (OpOk.lenR rfl rfl (Rd.right rdr1).left rfl) rfl ?_
                refine RunL.ok (OpOk.asT (OpOk.lss rfl rfl) (by omega)) rfl ?_
                refine RunL.nil ?_
                refine Run.condT rfl ?_
                refine Run.skip ?_
                refine Run.seq ?_
                refine Run.block ?_
                (apply Run.drawD [14] (by rfl) (sep_emp _).symm; case hchk => kernel_rfl)
                refine Sd.quiet 0 _ _ rfl rfl rfl rfl rfl (QOp.ok (fun X => OpOk.move rfl)) ?_
                refine Sd.quiet 1 _ _ rfl rfl rfl rfl rfl (QOp.ok (fun X => OpOk.move rfl)) ?_
                refine Sd.quiet 2 _ _ rfl rfl rfl rfl rfl (QOp.ok (fun X => OpOk.idx1N rfl ti37 rfl (Rd.right rdz5).left.left rfl (by omega))) ?_
                refine Sd.quiet 3 _ _ rfl rfl rfl rfl rfl (QOp.ok (fun X => OpOk.load rfl rfl rfl (Rd.cell (Rd.right rdz5).left.left (by first | assumption | rfl)))) ?_
                refine Sd.quiet 4 _ _ rfl rfl rfl rfl rfl (QOp.ok (fun X => OpOk.move rfl)) ?_
                refine Sd.quiet 5 _ _ rfl rfl rfl rfl rfl (QOp.ok (fun X => OpOk.move rfl)) ?_
                refine Sd.quiet 6 _ _ rfl rfl rfl rfl rfl (QOp.ok (fun X => OpOk.move rfl)) ?_
                refine Sd.quiet 7 _ _ rfl rfl rfl rfl rfl (QOp.ok (fun X => OpOk.idx1N rfl ti37 rfl (Rd.right rdz5).left.left rfl (by omega))) ?_
                refine Sd.quiet 8 _ _ rfl rfl rfl rfl rfl (QOp.ok (fun X => OpOk.load rfl rfl rfl (Rd.cell (Rd.right rdz5).left.left (by first | assumption | rfl)))) ?_
                refine Sd.quiet 9 _ _ rfl rfl rfl rfl rfl (QOp.ok (fun X => OpOk.move rfl)) ?_
                refine Sd.quiet 10 _ _ rfl rfl rfl rfl rfl (QOp.ok (fun X => OpOk.idx1N rfl ti5 rfl (Rd.right rdr1).left.left.left rfl (by omega))) ?_
                refine Sd.quiet 11 _ _ rfl rfl rfl rfl rfl (QOp.ok (fun X => OpOk.load rfl rfl rfl (Rd.getB (Rd.right rdr1).left.left.left (by omega)))) ?_
                refine Sd.quiet 12 _ _ rfl rfl rfl rfl rfl (QOp.ok (fun X => OpOk.xor rfl rfl (x255 _))) ?_
                refine Sd.quiet 13 _ _ rfl rfl rfl rfl rfl (QOp.ok (fun X => OpOk.idx1N rfl ti5 rfl (Rd.right rdr1).left.left.left rfl (by omega))) ?_
                (apply Sd.tail; case hall => kernel_rfl)
                refine RunL.mem (fl2 (sep_emp _) (sep_emp _)) ?_
                refine RunL.storeB _ ti5 rfl rfl rfl (frl rfl) (by omega) ?_
                refine RunL.nil ?_
                refine Run.inBlock ?_
                refine Run.region ?_
                refine RunL.ok (OpOk.move rfl) rfl ?_
                refine RunL.ok (OpOk.addN _ 1 rfl rfl rfl rfl (by omega)) rfl ?_
                refine RunL.ok (OpOk.assign rfl) rfl ?_
                refine RunL.nil ?_
                refine Run.jump ((ih4 (q + 1, _) ⟨by dsimp only; omega, by simp [hzl]⟩ (by dsimp only; omega))) ⟨rfl, rfl, rfl, rfl, rfl, rfl, rfl, rfl, rfl, rfl, trivial⟩ (Grew.of (frc (frl rfl) rfl) (Grew.refl _))
              · obtain rfl : q = (ms.getD k default).2.length := by omega
                clear ih4
                refine Run.seq ?_
                refine Run.seq ?_
                refine Run.region ?_
                refine RunL.ok (OpOk.move rfl) rfl ?_
                refine RunL.ok (OpOk.move rfl) rfl ?_
                refine RunL.ok (OpOk.move rfl) rfl ?_
                refine RunL.ok (OpOk.idx1N rfl ti37 rfl (Rd.right rdz5) rfl (by omega)) rfl ?_
                refine RunL.ok (OpOk.load rfl rfl rfl (Rd.cell (Rd.right rdz5) (by first | assumption | rfl))) rfl ?_
                refine RunL.know (fun w s => (s.conv (frl rfl)).ownRd0) (fun rdr1 => ?_)
                refine RunL.ok (OpOk.lenR rfl rfl (Rd.right rdr1).left rfl) rfl ?_
                refine RunL.ok (OpOk.asF (OpOk.lss rfl rfl) (by omega)) rfl ?_
                refine RunL.nil ?_
                refine Run.condF rfl ?_
                refine Run.exit rfl ?_
                refine Run.inBlock ?_
                refine Run.region ?_
                refine RunL.ok (OpOk.move rfl) rfl ?_
                refine RunL.ok (OpOk.addN _ 1 rfl rfl rfl rfl (by omega)) rfl ?_
                refine RunL.ok (OpOk.assign rfl) rfl ?_
                refine RunL.nil ?_
                refine Run.jump ((ih3 (k + 1, _) (by dsimp only; omega) (by dsimp only; omega))) ⟨rfl, rfl, rfl, rfl, rfl, rfl, rfl, rfl, rfl, trivial⟩ (Grew.of (Eq.trans (frc rfl (frc (frl rfl) (frc (frl rfl) (frc (frl rfl) (frc (frl rfl) (frc (frl rfl) (frc (frl rfl) (frc (frl rfl) (frc (frl rfl) (frc (frl rfl) rfl)))))))))) (congrArg (· * _) (congrArg (· * _) (congrArg (· * _) (congrArg (· * _) (congrArg (· * _) (congrArg (· * _) (congrArg (· * _) (congrArg (· * _) (congrArg (· * _) (congrArg (· * _) (asg as1)))))))))))) (Grew.refl _))
            · obtain rfl : k = ol.length := by omega
              clear ih3
              refine Run.seq ?_
              refine Run.seq ?_
              refine Run.region ?_
              refine RunL.ok (OpOk.move rfl) rfl ?_
              refine RunL.ok (OpOk.move rfl) rfl ?_
              refine RunL.ok (OpOk.lenR rfl rfl (Rd.right rdz5) rfl) rfl ?_
              refine RunL.ok (OpOk.asF (OpOk.lss rfl rfl) (by omega)) rfl ?_
              refine RunL.nil ?_
              refine Run.condF rfl ?_
              refine Run.exit rfl ?_
              refine Run.seq ?_
              refine Run.know (fun w s => (s.conv (frl (frl (frl (frl rfl))))).ownRd0) (fun rdt1 => ?_)
              (apply Run.drawD [] (by rfl) (Eq.trans (frc (frl (frl (frl (frl rfl)))) (frc (frl (frl (frl (frl rfl)))) (frc (frl (frl (frl (frl rfl)))) rfl))) (asg (asg rfl))); case hchk => kernel_rfl)
              refine Sd.quiet 0 _ _ rfl rfl rfl rfl rfl (QOp.ok (fun X => OpOk.move rfl)) ?_
              refine Sd.quiet 2 _ _ rfl rfl rfl rfl rfl (QOp.ok (fun X => OpOk.load rfl rfl rfl (Blk.out Blk.pts.left.left.left.left.left.left.left _ _ (by first | rfl | assumption)))) ?_
              refine Sd.quiet 3 _ _ rfl rfl rfl rfl rfl (QOp.ok (fun X => OpOk.lenR rfl rfl (Rd.right rdz2).left.left.left.left.left.left rfl)) ?_
              (refine Sd.exec 1 rfl rfl rfl rfl rfl ?hrest (by rfl) (fun Xt2 Kt2 hKt2 => ?_); case hrest => kernel_rfl)
              refine RunL.mem (fl2 (sep_emp _) (flS (flS rfl))) ?_
              refine RunL.know (fun w s => (s.conv (frl (frl (frl (frl (frl rfl)))))).ownsB0) (fun alt3 => ?_)
              refine RunL.call cal39 rfl (s39) rfl (fun vt4 At4 ht4 => ?_)
              obtain ⟨rfl, rfl⟩ := ht4
              refine Sd.ret hKt2 (Eq.trans rfl (gp2 (sep_emp _).symm (asg (asg rfl)))) ⟨_, (emp_sep _).symm⟩ ?_
              refine Sd.quiet 4 _ _ rfl rfl rfl rfl rfl (QOp.ok (fun X => OpOk.as (c := false) (OpOk.neq rfl rfl) (by rw [decide_eq_true (by omega)]; rfl))) ?_
              (apply Sd.tail; case hall => kernel_rfl)
              refine RunL.mem (fl2 (flS (flS rfl)) (sep_emp _)) ?_
              refine RunL.nil ?_
              refine Run.condF rfl ?_
              refine Run.skip ?_
              refine Run.inBlock ?_
              refine Run.region ?_
              refine RunL.ok (OpOk.move rfl) rfl ?_
              refine RunL.ok (OpOk.addN _ 1 rfl rfl rfl rfl (by omega)) rfl ?_
              refine RunL.ok (OpOk.assign rfl) rfl ?_
              refine RunL.nil ?_
              refine Run.jump ((ih (i + 1, ds, _, mv, av, lv, l) ⟨by dsimp only; omega, by dsimp only; omega, (by dsimp only; omega), hnd⟩ (by dsimp only; omega))) ⟨rfl, rfl, rfl, rfl, rfl, trivial⟩ (Grew.of (Eq.trans (frc (frl (frl (frl (frl (frl rfl))))) (frc rfl (frc rfl (frc rfl (frc (frl (frl (frl rfl))) (frc (frl (frl (frl rfl))) (frc (frl (frl (frl rfl))) rfl))))))) (congrArg (· * _) (congrArg (· * _) (congrArg (· * _) (congrArg (· * _) (congrArg (· * _) (congrArg (· * _) (congrArg (· * _) (asg (asg (asg as1))))))))))) (Grew.refl _))
        | false =>
          rw [← hflat] at hl2 ht2
          have hml := mintF_length l 0
          refine Run.seq ?_
          refine Run.seq ?_
          refine Run.region ?_
          refine RunL.ok (OpOk.move rfl) rfl ?_
          refine RunL.ok (OpOk.fieldAddr fld28_3 rfl) rfl ?_
          refine RunL.ok (OpOk.load rfl rfl rfl (Blk.out Blk.pts.left.left.left _ _ (by first | rfl | assumption))) rfl ?_
          refine RunL.ok (OpOk.lenR rfl rfl hord.left.left.left.left.left.left.left.left.left.left.left rfl) rfl ?_
          refine RunL.ok (OpOk.asF (OpOk.lss rfl rfl) (by omega)) rfl ?_
          refine RunL.nil ?_
          refine Run.condF rfl ?_
          refine Run.exit rfl ?_
          refine Run.seq ?_
          refine Run.region ?_
          refine RunL.ok (OpOk.load rfl rfl rfl (Blk.out Blk.pts.left.left.left.left.left.left.left.left _ _ (by first | rfl | assumption))) rfl ?_
          refine RunL.ok (OpOk.fieldAddr fld28_2 rfl) rfl ?_
          refine RunL.ok (OpOk.loadSub rfl rfl ti25 rfl Blk.pts.left.left.left rfl rfl) rfl ?_
          refine RunL.ok (OpOk.move rfl) rfl ?_
          refine RunL.know (fun w s => (s.conv (frl rfl)).ownsB0) (fun alz1 => ?_)
          refine RunL.know (fun w s => (s.conv (frl (frl (frl (frl (frl (frl (frl rfl)))))))).ownRd0) (fun rdz2 => ?_)
          refine RunL.call cal37 rfl (s37 (Rd.right rdz2).left.left.left.left.left.left.left (by omega)) rfl (fun vz3 Az3 hz3 => ?_)
          obtain ⟨z4, ⟨rfl, rfl⟩⟩ := hz3
          refine RunL.ok (OpOk.assign rfl) rfl ?_
          refine RunL.nil ?_
          refine Run.seq ?_
          refine Run.seq ?_
          refine Run.region ?_
          refine RunL.ok (OpOk.fieldAddr fld28_0 rfl) rfl ?_
          refine RunL.ok (OpOk.load rfl rfl rfl (Blk.out Blk.pts.left.left.left.left _ _ (by first | rfl | assumption))) rfl ?_
          refine RunL.nil ?_
          refine Run.condF rfl ?_
          refine Run.seq ?_
          refine Run.region ?_
          refine RunL.ok (OpOk.move rfl) rfl ?_
          refine RunL.mem (frc (frl (frl (frl (frl (frl rfl))))) (frc (frl (frl (frl (frl (frl rfl))))) (frc (frl (frl (frl (frl (frl rfl))))) rfl))) ?_
          refine RunL.call cal38 rfl (s38 (by omega)) rfl (fun vz5 Az5 hz5 => ?_)
          obtain ⟨z6, ⟨z7, ⟨rfl, rfl⟩⟩⟩ := hz5
          refine RunL.ok (OpOk.assign rfl) rfl ?_
          refine RunL.nil ?_
          refine Run.seq ?_
          refine Run.region ?_
          refine RunL.ok (OpOk.move rfl) rfl ?_
          refine RunL.ok (OpOk.fieldAddr fld28_2 rfl) rfl ?_
          refine RunL.ok (OpOk.loadSub rfl rfl ti25 rfl Blk.pts.left.left.left.left.left.left.left.left.left rfl rfl) rfl ?_
          refine RunL.ok (OpOk.move rfl) rfl ?_
          refine RunL.know (fun w s => (s.conv (frl (frl (frl (frl (frl (frl rfl))))))).ownRd0) (fun rdz8 => ?_)
          refine RunL.mem (frc (frl (frl rfl)) (frc (frl (frl rfl)) (frc (frl (frl rfl)) rfl))) ?_
          refine RunL.call cal14 rfl (s14 (Rd.right rdz8).left.left.left (Alls.right alz1).left.left.left.left (by assumption) (by assumption) (by assumption) (by omega)) rfl (fun vz11 Az11 hz11 => ?_)
          obtain ⟨z12, ⟨z13, ⟨z14, ⟨rfl, rfl⟩⟩⟩⟩ := hz11
          refine RunL.ok (OpOk.assign rfl) rfl ?_
          refine RunL.nil ?_
          refine Run.seq ?_
          refine Run.region ?_
          refine RunL.alloc ti3 rfl (fun bz15 => ?_)
          refine RunL.store ti3 rfl rfl rfl rfl (by exact Nat.le_of_ble_eq_true rfl) (.inl rfl) ?_
          refine RunL.nil ?_
          refine Run.seq ?_
          refine Run.seq ?_
          refine Run.region ?_
          refine RunL.ok (OpOk.move rfl) rfl ?_
          refine RunL.nil ?_
          refine Run.block ?_
          refine Run.range (Z := Asn × Int) (iterM (v := z7) (xs := mintF 0 l) (b := z6) (by omega)) rfl rfl (fun z => old w0 * z.1 * pts bx1 (.cells #[.bool false] 4 (0, 0)) * pts bx5 (.cells #[lv] 79 (0, 0)) * own 87 5 lv (l).length (Fl encT87 (l)) * pts bx4 (.cells #[z12, z13] 34 (0, 0)) * omap z12 (l2) * own 85 6 z13 (l2).length (Fl encT85 (mintF 0 (l2))) * pts by1 (.cells (Value.agg (encT28 (false, ot, (oa, oc, od, oe), os, ol)).toArray).cells 28 (0, 0)) * ownsB 5 ms * own 37 1 vin ol.length (Fl encV ms) * pts bz15 (.cells #[.int .i64 z.2] 3 (0, 0))) (fun i z => z.2 = (i : Int)) (fun _ _ => False) (J1 * z4 * z14, 0) rfl ?_ (fun RR lo rc j z J3 hj hz hgo _ _ => ?_) (fun z J3 D hz => ?_) (fun c z J3 D hz => hz.elim)
          · simp only [← sep_assoc]
            exact (frc (frl (frl (frl (frl (frl (frl (frl (frl (frl (frl rfl)))))))))) (frc (frl (frl (frl (frl (frl rfl))))) (frc (frl (frl (frl (frl (frl rfl))))) (frc rfl (frc (frl (frl (frl (frl (frl rfl))))) (frc (frl (frl (frl (frl (frl rfl))))) (frc (frl (frl (frl (frl (frl rfl))))) (frc rfl (frc rfl (frc rfl (frc (frl (frl rfl)) (frc (frl (frl rfl)) (frc (frl (frl rfl)) rfl)))))))))))))
          · obtain ⟨J2, k⟩ := z
            simp only at hz hgo ⊢
            subst hz
            have hjl : j < l.length := by omega
            have hmg := mintF_get l 0 j hjl
            obtain ⟨o2, ho2⟩ : ∃ o, l.getD j default = o := ⟨_, rfl⟩
            rw [ho2, show ((0 + j + 1 : Nat) : Int) = (j : Int) + 1 by omega] at hmg
            obtain ⟨⟨ma, mb, mc, md⟩, mdat⟩ := o2
            rw [hmg]
            refine Run.region ?_
            refine RunL.alloc ti85 rfl (fun bv1 => ?_)
            refine RunL.storeAll ti85 rfl rfl rfl (ones rfl) rfl rfl ?_
            refine RunL.nil ?_
            refine Run.mem (frc (frl rfl) rfl) ?_
            refine Run.beginRound ?_
            refine Run.block ?_
            refine Run.seq ?_
            refine Run.seq ?_
            refine Run.know (fun w s => (s.conv (frl (frl (frl (frl (frl (frl (frl rfl)))))))).ownRd0) (fun rdv2 => ?_)
            (apply Run.drawD [] (by rfl) (sep_emp _).symm; case hchk => kernel_rfl)
            refine Sd.quiet 0 _ _ rfl rfl rfl rfl rfl (QOp.ok (fun X => OpOk.load rfl rfl rfl (Blk.out Blk.pts.left.left.left.left.left _ _ (by first | rfl | assumption)))) ?_
            refine Sd.quiet 1 _ _ rfl rfl rfl rfl rfl (QOp.ok (fun X => OpOk.load rfl rfl rfl (Blk.out Blk.pts.left.left.left.left.left.left.left.left.left.left.left.left.left _ _ (by first | rfl | assumption)))) ?_
            refine Sd.quiet 2 _ _ rfl rfl rfl rfl rfl (QOp.ok (fun X => OpOk.lenR rfl rfl (Rd.right rdz2).left.left.left.left.left.left.left.left.left.left.left.left rfl)) ?_
            refine Sd.quiet 3 _ _ rfl rfl rfl rfl rfl (QOp.ok (fun X => OpOk.asF (OpOk.geq rfl rfl) (by omega))) ?_
            refine Sd.quiet 4 _ _ rfl rfl rfl rfl rfl (QOp.ok (fun X => OpOk.move rfl)) ?_
            refine Sd.quiet 5 _ _ rfl rfl rfl rfl rfl (QOp.ok (fun X => OpOk.fieldAddr fld85_0 rfl)) ?_
            refine Sd.quiet 6 _ _ rfl rfl rfl rfl rfl (QOp.ok (fun X => OpOk.load rfl rfl rfl (Blk.out Blk.pts.left.left.left _ _ (by first | rfl | assumption)))) ?_
            refine Sd.quiet 7 _ _ rfl rfl rfl rfl rfl (QOp.ok (fun X => OpOk.load rfl rfl rfl (Blk.out Blk.pts.left.left.left.left.left _ _ (by first | rfl | assumption)))) ?_
            refine Sd.quiet 8 _ _ rfl rfl rfl rfl rfl (QOp.ok (fun X => OpOk.addN _ 1 rfl rfl rfl rfl (by omega))) ?_
            refine Sd.quiet 9 _ _ rfl rfl rfl rfl rfl (QOp.ok (fun X => OpOk.as (c := false) (OpOk.neq rfl rfl) (by rw [decide_eq_true (by omega)]; rfl))) ?_
            refine Sd.quiet 10 _ _ rfl rfl rfl rfl rfl (QOp.ok (fun X => OpOk.pickF rfl rfl)) ?_
            refine Sd.quiet 11 _ _ rfl rfl rfl rfl rfl (QOp.ok (fun X => OpOk.move rfl)) ?_
            refine Sd.quiet 12 _ _ rfl rfl rfl rfl rfl (QOp.ok (fun X => OpOk.fieldAddr fld85_1 rfl)) ?_
            refine Sd.quiet 13 _ _ rfl rfl rfl rfl rfl (QOp.ok (fun X => OpOk.loadSub rfl rfl ti25 rfl Blk.pts.left.left.left rfl rfl)) ?_
            refine Sd.quiet 14 _ _ rfl rfl rfl rfl rfl (QOp.ok (fun X => OpOk.load rfl rfl rfl (Blk.out Blk.pts.left.left.left.left.left.left.left.left.left.left.left.left.left _ _ (by first | rfl | assumption)))) ?_
            refine Sd.quiet 15 _ _ rfl rfl rfl rfl rfl (QOp.ok (fun X => OpOk.load rfl rfl rfl (Blk.out Blk.pts.left.left.left.left.left _ _ (by first | rfl | assumption)))) ?_
            refine Sd.quiet 16 _ _ rfl rfl rfl rfl rfl (QOp.ok (fun X => OpOk.idxN rfl ti87 rfl (Rd.right rdz2).left.left.left.left.left.left.left.left.left.left.left.left rfl (by omega))) ?_
            refine Sd.quiet 17 _ _ rfl rfl rfl rfl rfl (QOp.ok (fun X => OpOk.fieldAddrA fld87_0 rfl)) ?_
            refine Sd.quiet 18 _ _ rfl rfl rfl rfl rfl (QOp.ok (fun X => OpOk.loadFlGE ho2 _ rfl rfl ti25 rfl (Rd.right rdz2).left.left.left.left.left.left.left.left.left.left.left.left (fun _ => rfl) (by omega) (by omega) rfl rfl)) ?_
            refine Sd.quiet 19 _ _ rfl rfl rfl rfl rfl (QOp.ok (fun X => OpOk.neqK4 (p := ((↑j + 1, ((ma, mb, mc, md), mdat).fst, ((ma, mb, mc, md), mdat).snd).snd.fst.fst, (↑j + 1, ((ma, mb, mc, md), mdat).fst, ((ma, mb, mc, md), mdat).snd).snd.fst.snd.fst, (↑j + 1, ((ma, mb, mc, md), mdat).fst, ((ma, mb, mc, md), mdat).snd).snd.fst.snd.snd.fst, (↑j + 1, ((ma, mb, mc, md), mdat).fst, ((ma, mb, mc, md), mdat).snd).snd.fst.snd.snd.snd)) (q := (ma, mb, mc, md)) four25 rfl rfl)) ?_
            refine Sd.quiet 20 _ _ rfl rfl rfl rfl rfl (QOp.ok (fun X => OpOk.pickF rfl rfl)) ?_
            refine Sd.quiet 21 _ _ rfl rfl rfl rfl rfl (QOp.ok (fun X => OpOk.move rfl)) ?_
            refine Sd.splitBF (bnF (by first | omega | with_reducible rfl | assumption)) ?_
            refine Sd.quiet 22 _ _ rfl rfl rfl rfl rfl (QOp.ok (fun X => OpOk.fieldAddr fld85_2 rfl)) ?_
            refine Sd.quiet 23 _ _ rfl rfl rfl rfl rfl (QOp.ok (fun X => OpOk.load rfl rfl rfl (Blk.out Blk.pts.left.left.left _ _ (by first | rfl | assumption)))) ?_
            refine Sd.quiet 24 _ _ rfl rfl rfl rfl rfl (QOp.ok (fun X => OpOk.load rfl rfl rfl (Blk.out Blk.pts.left.left.left.left.left.left.left.left.left.left.left.left.left _ _ (by first | rfl | assumption)))) ?_
            refine Sd.quiet 25 _ _ rfl rfl rfl rfl rfl (QOp.ok (fun X => OpOk.load rfl rfl rfl (Blk.out Blk.pts.left.left.left.left.left _ _ (by first | rfl | assumption)))) ?_
            refine Sd.quiet 26 _ _ rfl rfl rfl rfl rfl (QOp.ok (fun X => OpOk.idxN rfl ti87 rfl (Rd.right rdz2).left.left.left.left.left.left.left.left.left.left.left.left rfl (by omega))) ?_
            refine Sd.quiet 27 _ _ rfl rfl rfl rfl rfl (QOp.ok (fun X => OpOk.fieldAddrA fld87_1 rfl)) ?_
            refine Sd.quiet 28 _ _ rfl rfl rfl rfl rfl (QOp.ok (fun X => OpOk.loadFl1E ho2 rfl rfl rfl (Rd.right rdz2).left.left.left.left.left.left.left.left.left.left.left.left (fun _ => rfl) rfl (by omega) rfl)) ?_
            refine Sd.quiet 29 _ _ rfl rfl rfl rfl rfl (QOp.ok (fun X => OpOk.neqSS rfl rfl)) ?_
            refine Sd.quiet 30 _ _ rfl rfl rfl rfl rfl (QOp.ok (fun X => OpOk.pickF rfl rfl)) ?_
            (apply Sd.tail; case hall => kernel_rfl)
            refine RunL.mem (fl2 (sep_emp _) (sep_emp _)) ?_
            refine RunL.nil ?_
            refine Run.condNF rfl (by first | omega | with_reducible rfl | assumption) ?_
            refine Run.skip ?_
            refine Run.region ?_
            refine RunL.ok (OpOk.load rfl rfl rfl (Blk.out Blk.pts.left.left.left _ _ (by first | rfl | assumption))) rfl ?_
            refine RunL.ok (OpOk.addN _ 1 rfl rfl rfl rfl (by omega)) rfl ?_
            refine RunL.store ti3 rfl rfl rfl (frl (frl (frl rfl))) (by exact Nat.le_of_ble_eq_true rfl) (.inl rfl) ?_
            refine RunL.nil ?_
            refine Run.inBlock ?_
            refine Run.jump ((hgo (_, (j : Int) + 1) (by dsimp only; omega) [])) trivial (Grew.of (Eq.trans (frc (frl rfl) (frc (frl (frl rfl)) (frc rfl (frc (frl rfl) (frc (frl rfl) (frc (frl rfl) (frc (frl rfl) (frc (frl rfl) (frc (frl rfl) (frc (frl rfl) (frc (frl rfl) (frc (frl rfl) rfl)))))))))))) (congrArg (· * _) (congrArg (· * _) (congrArg (· * _) (congrArg (· * _) (congrArg (· * _) (congrArg (· * _) (congrArg (· * _) (congrArg (· * _) (congrArg (· * _) (congrArg (· * _) (congrArg (· * _) (congrArg (· * _) (asg as1)))))))))))))) (Grew.refl _))
          · obtain ⟨J2, k⟩ := z
            simp only at hz ⊢
            rw [hml] at hz
            subst hz
            obtain ⟨hf1, hf2, hf3, hf4, hf5, hf6, hf7⟩ := nxt_facts (x := ((oa, oc, od, oe), flatB ms)) hnd
            rw [← hl2] at hf1 hf5
            rcases Decidable.em (atF 0 l ((oa, oc, od, oe), flatB ol) = 0) with hat | hat
            · have e1 : l2 = l ++ [((oa, oc, od, oe), flatB ol)] := by rw [hl2, hflat, nxtL, if_pos hat]
              have e2 : t2 = l.length + 1 := by rw [ht2, hflat, nxtT, if_pos hat]
              rw [e1] at hf1 hf5 ⊢
              rw [e2]
              refine Run.inBlock ?_
              refine Run.seq ?_
              refine Run.seq ?_
              refine Run.region ?_
              refine RunL.ok (OpOk.load rfl rfl rfl (Blk.out Blk.pts.left.left _ _ (by first | rfl | assumption))) rfl ?_
              refine RunL.ok (OpOk.load rfl rfl rfl (Blk.out Blk.pts.left.left.left.left.left.left.left.left.left.left _ _ (by first | rfl | assumption))) rfl ?_
              refine RunL.ok (OpOk.lenR rfl rfl (Rd.right rdz2).left.left.left.left.left.left.left.left.left rfl) rfl ?_
              refine RunL.ok (OpOk.as (c := false) (OpOk.neq rfl rfl) (by rw [decide_eq_true (by omega)]; rfl)) rfl ?_
              refine RunL.nil ?_
              refine Run.condF rfl ?_
              refine Run.skip ?_
              refine Run.seq ?_
              refine Run.seq ?_
              refine Run.region ?_
              refine RunL.ok (OpOk.move rfl) rfl ?_
              refine RunL.ok (OpOk.asT (OpOk.eql rfl rfl) (by omega)) rfl ?_
              refine RunL.nil ?_
              refine Run.condT rfl ?_
              refine Run.seq ?_
              refine Run.region ?_
              refine RunL.ok (OpOk.load rfl rfl rfl (Blk.out Blk.pts.left.left.left.left.left.left.left.left.left.left _ _ (by first | rfl | assumption))) rfl ?_
              refine RunL.ok (OpOk.fieldAddr fld28_2 rfl) rfl ?_
              refine RunL.ok (OpOk.loadSub rfl rfl ti25 rfl Blk.pts.left.left.left.left.left rfl rfl) rfl ?_
              refine RunL.ok (OpOk.move rfl) rfl ?_
              refine RunL.ok (OpOk.build (cells := #[.int (IntKind.i64) (oa), .int (IntKind.i64) (oc), .int (IntKind.i64) (od), .int (IntKind.i64) (oe), .string ({ data := (flatB ol).toArray })]) rfl (fun w => run_build w 87 _ _ (by rfl))) rfl ?_
              refine RunL.litFl (enc := encT87) [((oa, (oc, (od, oe))), flatB ol)] rfl ti87 rfl (fun _ => rfl) rfl rfl (by decide) (by decide) rfl (fun vv1 rdv1 => ?_)
              refine RunL.know (fun w s => (s.conv rfl).ownRd0) (fun rdv3 => ?_)
              refine RunL.appendF rfl ti87 rfl rfl rfl (frl (frl (frl (frl (frl (frl (frl (frl (frl (frl rfl)))))))))) (Rd.right rdv3) rfl (by decide) (by omega) (by simp only [maxLen]; omega) rfl (fun vv2 rdv2 => ?_)
              refine RunL.know (fun w s => (s.conv rfl).ownRd0) (fun rdv4 => ?_)
              refine RunL.store ti79 rfl rfl (Rd.one rdv4) (frl (frl (frl (frl (frl (frl (frl (frl (frl (frl (frl rfl))))))))))) (by exact Nat.le_of_ble_eq_true rfl) (.inl rfl) ?_
              refine RunL.nil ?_
              refine Run.region ?_
              refine RunL.ok (OpOk.load rfl rfl rfl (Blk.out Blk.pts _ _ (by first | rfl | assumption))) rfl ?_
              refine RunL.ok (OpOk.lenR rfl rfl (Rd.right rdv4).left rfl) rfl ?_
              refine RunL.ok (OpOk.assign rfl) rfl ?_
              refine RunL.nil ?_
              refine Run.seq ?_
              refine Run.region ?_
              refine RunL.ok (OpOk.move rfl) rfl ?_
              refine RunL.ok (OpOk.move rfl) rfl ?_
              refine RunL.ok (OpOk.as (c := false) (OpOk.neq rfl rfl) (by rw [decide_eq_true (by omega)]; rfl)) rfl ?_
              refine RunL.nil ?_
              refine Run.condF rfl ?_
              refine Run.skip ?_
              refine Run.seq ?_
              refine Run.seq ?_
              refine Run.region ?_
              refine RunL.ok (OpOk.assign rfl) rfl ?_
              refine RunL.nil ?_
              refine Run.block ?_
              rw [show l.length + 1 = (l ++ [((oa, oc, od, oe), flatB ol)]).length by simp]
              refine Run.jump ((Run.loopJ (X := Nat × Asn) (fun x => [(15, .int .i64 (x.1 : Int)), (8, vin), (7, S (flatB ol)), (6, .pointer (some ⟨by1, 0, none⟩)), (5, .int .i64 (i : Int)), (4, .pointer (some ⟨bx5, 0, none⟩)), (3, .pointer (some ⟨bx4, 0, none⟩)), (2, .pointer (some ⟨bx1, 0, none⟩)), (0, u)]) (fun x => old w0 * x.2 * pts bx1 (.cells #[.bool false] 4 (0, 0)) * pts bx5 (.cells #[vv2] 79 (0, 0)) * own 87 5 vv2 ((l ++ [((oa, oc, od, oe), flatB ol)])).length (Fl encT87 ((l ++ [((oa, oc, od, oe), flatB ol)]))) * pts bx4 (.cells #[z12, z13] 34 (0, 0)) * omap z12 ((l ++ [((oa, oc, od, oe), flatB ol)])) * own 85 6 z13 ((l ++ [((oa, oc, od, oe), flatB ol)])).length (Fl encT85 (mintF 0 ((l ++ [((oa, oc, od, oe), flatB ol)])))) * pts by1 (.cells (Value.agg (encT28 (false, ot, (oa, oc, od, oe), os, ol)).toArray).cells 28 (0, 0)) * marks (D :: ds) * ownsB 5 (ms.drop x.1) * own 37 1 vin ol.length (Fl encV ms)) (fun x => x.1 ≤ ol.length) (fun x => ol.length - x.1) (0, _) (Nat.zero_le _) (fun x hx ih3 => ?_))) ⟨rfl, rfl, rfl, rfl, rfl, rfl, rfl, rfl, rfl, trivial⟩ (Grew.of (Eq.trans (frc (frl (frl (frl (frl (frl (frl rfl)))))) (frc (frl (frl (frl (frl (frl (frl rfl)))))) (frc (frl (frl (frl rfl))) (frc (frl (frl (frl (frl (frl rfl))))) (frc (frl (frl (frl (frl (frl rfl))))) (frc (frl (frl (frl (frl (frl rfl))))) (frc (frl (frl (frl (frl (frl rfl))))) (frc (frl rfl) (frc rfl (frc (frl (frl (frl rfl))) rfl)))))))))) (congrArg (· * _) (congrArg (· * _) (congrArg (· * _) (congrArg (· * _) (congrArg (· * _) (congrArg (· * _) (congrArg (· * _) (congrArg (· * _) (congrArg (· * _) (congrArg (· * _) (asg (asg (asg as1)))))))))))))) (Grew.refl _))
              obtain ⟨k, J2⟩ := x
              simp only at hx ih3 ⊢
              rcases Nat.lt_or_ge k ol.length with hk1 | hk1
              · have rdi : Rd w0 (old w0) (ol.getD k default).1 1 (ol.getD k default).2.length (B (ol.getD k default).2) := hoal.get hk1
                have hv := Fl_V ol k hk1
                have hvm := Fl_V ms k (by omega)
                have hsnd := snd_atO hms k
                have hsl := congrArg List.length hsnd
                have hmk := rdi.max
                rw [ownsB_drop 5 (show k < ms.length by omega)]
                simp only [← sep_assoc]
                refine Run.seq ?_
                refine Run.seq ?_
                refine Run.region ?_
                refine RunL.ok (OpOk.move rfl) rfl ?_
                refine RunL.ok (OpOk.move rfl) rfl ?_
                refine RunL.ok (OpOk.lenR rfl rfl (Rd.right rdz8) rfl) rfl ?_
                refine RunL.ok (OpOk.asT (OpOk.lss rfl rfl) (by omega)) rfl ?_
                refine RunL.nil ?_
                refine Run.condT rfl ?_
                refine Run.skip ?_
                refine Run.seq ?_
                refine Run.block ?_
                refine Run.seq ?_
                refine Run.seq ?_
                refine Run.know (fun w s => (s.conv (frl (frl (frl (frl (frl (frl (frl (frl rfl))))))))).ownRd0) (fun rdt1 => ?_)
                refine Run.know (fun w s => (s.conv (frl (frl (frl (frl (frl rfl)))))).ownRd0) (fun rdt2 => ?_)
                refine Run.know (fun w s => (s.conv (frl rfl)).ownRd0) (fun rdt3 => ?_)
                (apply Run.drawD [] (by rfl) (sep_emp _).symm; case hchk => kernel_rfl)
                refine Sd.quiet 0 _ _ rfl rfl rfl rfl rfl (QOp.ok (fun X => OpOk.move rfl)) ?_
                refine Sd.quiet 1 _ _ rfl rfl rfl rfl rfl (QOp.ok (fun X => OpOk.move rfl)) ?_
                refine Sd.quiet 2 _ _ rfl rfl rfl rfl rfl (QOp.ok (fun X => OpOk.idx1N rfl ti37 rfl (Rd.right rdz8).left.left rfl (by omega))) ?_
                refine Sd.quiet 3 _ _ rfl rfl rfl rfl rfl (QOp.ok (fun X => OpOk.load rfl rfl rfl (Rd.cell (Rd.right rdz8).left.left (by first | assumption | rfl)))) ?_
                refine Sd.quiet 4 _ _ rfl rfl rfl rfl rfl (QOp.ok (fun X => OpOk.strOf rfl rfl rfl rfl (Rd.right rdt3).left.left.left)) ?_
                refine Sd.quiet 5 _ _ rfl rfl rfl rfl rfl (QOp.ok (fun X => OpOk.fieldAddr fld28_3 rfl)) ?_
                refine Sd.quiet 6 _ _ rfl rfl rfl rfl rfl (QOp.ok (fun X => OpOk.load rfl rfl rfl (Blk.out Blk.pts.left.left.left.left.left.left _ _ (by first | rfl | assumption)))) ?_
                refine Sd.quiet 7 _ _ rfl rfl rfl rfl rfl (QOp.ok (fun X => OpOk.move rfl)) ?_
                refine Sd.quiet 8 _ _ rfl rfl rfl rfl rfl (QOp.ok (fun X => OpOk.idx1N rfl ti37 rfl hord.left.left.left.left.left.left.left.left.left.left.left.left.left.left rfl (by omega))) ?_
                refine Sd.quiet 9 _ _ rfl rfl rfl rfl rfl (QOp.ok (fun X => OpOk.load rfl rfl rfl (Rd.cell hord.left.left.left.left.left.left.left.left.left.left.left.left.left.left (by first | assumption | rfl)))) ?_
                refine Sd.quiet 10 _ _ rfl rfl rfl rfl rfl (QOp.ok (fun X => OpOk.strOf rfl rfl rfl rfl rdi.left.left.left.left.left.left.left.left.left.left.left.left.left.left)) ?_
                refine Sd.quiet 11 _ _ rfl rfl rfl rfl rfl (QOp.ok (fun X => OpOk.as (c := false) (OpOk.neqSS rfl rfl) (by rw [decide_eq_true (by omega)]; rfl))) ?_
                (apply Sd.tail; case hall => kernel_rfl)
                refine RunL.mem (fl2 (sep_emp _) (sep_emp _)) ?_
                refine RunL.nil ?_
                refine Run.condF rfl ?_
                refine Run.skip ?_
                refine Run.seq ?_
                refine Run.region ?_
                refine RunL.ok (OpOk.assign rfl) rfl ?_
                refine RunL.nil ?_
                refine Run.block ?_
                refine Run.jump ((Run.loopJ (X := Nat × List UInt8) (fun x => [(16, .int .i64 (x.1 : Int)), (15, .int .i64 (k : Int)), (8, vin), (7, S (flatB ol)), (6, .pointer (some ⟨by1, 0, none⟩)), (5, .int .i64 (i : Int)), (4, .pointer (some ⟨bx5, 0, none⟩)), (3, .pointer (some ⟨bx4, 0, none⟩)), (2, .pointer (some ⟨bx1, 0, none⟩)), (0, u)]) (fun x => old w0 * J2 * pts bx1 (.cells #[.bool false] 4 (0, 0)) * pts bx5 (.cells #[vv2] 79 (0, 0)) * own 87 5 vv2 ((l ++ [((oa, oc, od, oe), flatB ol)])).length (Fl encT87 ((l ++ [((oa, oc, od, oe), flatB ol)]))) * pts bx4 (.cells #[z12, z13] 34 (0, 0)) * omap z12 ((l ++ [((oa, oc, od, oe), flatB ol)])) * own 85 6 z13 ((l ++ [((oa, oc, od, oe), flatB ol)])).length (Fl encT85 (mintF 0 ((l ++ [((oa, oc, od, oe), flatB ol)])))) * pts by1 (.cells (Value.agg (encT28 (false, ot, (oa, oc, od, oe), os, ol)).toArray).cells 28 (0, 0)) * marks (D :: ds) * ownsB 5 (ms.drop (k + 1)) * own 5 1 (ms.getD k default).1 (ms.getD k default).2.length (B x.2) * own 37 1 vin ol.length (Fl encV ms)) (fun x => x.1 ≤ (ms.getD k default).2.length ∧ x.2.length = (ms.getD k default).2.length) (fun x => (ms.getD k default).2.length - x.1) (0, (ms.getD k default).2) ⟨Nat.zero_le _, rfl⟩ (fun x hx ih4 => ?_))) ⟨rfl, rfl, rfl, rfl, rfl, rfl, rfl, rfl, rfl, rfl, trivial⟩ ((Grew.refl _))
                obtain ⟨q, zs⟩ := x
                simp only at hx ih4 ⊢
                obtain ⟨hq, hzl⟩ := hx
                rcases Nat.lt_or_ge q (ms.getD k default).2.length with hq1 | hq1
                · refine Run.seq ?_
                  refine Run.seq ?_
                  refine Run.region ?_
                  refine RunL.ok (OpOk.move rfl) rfl ?_
                  refine RunL.ok (OpOk.move rfl) rfl ?_
                  refine RunL.ok (OpOk.move rfl) rfl ?_
                  refine RunL.ok (OpOk.idx1N rfl ti37 rfl (Rd.right rdz8) rfl (by omega)) rfl ?_
                  refine RunL.ok (OpOk.load rfl rfl rfl (Rd.cell (Rd.right rdz8) (by first | assumption | rfl))) rfl ?_
                  refine RunL.know (fun w s => (s.conv (frl rfl)).ownRd0) (fun rdr1 => ?_)
                  refine RunL.ok (OpOk.lenR rfl rfl (Rd.right rdr1).left rfl) rfl ?_
                  refine RunL.ok (OpOk.asT (OpOk.lss rfl rfl) (by omega)) rfl ?_
                  refine RunL.nil ?_
                  refine Run.condT rfl ?_
                  refine Run.skip ?_
                  refine Run.seq ?_
                  refine Run.block ?_
                  (apply Run.drawD [14] (by rfl) (sep_emp _).symm; case hchk => kernel_rfl)
                  refine Sd.quiet 0 _ _ rfl rfl rfl rfl rfl (QOp.ok (fun X => OpOk.move rfl)) ?_
                  refine Sd.quiet 1 _ _ rfl rfl rfl rfl rfl (QOp.ok (fun X => OpOk.move rfl)) ?_
                  refine Sd.quiet 2 _ _ rfl rfl rfl rfl rfl (QOp.ok (fun X => OpOk.idx1N rfl ti37 rfl (Rd.right rdz8).left.left rfl (by omega))) ?_
                  refine Sd.quiet 3 _ _ rfl rfl rfl rfl rfl (QOp.ok (fun X => OpOk.load rfl rfl rfl (Rd.cell (Rd.right rdz8).left.left (by first | assumption | rfl)))) ?_
                  refine Sd.quiet 4 _ _ rfl rfl rfl rfl rfl (QOp.ok (fun X => OpOk.move rfl)) ?_
                  refine Sd.quiet 5 _ _ rfl rfl rfl rfl rfl (QOp.ok (fun X => OpOk.move rfl)) ?_
                  refine Sd.quiet 6 _ _ rfl rfl rfl rfl rfl (QOp.ok (fun X => OpOk.move rfl)) ?_
                  refine Sd.quiet 7 _ _ rfl rfl rfl rfl rfl (QOp.ok (fun X => OpOk.idx1N rfl ti37 rfl (Rd.right rdz8).left.left rfl (by omega))) ?_
                  refine Sd.quiet 8 _ _ rfl rfl rfl rfl rfl (QOp.ok (fun X => OpOk.load rfl rfl rfl (Rd.cell (Rd.right rdz8).left.left (by first | assumption | rfl)))) ?_
                  refine Sd.quiet 9 _ _ rfl rfl rfl rfl rfl (QOp.ok (fun X => OpOk.move rfl)) ?_
                  refine Sd.quiet 10 _ _ rfl rfl rfl rfl rfl (QOp.ok (fun X => OpOk.idx1N rfl ti5 rfl (Rd.right rdr1).left.left.left rfl (by omega))) ?_
                  refine Sd.quiet 11 _ _ rfl rfl rfl rfl rfl (QOp.ok (fun X => OpOk.load rfl rfl rfl (Rd.getB (Rd.right rdr1).left.left.left (by omega)))) ?_
                  refine Sd.quiet 12 _ _ rfl rfl rfl rfl rfl (QOp.ok (fun X => OpOk.xor rfl rfl (x255 _))) ?_
                  refine Sd.quiet 13 _ _ rfl rfl rfl rfl rfl (QOp.ok (fun X => OpOk.idx1N rfl ti5 rfl (Rd.right rdr1).left.left.left rfl (by omega))) ?_
                  (apply Sd.tail; case hall => kernel_rfl)
                  refine RunL.mem (fl2 (sep_emp _) (sep_emp _)) ?_
                  refine RunL.storeB _ ti5 rfl rfl rfl (frl rfl) (by omega) ?_
                  refine RunL.nil ?_
                  refine Run.inBlock ?_
                  refine Run.region ?_
                  refine RunL.ok (OpOk.move rfl) rfl ?_
                  refine RunL.ok (OpOk.addN _ 1 rfl rfl rfl rfl (by omega)) rfl ?_
                  refine RunL.ok (OpOk.assign rfl) rfl ?_
                  refine RunL.nil ?_
                  refine Run.jump ((ih4 (q + 1, _) ⟨by dsimp only; omega, by simp [hzl]⟩ (by dsimp only; omega))) ⟨rfl, rfl, rfl, rfl, rfl, rfl, rfl, rfl, rfl, rfl, trivial⟩ (Grew.of (frc (frl rfl) rfl) (Grew.refl _))
                · obtain rfl : q = (ms.getD k default).2.length := by omega
                  clear ih4
                  refine Run.seq ?_
                  refine Run.seq ?_
                  refine Run.region ?_
                  refine RunL.ok (OpOk.move rfl) rfl ?_
                  refine RunL.ok (OpOk.move rfl) rfl ?_
                  refine RunL.ok (OpOk.move rfl) rfl ?_
                  refine RunL.ok (OpOk.idx1N rfl ti37 rfl (Rd.right rdz8) rfl (by omega)) rfl ?_
                  refine RunL.ok (OpOk.load rfl rfl rfl (Rd.cell (Rd.right rdz8) (by first | assumption | rfl))) rfl ?_
                  refine RunL.know (fun w s => (s.conv (frl rfl)).ownRd0) (fun rdr1 => ?_)
                  refine RunL.ok (OpOk.lenR rfl rfl (Rd.right rdr1).left rfl) rfl ?_
                  refine RunL.ok (OpOk.asF (OpOk.lss rfl rfl) (by omega)) rfl ?_
                  refine RunL.nil ?_
                  refine Run.condF rfl ?_
                  refine Run.exit rfl ?_
                  refine Run.inBlock ?_
                  refine Run.region ?_
                  refine RunL.ok (OpOk.move rfl) rfl ?_
                  refine RunL.ok (OpOk.addN _ 1 rfl rfl rfl rfl (by omega)) rfl ?_
                  refine RunL.ok (OpOk.assign rfl) rfl ?_
                  refine RunL.nil ?_
                  refine Run.jump ((ih3 (k + 1, _) (by dsimp only; omega) (by dsimp only; omega))) ⟨rfl, rfl, rfl, rfl, rfl, rfl, rfl, rfl, rfl, trivial⟩ (Grew.of (Eq.trans (frc rfl (frc (frl rfl) (frc (frl rfl) (frc (frl rfl) (frc (frl rfl) (frc (frl rfl) (frc (frl rfl) (frc (frl rfl) (frc (frl rfl) (frc (frl rfl) rfl)))))))))) (congrArg (· * _) (congrArg (· * _) (congrArg (· * _) (congrArg (· * _) (congrArg (· * _) (congrArg (· * _) (congrArg (· * _) (congrArg (· * _) (congrArg (· * _) (congrArg (· * _) (asg as1)))))))))))) (Grew.refl _))
              · obtain rfl : k = ol.length := by omega
                clear ih3
                refine Run.seq ?_
                refine Run.seq ?_
                refine Run.region ?_
                refine RunL.ok (OpOk.move rfl) rfl ?_
                refine RunL.ok (OpOk.move rfl) rfl ?_
                refine RunL.ok (OpOk.lenR rfl rfl (Rd.right rdz8) rfl) rfl ?_
                refine RunL.ok (OpOk.asF (OpOk.lss rfl rfl) (by omega)) rfl ?_
                refine RunL.nil ?_
                refine Run.condF rfl ?_
                refine Run.exit rfl ?_
                refine Run.seq ?_
                refine Run.know (fun w s => (s.conv (frl (frl (frl (frl (frl (frl (frl rfl)))))))).ownRd0) (fun rdt1 => ?_)
                refine Run.know (fun w s => (s.conv (frl (frl (frl (frl rfl))))).ownRd0) (fun rdt2 => ?_)
                (apply Run.drawD [] (by rfl) (Eq.trans (frc (frl (frl (frl (frl rfl)))) (frc (frl (frl (frl (frl rfl)))) (frc (frl (frl (frl (frl rfl)))) rfl))) (asg (asg rfl))); case hchk => kernel_rfl)
                refine Sd.quiet 0 _ _ rfl rfl rfl rfl rfl (QOp.ok (fun X => OpOk.move rfl)) ?_
                refine Sd.quiet 2 _ _ rfl rfl rfl rfl rfl (QOp.ok (fun X => OpOk.load rfl rfl rfl (Blk.out Blk.pts.left.left.left.left.left.left.left _ _ (by first | rfl | assumption)))) ?_
                refine Sd.quiet 3 _ _ rfl rfl rfl rfl rfl (QOp.ok (fun X => OpOk.lenR rfl rfl (Rd.right rdt1).left.left.left.left.left.left rfl)) ?_
                (refine Sd.exec 1 rfl rfl rfl rfl rfl ?hrest (by rfl) (fun Xt3 Kt3 hKt3 => ?_); case hrest => kernel_rfl)
                refine RunL.mem (fl2 (sep_emp _) (flS (flS rfl))) ?_
                refine RunL.know (fun w s => (s.conv (frl (frl (frl (frl (frl rfl)))))).ownsB0) (fun alt4 => ?_)
                refine RunL.call cal39 rfl (s39) rfl (fun vt5 At5 ht5 => ?_)
                obtain ⟨rfl, rfl⟩ := ht5
                refine Sd.ret hKt3 (Eq.trans rfl (gp2 (sep_emp _).symm (asg (asg rfl)))) ⟨_, (emp_sep _).symm⟩ ?_
                refine Sd.quiet 4 _ _ rfl rfl rfl rfl rfl (QOp.ok (fun X => OpOk.as (c := false) (OpOk.neq rfl rfl) (by rw [decide_eq_true (by omega)]; rfl))) ?_
                (apply Sd.tail; case hall => kernel_rfl)
                refine RunL.mem (fl2 (flS (flS rfl)) (sep_emp _)) ?_
                refine RunL.nil ?_
                refine Run.condF rfl ?_
                refine Run.skip ?_
                refine Run.inBlock ?_
                refine Run.region ?_
                refine RunL.ok (OpOk.move rfl) rfl ?_
                refine RunL.ok (OpOk.addN _ 1 rfl rfl rfl rfl (by omega)) rfl ?_
                refine RunL.ok (OpOk.assign rfl) rfl ?_
                refine RunL.nil ?_
                refine Run.jump ((ih (i + 1, (D :: ds), _, z12, z13, vv2, (l ++ [((oa, oc, od, oe), flatB ol)])) ⟨by dsimp only; omega, by dsimp only; omega, (by dsimp only; omega), hf1⟩ (by dsimp only; omega))) ⟨rfl, rfl, rfl, rfl, rfl, trivial⟩ (Grew.of (Eq.trans (frc (frl (frl (frl (frl (frl rfl))))) (frc rfl (frc rfl (frc rfl (frc (frl (frl (frl rfl))) (frc (frl (frl (frl rfl))) (frc (frl (frl (frl rfl))) rfl))))))) (congrArg (· * _) (congrArg (· * _) (congrArg (· * _) (congrArg (· * _) (congrArg (· * _) (congrArg (· * _) (congrArg (· * _) (asg (asg (asg as1))))))))))) (Grew.refl _))
            · have e1 : l2 = l := by rw [hl2, hflat, nxtL, if_neg hat]
              have e2 : t2 = atF 0 l ((oa, oc, od, oe), flatB ol) := by rw [ht2, hflat, nxtT, if_neg hat]
              rw [e1]
              rw [e2]
              refine Run.inBlock ?_
              refine Run.seq ?_
              refine Run.seq ?_
              refine Run.region ?_
              refine RunL.ok (OpOk.load rfl rfl rfl (Blk.out Blk.pts.left.left _ _ (by first | rfl | assumption))) rfl ?_
              refine RunL.ok (OpOk.load rfl rfl rfl (Blk.out Blk.pts.left.left.left.left.left.left.left.left.left.left _ _ (by first | rfl | assumption))) rfl ?_
              refine RunL.ok (OpOk.lenR rfl rfl (Rd.right rdz2).left.left.left.left.left.left.left.left.left rfl) rfl ?_
              refine RunL.ok (OpOk.as (c := false) (OpOk.neq rfl rfl) (by rw [decide_eq_true (by omega)]; rfl)) rfl ?_
              refine RunL.nil ?_
              refine Run.condF rfl ?_
              refine Run.skip ?_
              refine Run.seq ?_
              refine Run.seq ?_
              refine Run.region ?_
              refine RunL.ok (OpOk.move rfl) rfl ?_
              refine RunL.ok (OpOk.asF (OpOk.eql rfl rfl) (by omega)) rfl ?_
              refine RunL.nil ?_
              refine Run.condF rfl ?_
              refine Run.skip ?_
              refine Run.seq ?_
              refine Run.region ?_
              refine RunL.ok (OpOk.move rfl) rfl ?_
              refine RunL.ok (OpOk.move rfl) rfl ?_
              refine RunL.ok (OpOk.as (c := false) (OpOk.neq rfl rfl) (by rw [decide_eq_true (by omega)]; rfl)) rfl ?_
              refine RunL.nil ?_
              refine Run.condF rfl ?_
              refine Run.skip ?_
              refine Run.seq ?_
              refine Run.seq ?_
              refine Run.region ?_
              refine RunL.ok (OpOk.assign rfl) rfl ?_
              refine RunL.nil ?_
              refine Run.block ?_
              refine Run.jump ((Run.loopJ (X := Nat × Asn) (fun x => [(15, .int .i64 (x.1 : Int)), (8, vin), (7, S (flatB ol)), (6, .pointer (some ⟨by1, 0, none⟩)), (5, .int .i64 (i : Int)), (4, .pointer (some ⟨bx5, 0, none⟩)), (3, .pointer (some ⟨bx4, 0, none⟩)), (2, .pointer (some ⟨bx1, 0, none⟩)), (0, u)]) (fun x => old w0 * x.2 * pts bx1 (.cells #[.bool false] 4 (0, 0)) * pts bx5 (.cells #[lv] 79 (0, 0)) * own 87 5 lv (l).length (Fl encT87 (l)) * pts bx4 (.cells #[z12, z13] 34 (0, 0)) * omap z12 (l) * own 85 6 z13 (l).length (Fl encT85 (mintF 0 (l))) * pts by1 (.cells (Value.agg (encT28 (false, ot, (oa, oc, od, oe), os, ol)).toArray).cells 28 (0, 0)) * marks (D :: ds) * ownsB 5 (ms.drop x.1) * own 37 1 vin ol.length (Fl encV ms)) (fun x => x.1 ≤ ol.length) (fun x => ol.length - x.1) (0, _) (Nat.zero_le _) (fun x hx ih3 => ?_))) ⟨rfl, rfl, rfl, rfl, rfl, rfl, rfl, rfl, rfl, trivial⟩ (Grew.of (Eq.trans (frc (frl (frl (frl rfl))) (frc (frl (frl (frl rfl))) (frc rfl (frc (frl (frl rfl)) (frc (frl (frl rfl)) (frc (frl (frl rfl)) (frc (frl (frl rfl)) (frc (frl (frl rfl)) (frc (frl (frl rfl)) (frc (frl (frl rfl)) rfl)))))))))) (congrArg (· * _) (congrArg (· * _) (congrArg (· * _) (congrArg (· * _) (congrArg (· * _) (congrArg (· * _) (congrArg (· * _) (congrArg (· * _) (congrArg (· * _) (congrArg (· * _) (asg (asg as1))))))))))))) (Grew.refl _))
              obtain ⟨k, J2⟩ := x
              simp only at hx ih3 ⊢
              rcases Nat.lt_or_ge k ol.length with hk1 | hk1
              · have rdi : Rd w0 (old w0) (ol.getD k default).1 1 (ol.getD k default).2.length (B (ol.getD k default).2) := hoal.get hk1
                have hv := Fl_V ol k hk1
                have hvm := Fl_V ms k (by omega)
                have hsnd := snd_atO hms k
                have hsl := congrArg List.length hsnd
                have hmk := rdi.max
                rw [ownsB_drop 5 (show k < ms.length by omega)]
                simp only [← sep_assoc]
                refine Run.seq ?_
                refine Run.seq ?_
                refine Run.region ?_
                refine RunL.ok (OpOk.move rfl) rfl ?_
                refine RunL.ok (OpOk.move rfl) rfl ?_
                refine RunL.ok (OpOk.lenR rfl rfl (Rd.right rdz8) rfl) rfl ?_
                refine RunL.ok (OpOk.asT (OpOk.lss rfl rfl) (by omega)) rfl ?_
                refine RunL.nil ?_
                refine Run.condT rfl ?_
                refine Run.skip ?_
                refine Run.seq ?_
                refine Run.block ?_
                refine Run.seq ?_
                refine Run.seq ?_
                refine Run.know (fun w s => (s.conv (frl (frl (frl (frl (frl rfl)))))).ownRd0) (fun rdt1 => ?_)
                refine Run.know (fun w s => (s.conv (frl rfl)).ownRd0) (fun rdt2 => ?_)
                (apply Run.drawD [] (by rfl) (sep_emp _).symm; case hchk => kernel_rfl)
                refine Sd.quiet 0 _ _ rfl rfl rfl rfl rfl (QOp.ok (fun X => OpOk.move rfl)) ?_
                refine Sd.quiet 1 _ _ rfl rfl rfl rfl rfl (QOp.ok (fun X => OpOk.move rfl)) ?_
                refine Sd.quiet 2 _ _ rfl rfl rfl rfl rfl (QOp.ok (fun X => OpOk.idx1N rfl ti37 rfl (Rd.right rdz8).left.left rfl (by omega))) ?_
                refine Sd.quiet 3 _ _ rfl rfl rfl rfl rfl (QOp.ok (fun X => OpOk.load rfl rfl rfl (Rd.cell (Rd.right rdz8).left.left (by first | assumption | rfl)))) ?_
                refine Sd.quiet 4 _ _ rfl rfl rfl rfl rfl (QOp.ok (fun X => OpOk.strOf rfl rfl rfl rfl (Rd.right rdt2).left.left.left)) ?_
                refine Sd.quiet 5 _ _ rfl rfl rfl rfl rfl (QOp.ok (fun X => OpOk.fieldAddr fld28_3 rfl)) ?_
                refine Sd.quiet 6 _ _ rfl rfl rfl rfl rfl (QOp.ok (fun X => OpOk.load rfl rfl rfl (Blk.out Blk.pts.left.left.left.left.left.left _ _ (by first | rfl | assumption)))) ?_
                refine Sd.quiet 7 _ _ rfl rfl rfl rfl rfl (QOp.ok (fun X => OpOk.move rfl)) ?_
                refine Sd.quiet 8 _ _ rfl rfl rfl rfl rfl (QOp.ok (fun X => OpOk.idx1N rfl ti37 rfl hord.left.left.left.left.left.left.left.left.left.left.left.left.left.left rfl (by omega))) ?_
                refine Sd.quiet 9 _ _ rfl rfl rfl rfl rfl (QOp.ok (fun X => OpOk.load rfl rfl rfl (Rd.cell hord.left.left.left.left.left.left.left.left.left.left.left.left.left.left (by first | assumption | rfl)))) ?_
                refine Sd.quiet 10 _ _ rfl rfl rfl rfl rfl (QOp.ok (fun X => OpOk.strOf rfl rfl rfl rfl rdi.left.left.left.left.left.left.left.left.left.left.left.left.left.left)) ?_
                refine Sd.quiet 11 _ _ rfl rfl rfl rfl rfl (QOp.ok (fun X => OpOk.as (c := false) (OpOk.neqSS rfl rfl) (by rw [decide_eq_true (by omega)]; rfl))) ?_
                (apply Sd.tail; case hall => kernel_rfl)
                refine RunL.mem (fl2 (sep_emp _) (sep_emp _)) ?_
                refine RunL.nil ?_
                refine Run.condF rfl ?_
                refine Run.skip ?_
                refine Run.seq ?_
                refine Run.region ?_
                refine RunL.ok (OpOk.assign rfl) rfl ?_
                refine RunL.nil ?_
                refine Run.block ?_
                refine Run.jump ((Run.loopJ (X := Nat × List UInt8) (fun x => [(16, .int .i64 (x.1 : Int)), (15, .int .i64 (k : Int)), (8, vin), (7, S (flatB ol)), (6, .pointer (some ⟨by1, 0, none⟩)), (5, .int .i64 (i : Int)), (4, .pointer (some ⟨bx5, 0, none⟩)), (3, .pointer (some ⟨bx4, 0, none⟩)), (2, .pointer (some ⟨bx1, 0, none⟩)), (0, u)]) (fun x => old w0 * J2 * pts bx1 (.cells #[.bool false] 4 (0, 0)) * pts bx5 (.cells #[lv] 79 (0, 0)) * own 87 5 lv (l).length (Fl encT87 (l)) * pts bx4 (.cells #[z12, z13] 34 (0, 0)) * omap z12 (l) * own 85 6 z13 (l).length (Fl encT85 (mintF 0 (l))) * pts by1 (.cells (Value.agg (encT28 (false, ot, (oa, oc, od, oe), os, ol)).toArray).cells 28 (0, 0)) * marks (D :: ds) * ownsB 5 (ms.drop (k + 1)) * own 5 1 (ms.getD k default).1 (ms.getD k default).2.length (B x.2) * own 37 1 vin ol.length (Fl encV ms)) (fun x => x.1 ≤ (ms.getD k default).2.length ∧ x.2.length = (ms.getD k default).2.length) (fun x => (ms.getD k default).2.length - x.1) (0, (ms.getD k default).2) ⟨Nat.zero_le _, rfl⟩ (fun x hx ih4 => ?_))) ⟨rfl, rfl, rfl, rfl, rfl, rfl, rfl, rfl, rfl, rfl, trivial⟩ ((Grew.refl _))
                obtain ⟨q, zs⟩ := x
                simp only at hx ih4 ⊢
                obtain ⟨hq, hzl⟩ := hx
                rcases Nat.lt_or_ge q (ms.getD k default).2.length with hq1 | hq1
                · refine Run.seq ?_
                  refine Run.seq ?_
                  refine Run.region ?_
                  refine RunL.ok (OpOk.move rfl) rfl ?_
                  refine RunL.ok (OpOk.move rfl) rfl ?_
                  refine RunL.ok (OpOk.move rfl) rfl ?_
                  refine RunL.ok (OpOk.idx1N rfl ti37 rfl (Rd.right rdz8) rfl (by omega)) rfl ?_
                  refine RunL.ok (OpOk.load rfl rfl rfl (Rd.cell (Rd.right rdz8) (by first | assumption | rfl))) rfl ?_
                  refine RunL.know (fun w s => (s.conv (frl rfl)).ownRd0) (fun rdr1 => ?_)
                  refine RunL.ok (OpOk.lenR rfl rfl (Rd.right rdr1).left rfl) rfl ?_
                  refine RunL.ok (OpOk.asT (OpOk.lss rfl rfl) (by omega)) rfl ?_
                  refine RunL.nil ?_
                  refine Run.condT rfl ?_
                  refine Run.skip ?_
                  refine Run.seq ?_
                  refine Run.block ?_
                  (apply Run.drawD [14] (by rfl) (sep_emp _).symm; case hchk => kernel_rfl)
                  refine Sd.quiet 0 _ _ rfl rfl rfl rfl rfl (QOp.ok (fun X => OpOk.move rfl)) ?_
                  refine Sd.quiet 1 _ _ rfl rfl rfl rfl rfl (QOp.ok (fun X => OpOk.move rfl)) ?_
                  refine Sd.quiet 2 _ _ rfl rfl rfl rfl rfl (QOp.ok (fun X => OpOk.idx1N rfl ti37 rfl (Rd.right rdz8).left.left rfl (by omega))) ?_
                  refine Sd.quiet 3 _ _ rfl rfl rfl rfl rfl (QOp.ok (fun X => OpOk.load rfl rfl rfl (Rd.cell (Rd.right rdz8).left.left (by first | assumption | rfl)))) ?_
                  refine Sd.quiet 4 _ _ rfl rfl rfl rfl rfl (QOp.ok (fun X => OpOk.move rfl)) ?_
                  refine Sd.quiet 5 _ _ rfl rfl rfl rfl rfl (QOp.ok (fun X => OpOk.move rfl)) ?_
                  refine Sd.quiet 6 _ _ rfl rfl rfl rfl rfl (QOp.ok (fun X => OpOk.move rfl)) ?_
                  refine Sd.quiet 7 _ _ rfl rfl rfl rfl rfl (QOp.ok (fun X => OpOk.idx1N rfl ti37 rfl (Rd.right rdz8).left.left rfl (by omega))) ?_
                  refine Sd.quiet 8 _ _ rfl rfl rfl rfl rfl (QOp.ok (fun X => OpOk.load rfl rfl rfl (Rd.cell (Rd.right rdz8).left.left (by first | assumption | rfl)))) ?_
                  refine Sd.quiet 9 _ _ rfl rfl rfl rfl rfl (QOp.ok (fun X => OpOk.move rfl)) ?_
                  refine Sd.quiet 10 _ _ rfl rfl rfl rfl rfl (QOp.ok (fun X => OpOk.idx1N rfl ti5 rfl (Rd.right rdr1).left.left.left rfl (by omega))) ?_
                  refine Sd.quiet 11 _ _ rfl rfl rfl rfl rfl (QOp.ok (fun X => OpOk.load rfl rfl rfl (Rd.getB (Rd.right rdr1).left.left.left (by omega)))) ?_
                  refine Sd.quiet 12 _ _ rfl rfl rfl rfl rfl (QOp.ok (fun X => OpOk.xor rfl rfl (x255 _))) ?_
                  refine Sd.quiet 13 _ _ rfl rfl rfl rfl rfl (QOp.ok (fun X => OpOk.idx1N rfl ti5 rfl (Rd.right rdr1).left.left.left rfl (by omega))) ?_
                  (apply Sd.tail; case hall => kernel_rfl)
                  refine RunL.mem (fl2 (sep_emp _) (sep_emp _)) ?_
                  refine RunL.storeB _ ti5 rfl rfl rfl (frl rfl) (by omega) ?_
                  refine RunL.nil ?_
                  refine Run.inBlock ?_
                  refine Run.region ?_
                  refine RunL.ok (OpOk.move rfl) rfl ?_
                  refine RunL.ok (OpOk.addN _ 1 rfl rfl rfl rfl (by omega)) rfl ?_
                  refine RunL.ok (OpOk.assign rfl) rfl ?_
                  refine RunL.nil ?_
                  refine Run.jump ((ih4 (q + 1, _) ⟨by dsimp only; omega, by simp [hzl]⟩ (by dsimp only; omega))) ⟨rfl, rfl, rfl, rfl, rfl, rfl, rfl, rfl, rfl, rfl, trivial⟩ (Grew.of (frc (frl rfl) rfl) (Grew.refl _))
                · obtain rfl : q = (ms.getD k default).2.length := by omega
                  clear ih4
                  refine Run.seq ?_
                  refine Run.seq ?_
                  refine Run.region ?_
                  refine RunL.ok (OpOk.move rfl) rfl ?_
                  refine RunL.ok (OpOk.move rfl) rfl ?_
                  refine RunL.ok (OpOk.move rfl) rfl ?_
                  refine RunL.ok (OpOk.idx1N rfl ti37 rfl (Rd.right rdz8) rfl (by omega)) rfl ?_
                  refine RunL.ok (OpOk.load rfl rfl rfl (Rd.cell (Rd.right rdz8) (by first | assumption | rfl))) rfl ?_
                  refine RunL.know (fun w s => (s.conv (frl rfl)).ownRd0) (fun rdr1 => ?_)
                  refine RunL.ok (OpOk.lenR rfl rfl (Rd.right rdr1).left rfl) rfl ?_
                  refine RunL.ok (OpOk.asF (OpOk.lss rfl rfl) (by omega)) rfl ?_
                  refine RunL.nil ?_
                  refine Run.condF rfl ?_
                  refine Run.exit rfl ?_
                  refine Run.inBlock ?_
                  refine Run.region ?_
                  refine RunL.ok (OpOk.move rfl) rfl ?_
                  refine RunL.ok (OpOk.addN _ 1 rfl rfl rfl rfl (by omega)) rfl ?_
                  refine RunL.ok (OpOk.assign rfl) rfl ?_
                  refine RunL.nil ?_
                  refine Run.jump ((ih3 (k + 1, _) (by dsimp only; omega) (by dsimp only; omega))) ⟨rfl, rfl, rfl, rfl, rfl, rfl, rfl, rfl, rfl, trivial⟩ (Grew.of (Eq.trans (frc rfl (frc (frl rfl) (frc (frl rfl) (frc (frl rfl) (frc (frl rfl) (frc (frl rfl) (frc (frl rfl) (frc (frl rfl) (frc (frl rfl) (frc (frl rfl) rfl)))))))))) (congrArg (· * _) (congrArg (· * _) (congrArg (· * _) (congrArg (· * _) (congrArg (· * _) (congrArg (· * _) (congrArg (· * _) (congrArg (· * _) (congrArg (· * _) (congrArg (· * _) (asg as1)))))))))))) (Grew.refl _))
              · obtain rfl : k = ol.length := by omega
                clear ih3
                refine Run.seq ?_
                refine Run.seq ?_
                refine Run.region ?_
                refine RunL.ok (OpOk.move rfl) rfl ?_
                refine RunL.ok (OpOk.move rfl) rfl ?_
                refine RunL.ok (OpOk.lenR rfl rfl (Rd.right rdz8) rfl) rfl ?_
                refine RunL.ok (OpOk.asF (OpOk.lss rfl rfl) (by omega)) rfl ?_
                refine RunL.nil ?_
                refine Run.condF rfl ?_
                refine Run.exit rfl ?_
                refine Run.seq ?_
                refine Run.know (fun w s => (s.conv (frl (frl (frl (frl rfl))))).ownRd0) (fun rdt1 => ?_)
                (apply Run.drawD [] (by rfl) (Eq.trans (frc (frl (frl (frl (frl rfl)))) (frc (frl (frl (frl (frl rfl)))) (frc (frl (frl (frl (frl rfl)))) rfl))) (asg (asg rfl))); case hchk => kernel_rfl)
                refine Sd.quiet 0 _ _ rfl rfl rfl rfl rfl (QOp.ok (fun X => OpOk.move rfl)) ?_
                refine Sd.quiet 2 _ _ rfl rfl rfl rfl rfl (QOp.ok (fun X => OpOk.load rfl rfl rfl (Blk.out Blk.pts.left.left.left.left.left.left.left _ _ (by first | rfl | assumption)))) ?_
                refine Sd.quiet 3 _ _ rfl rfl rfl rfl rfl (QOp.ok (fun X => OpOk.lenR rfl rfl (Rd.right rdz2).left.left.left.left.left.left rfl)) ?_
                (refine Sd.exec 1 rfl rfl rfl rfl rfl ?hrest (by rfl) (fun Xt2 Kt2 hKt2 => ?_); case hrest => kernel_rfl)
                refine RunL.mem (fl2 (sep_emp _) (flS (flS rfl))) ?_
                refine RunL.know (fun w s => (s.conv (frl (frl (frl (frl (frl rfl)))))).ownsB0) (fun alt3 => ?_)
                refine RunL.call cal39 rfl (s39) rfl (fun vt4 At4 ht4 => ?_)
                obtain ⟨rfl, rfl⟩ := ht4
                refine Sd.ret hKt2 (Eq.trans rfl (gp2 (sep_emp _).symm (asg (asg rfl)))) ⟨_, (emp_sep _).symm⟩ ?_
                refine Sd.quiet 4 _ _ rfl rfl rfl rfl rfl (QOp.ok (fun X => OpOk.as (c := false) (OpOk.neq rfl rfl) (by rw [decide_eq_true (by omega)]; rfl))) ?_
                (apply Sd.tail; case hall => kernel_rfl)
                refine RunL.mem (fl2 (flS (flS rfl)) (sep_emp _)) ?_
                refine RunL.nil ?_
                refine Run.condF rfl ?_
                refine Run.skip ?_
                refine Run.inBlock ?_
                refine Run.region ?_
                refine RunL.ok (OpOk.move rfl) rfl ?_
                refine RunL.ok (OpOk.addN _ 1 rfl rfl rfl rfl (by omega)) rfl ?_
                refine RunL.ok (OpOk.assign rfl) rfl ?_
                refine RunL.nil ?_
                refine Run.jump ((ih (i + 1, (D :: ds), _, z12, z13, lv, l) ⟨by dsimp only; omega, by dsimp only; omega, (by dsimp only; omega), hnd⟩ (by dsimp only; omega))) ⟨rfl, rfl, rfl, rfl, rfl, trivial⟩ (Grew.of (Eq.trans (frc (frl (frl (frl (frl (frl rfl))))) (frc rfl (frc rfl (frc rfl (frc (frl (frl (frl rfl))) (frc (frl (frl (frl rfl))) (frc (frl (frl (frl rfl))) rfl))))))) (congrArg (· * _) (congrArg (· * _) (congrArg (· * _) (congrArg (· * _) (congrArg (· * _) (congrArg (· * _) (congrArg (· * _) (asg (asg (asg as1))))))))))) (Grew.refl _))
    · clear ih
      refine Run.seq ?_
      refine Run.seq ?_
      refine Run.region ?_
      refine RunL.ok (OpOk.move rfl) rfl ?_
      refine RunL.ok (OpOk.move rfl) rfl ?_
      refine RunL.ok (OpOk.lenR rfl rfl rd.left.left.left.left.left.left.left.left rfl) rfl ?_
      refine RunL.ok (OpOk.asT (OpOk.lss rfl rfl) (by omega)) rfl ?_
      refine RunL.ok (OpOk.move rfl) rfl ?_
      refine RunL.on rfl rfl ?_
      refine RunL.ok (OpOk.move rfl) rfl ?_
      refine RunL.on rfl rfl ?_
      refine RunL.ok (OpOk.asF (OpOk.lss rfl rfl) (by omega)) rfl ?_
      refine RunL.ok (OpOk.pickT rfl rfl) rfl ?_
      refine RunL.nil ?_
      refine Run.condF rfl ?_
      refine Run.exit rfl ?_
      refine Run.seq ?_
      refine Run.know (fun w s => (s.conv (frl (frl (frl (frl rfl))))).ownRd0) (fun rdy1 => ?_)
      refine Run.know (fun w s => (s.conv (frl rfl)).ownRd0) (fun rdy2 => ?_)
      (apply Run.drawD [5] (by rfl) (Eq.trans (frc (frl rfl) (frc (frl rfl) (frc (frl rfl) rfl))) (asg (asg rfl))); case hchk => kernel_rfl)
      refine Sd.quiet 0 _ _ rfl rfl rfl rfl rfl (QOp.ok (fun X => OpOk.move rfl)) ?_
      refine Sd.quiet 2 _ _ rfl rfl rfl rfl rfl (QOp.ok (fun X => OpOk.load rfl rfl rfl (Blk.out Blk.pts.left.left.left.left _ _ (by first | rfl | assumption)))) ?_
      refine Sd.quiet 3 _ _ rfl rfl rfl rfl rfl (QOp.ok (fun X => OpOk.lenR rfl rfl (Rd.right rdy1).left.left.left rfl)) ?_
      (refine Sd.exec 1 rfl rfl rfl rfl rfl ?hrest (by rfl) (fun Xy3 Ky3 hKy3 => ?_); case hrest => kernel_rfl)
      refine RunL.mem (fl2 (sep_emp _) (flS (flS rfl))) ?_
      refine RunL.call cal39 rfl (s39) rfl (fun vy4 Ay4 hy4 => ?_)
      obtain ⟨rfl, rfl⟩ := hy4
      refine Sd.ret hKy3 (Eq.trans rfl (gp2 (sep_emp _).symm (asg (asg rfl)))) ⟨_, (emp_sep _).symm⟩ ?_
      refine Sd.quiet 4 _ _ rfl rfl rfl rfl rfl (QOp.ok (fun X => OpOk.asT (OpOk.eql rfl rfl) (by omega))) ?_
      (apply Sd.tail; case hall => kernel_rfl)
      refine RunL.mem (fl2 (flS (flS rfl)) (sep_emp _)) ?_
      refine RunL.store ti4 rfl rfl rfl (frl (frl (frl (frl (frl (frl rfl)))))) (by exact Nat.le_of_ble_eq_true rfl) (.inl rfl) ?_
      refine RunL.nil ?_
      refine Run.mem (frc (frl (frl (frl (frl rfl)))) rfl) ?_
      refine Run.shut ?_
      refine Run.retC1 (A' := _) Try.func11 rfl rfl rfl rfl Blk.pts rfl (Grew.refl _) ?_
      exact ⟨rfl, ⟨_, (asg (asg (asg (asg (asg (asg as1))))))⟩⟩
  · clear ih
    refine Run.seq ?_
    refine Run.seq ?_
    refine Run.region ?_
    refine RunL.ok (OpOk.move rfl) rfl ?_
    refine RunL.ok (OpOk.move rfl) rfl ?_
    refine RunL.ok (OpOk.lenR rfl rfl rd.left.left.left.left.left.left.left.left rfl) rfl ?_
    refine RunL.ok (OpOk.asF (OpOk.lss rfl rfl) (by omega)) rfl ?_
    refine RunL.ok (OpOk.move rfl) rfl ?_
    refine RunL.off rfl rfl rfl rfl ?_
    refine RunL.off rfl rfl rfl rfl ?_
    refine RunL.ok (OpOk.pickF rfl rfl) rfl ?_
    refine RunL.nil ?_
    refine Run.condF rfl ?_
    refine Run.exit rfl ?_
    refine Run.seq ?_
    refine Run.know (fun w s => (s.conv (frl (frl (frl (frl rfl))))).ownRd0) (fun rdy1 => ?_)
    refine Run.know (fun w s => (s.conv (frl rfl)).ownRd0) (fun rdy2 => ?_)
    (apply Run.drawD [5] (by rfl) (Eq.trans (frc (frl rfl) (frc (frl rfl) (frc (frl rfl) rfl))) (asg (asg rfl))); case hchk => kernel_rfl)
    refine Sd.quiet 0 _ _ rfl rfl rfl rfl rfl (QOp.ok (fun X => OpOk.move rfl)) ?_
    refine Sd.quiet 2 _ _ rfl rfl rfl rfl rfl (QOp.ok (fun X => OpOk.load rfl rfl rfl (Blk.out Blk.pts.left.left.left.left _ _ (by first | rfl | assumption)))) ?_
    refine Sd.quiet 3 _ _ rfl rfl rfl rfl rfl (QOp.ok (fun X => OpOk.lenR rfl rfl (Rd.right rdy1).left.left.left rfl)) ?_
    (refine Sd.exec 1 rfl rfl rfl rfl rfl ?hrest (by rfl) (fun Xy3 Ky3 hKy3 => ?_); case hrest => kernel_rfl)
    refine RunL.mem (fl2 (sep_emp _) (flS (flS rfl))) ?_
    refine RunL.call cal39 rfl (s39) rfl (fun vy4 Ay4 hy4 => ?_)
    obtain ⟨rfl, rfl⟩ := hy4
    refine Sd.ret hKy3 (Eq.trans rfl (gp2 (sep_emp _).symm (asg (asg rfl)))) ⟨_, (emp_sep _).symm⟩ ?_
    refine Sd.quiet 4 _ _ rfl rfl rfl rfl rfl (QOp.ok (fun X => OpOk.asT (OpOk.eql rfl rfl) (by omega))) ?_
    (apply Sd.tail; case hall => kernel_rfl)
    refine RunL.mem (fl2 (flS (flS rfl)) (sep_emp _)) ?_
    refine RunL.store ti4 rfl rfl rfl (frl (frl (frl (frl (frl (frl rfl)))))) (by exact Nat.le_of_ble_eq_true rfl) (.inl rfl) ?_
    refine RunL.nil ?_
    refine Run.mem (frc (frl (frl (frl (frl rfl)))) rfl) ?_
    refine Run.shut ?_
    refine Run.retC1 (A' := _) Try.func11 rfl rfl rfl rfl Blk.pts rfl (Grew.refl _) ?_
    exact ⟨rfl, ⟨_, (asg (asg (asg (asg (asg (asg as1))))))⟩⟩
end
end Go.Proofs.Ytlmehpjcmdipmaa
