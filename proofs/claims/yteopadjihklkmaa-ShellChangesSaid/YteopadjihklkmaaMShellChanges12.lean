/- Part 12 of the proof of ShellChanges. -/
import Derived.Test.YteopadjihklkmaaMShellChanges11
section
namespace Go.Proofs.Yteopadjihklkmaa
open Go Go.Proofs
set_option maxRecDepth 100000
set_option maxHeartbeats 4000000
set_option linter.unusedSimpArgs false
set_option linter.unusedVariables false
theorem atE_range (o i : Int) (es : List En) : atE o i es = -1 ∨ 0 ≤ atE o i es ∧ atE o i es < es.length := by
  have h := (idxE_any (fun e => decide (e.2.1 = o ∧ e.2.2.1 = i)) es 0).2
  have : atE o i es = idxE (fun e => decide (e.2.1 = o ∧ e.2.2.1 = i)) 0 es := rfl
  omega
theorem freeN_range (es : List En) : ∀ (n : Nat) (s : Int), 0 ≤ s → freeN es n s = -1 ∨ s ≤ freeN es n s ∧ freeN es n s < s + n
  | 0, s, h => .inl rfl
  | n + 1, s, h => by
    rw [freeN]
    split
    · right; omega
    · have := freeN_range es n (s + 1) (by omega)
      omega
theorem freeE_range (es : List En) : freeE es = -1 ∨ 0 ≤ freeE es ∧ freeE es < 6 := by
  have := freeN_range es 6 0 (by omega)
  have e : freeE es = freeN es 6 0 := rfl
  omega
section
variable {w0 : World} {A : Asn} {p : Nat} {a b q c k o i s : Int} {ad : Option Addr} {m cap n : Nat} {es : List En} {u : Value} {bs : List UInt8}
theorem s57a (rd : Rd w0 A (.slice ad m cap) 4 m (Fl encT111 es)) (hr : ¬ rightP (k, o, i, freeE es)) :
    Spec Try.prog w0 57 [.pointer (some ⟨p, 0, none⟩), .agg #[.int .i64 a, .int .i64 b, .int .i64 q, .int .i64 c, .slice ad m cap], .agg #[.int .i64 k, .int .i64 o, .int .i64 i, .int .i64 s], u] A (fun v' A' => ∃ J, v' = .tuple #[.agg #[.int .i64 0, .int .i64 0, .int .i64 0, .int .i64 0, .slice none 0 0], .int .i64 2] ∧ A' = A * J) := by
  refine Spec.of_run [(0, .pointer (some ⟨p, 0, none⟩)), (1, .agg #[.int .i64 a, .int .i64 b, .int .i64 q, .int .i64 c, .slice ad m cap]), (2, .agg #[.int .i64 k, .int .i64 o, .int .i64 i, .int .i64 s]), (3, u)] Try.func57 rfl (Nat.le_of_ble_eq_true rfl) (by repeat (first | exact trivial | refine ⟨rfl, ?_⟩)) ?_
  refine Run.seq ?_
  refine Run.region ?_
  refine RunL.box rfl rfl (fun bx1 => ?_)
  refine RunL.box rfl rfl (fun bx2 => ?_)
  refine RunL.alloc ti86 rfl (fun bx3 => ?_)
  refine RunL.ok (OpOk.assign rfl) rfl ?_
  refine RunL.nil ?_
  refine Run.seq ?_
  refine Run.region ?_
  refine RunL.ok (OpOk.loadS rfl rfl ti86 rfl Blk.pts.left.left rfl) rfl ?_
  refine RunL.ok (OpOk.fieldAddr fld111_1 rfl) rfl ?_
  refine RunL.ok (OpOk.load rfl rfl rfl (Blk.out Blk.pts.left _ _ (by first | rfl | assumption))) rfl ?_
  refine RunL.ok (OpOk.fieldAddr fld111_2 rfl) rfl ?_
  refine RunL.ok (OpOk.load rfl rfl rfl (Blk.out Blk.pts.left _ _ (by first | rfl | assumption))) rfl ?_
  refine RunL.call cal45 rfl (s45 rd.left.left.left) rfl (fun vx4 Ax4 hx4 => ?_)
  obtain ⟨x5, ⟨rfl, rfl⟩⟩ := hx4
  refine RunL.ok (OpOk.assign rfl) rfl ?_
  refine RunL.nil ?_
  refine Run.seq ?_
  refine Run.region ?_
  refine RunL.ok (OpOk.loadS rfl rfl ti86 rfl Blk.pts.left.left.left rfl) rfl ?_
  refine RunL.call cal47 rfl (s47 rd.left.left.left.left) rfl (fun vx6 Ax6 hx6 => ?_)
  obtain ⟨x7, ⟨rfl, rfl⟩⟩ := hx6
  refine RunL.ok (OpOk.fieldAddr fld111_3 rfl) rfl ?_
  refine RunL.store ti3 rfl rfl rfl (frl (frl (frl rfl))) (by exact Nat.le_of_ble_eq_true rfl) (.inl rfl) ?_
  refine RunL.nil ?_
  refine Run.seq ?_
  refine Run.block ?_
  refine Run.seq ?_
  refine Run.region ?_
  refine RunL.ok (OpOk.move rfl) rfl ?_
  refine RunL.ok (OpOk.eqlPN rfl rfl) rfl ?_
  refine RunL.ok (OpOk.move rfl) rfl ?_
  refine RunL.on rfl rfl ?_
  refine RunL.ok (OpOk.loadS rfl rfl ti111 rfl Blk.pts rfl) rfl ?_
  refine RunL.on rfl rfl ?_
  refine RunL.call cal103 rfl (s103) rfl (fun vx8 Ax8 hx8 => ?_)
  obtain ⟨x9, ⟨rfl, rfl⟩⟩ := hx8
  refine RunL.on rfl rfl ?_
  refine RunL.ok (OpOk.not rfl) rfl ?_
  refine RunL.ok (OpOk.pickF rfl rfl) rfl ?_
  refine RunL.ok (OpOk.assign rfl) rfl ?_
  refine RunL.nil ?_
  refine Run.condNT rfl (by first | omega | assumption) ?_
  refine Run.seq ?_
  refine Run.region ?_
  refine RunL.ok (OpOk.build rfl (fun w => run_build w 86 _ _ (by rfl))) rfl ?_
  refine RunL.storeAll ti86 rfl rfl rfl (ones rfl) (frl (frl (frl (frl rfl)))) rfl ?_
  refine RunL.ok (OpOk.assign rfl) rfl ?_
  refine RunL.nil ?_
  refine Run.retC2 (A' := _) Try.func57 rfl rfl rfl ti86 rfl rfl Blk.pts rfl (Grew.refl _) ?_
  exact ⟨_, rfl, (asg (asg (asg (asg (asg as1)))))⟩
theorem s57b (rd : Rd w0 A (.slice ad m cap) 4 m (Fl encT111 es)) (rdb : Rd w0 A u 1 n (B bs)) (hr : rightP (k, o, i, freeE es)) (hn : 64 < n) :
    Spec Try.prog w0 57 [.pointer (some ⟨p, 0, none⟩), .agg #[.int .i64 a, .int .i64 b, .int .i64 q, .int .i64 c, .slice ad m cap], .agg #[.int .i64 k, .int .i64 o, .int .i64 i, .int .i64 s], u] A (fun v' A' => ∃ J, v' = .tuple #[.agg #[.int .i64 0, .int .i64 0, .int .i64 0, .int .i64 0, .slice none 0 0], .int .i64 11] ∧ A' = A * J) := by
  refine Spec.of_run [(0, .pointer (some ⟨p, 0, none⟩)), (1, .agg #[.int .i64 a, .int .i64 b, .int .i64 q, .int .i64 c, .slice ad m cap]), (2, .agg #[.int .i64 k, .int .i64 o, .int .i64 i, .int .i64 s]), (3, u)] Try.func57 rfl (Nat.le_of_ble_eq_true rfl) (by repeat (first | exact trivial | refine ⟨rfl, ?_⟩)) ?_
  refine Run.seq ?_
  refine Run.region ?_
  refine RunL.box rfl rfl (fun bx1 => ?_)
  refine RunL.box rfl rfl (fun bx2 => ?_)
  refine RunL.alloc ti86 rfl (fun bx3 => ?_)
  refine RunL.ok (OpOk.assign rfl) rfl ?_
  refine RunL.nil ?_
  refine Run.seq ?_
  refine Run.region ?_
  refine RunL.ok (OpOk.loadS rfl rfl ti86 rfl Blk.pts.left.left rfl) rfl ?_
  refine RunL.ok (OpOk.fieldAddr fld111_1 rfl) rfl ?_
  refine RunL.ok (OpOk.load rfl rfl rfl (Blk.out Blk.pts.left _ _ (by first | rfl | assumption))) rfl ?_
  refine RunL.ok (OpOk.fieldAddr fld111_2 rfl) rfl ?_
  refine RunL.ok (OpOk.load rfl rfl rfl (Blk.out Blk.pts.left _ _ (by first | rfl | assumption))) rfl ?_
  refine RunL.call cal45 rfl (s45 rd.left.left.left) rfl (fun vx4 Ax4 hx4 => ?_)
  obtain ⟨x5, ⟨rfl, rfl⟩⟩ := hx4
  refine RunL.ok (OpOk.assign rfl) rfl ?_
  refine RunL.nil ?_
  refine Run.seq ?_
  refine Run.region ?_
  refine RunL.ok (OpOk.loadS rfl rfl ti86 rfl Blk.pts.left.left.left rfl) rfl ?_
  refine RunL.call cal47 rfl (s47 rd.left.left.left.left) rfl (fun vx6 Ax6 hx6 => ?_)
  obtain ⟨x7, ⟨rfl, rfl⟩⟩ := hx6
  refine RunL.ok (OpOk.fieldAddr fld111_3 rfl) rfl ?_
  refine RunL.store ti3 rfl rfl rfl (frl (frl (frl rfl))) (by exact Nat.le_of_ble_eq_true rfl) (.inl rfl) ?_
  refine RunL.nil ?_
  refine Run.seq ?_
  refine Run.block ?_
  refine Run.seq ?_
  refine Run.region ?_
  refine RunL.ok (OpOk.move rfl) rfl ?_
  refine RunL.ok (OpOk.eqlPN rfl rfl) rfl ?_
  refine RunL.ok (OpOk.move rfl) rfl ?_
  refine RunL.on rfl rfl ?_
  refine RunL.ok (OpOk.loadS rfl rfl ti111 rfl Blk.pts rfl) rfl ?_
  refine RunL.on rfl rfl ?_
  refine RunL.call cal103 rfl (s103) rfl (fun vx8 Ax8 hx8 => ?_)
  obtain ⟨x9, ⟨rfl, rfl⟩⟩ := hx8
  refine RunL.on rfl rfl ?_
  refine RunL.ok (OpOk.not rfl) rfl ?_
  refine RunL.ok (OpOk.pickF rfl rfl) rfl ?_
  refine RunL.ok (OpOk.assign rfl) rfl ?_
  refine RunL.nil ?_
  refine Run.condNF rfl (by first | omega | with_reducible rfl | assumption) ?_
  refine Run.seq ?_
  refine Run.region ?_
  refine RunL.ok (OpOk.move rfl) rfl ?_
  refine RunL.ok (OpOk.lenR rfl rfl rdb.left.left.left.left.left.left rfl) rfl ?_
  refine RunL.ok (OpOk.asT (OpOk.gtr rfl rfl) (by omega)) rfl ?_
  refine RunL.ok (OpOk.assign rfl) rfl ?_
  refine RunL.nil ?_
  refine Run.condT rfl ?_
  refine Run.seq ?_
  refine Run.region ?_
  refine RunL.ok (OpOk.build rfl (fun w => run_build w 86 _ _ (by rfl))) rfl ?_
  refine RunL.storeAll ti86 rfl rfl rfl (ones rfl) (frl (frl (frl (frl rfl)))) rfl ?_
  refine RunL.ok (OpOk.assign rfl) rfl ?_
  refine RunL.nil ?_
  refine Run.retC2 (A' := _) Try.func57 rfl rfl rfl ti86 rfl rfl Blk.pts rfl (Grew.refl _) ?_
  exact ⟨_, rfl, (asg (asg (asg (asg (asg as1)))))⟩
theorem s57c (rd : Rd w0 A (.slice ad m cap) 4 m (Fl encT111 es)) (rdb : Rd w0 A u 1 n (B bs)) (hr : rightP (k, o, i, freeE es)) (hn : n ≤ 64) (hat : atE o i es < 0) (hm : 5 ≤ m) :
    Spec Try.prog w0 57 [.pointer (some ⟨p, 0, none⟩), .agg #[.int .i64 a, .int .i64 b, .int .i64 q, .int .i64 c, .slice ad m cap], .agg #[.int .i64 k, .int .i64 o, .int .i64 i, .int .i64 s], u] A (fun v' A' => ∃ J, v' = .tuple #[.agg #[.int .i64 0, .int .i64 0, .int .i64 0, .int .i64 0, .slice none 0 0], .int .i64 20] ∧ A' = A * J) := by
  refine Spec.of_run [(0, .pointer (some ⟨p, 0, none⟩)), (1, .agg #[.int .i64 a, .int .i64 b, .int .i64 q, .int .i64 c, .slice ad m cap]), (2, .agg #[.int .i64 k, .int .i64 o, .int .i64 i, .int .i64 s]), (3, u)] Try.func57 rfl (Nat.le_of_ble_eq_true rfl) (by repeat (first | exact trivial | refine ⟨rfl, ?_⟩)) ?_
  refine Run.seq ?_
  refine Run.region ?_
  refine RunL.box rfl rfl (fun bx1 => ?_)
  refine RunL.box rfl rfl (fun bx2 => ?_)
  refine RunL.alloc ti86 rfl (fun bx3 => ?_)
  refine RunL.ok (OpOk.assign rfl) rfl ?_
  refine RunL.nil ?_
  refine Run.seq ?_
  refine Run.region ?_
  refine RunL.ok (OpOk.loadS rfl rfl ti86 rfl Blk.pts.left.left rfl) rfl ?_
  refine RunL.ok (OpOk.fieldAddr fld111_1 rfl) rfl ?_
  refine RunL.ok (OpOk.load rfl rfl rfl (Blk.out Blk.pts.left _ _ (by first | rfl | assumption))) rfl ?_
  refine RunL.ok (OpOk.fieldAddr fld111_2 rfl) rfl ?_
  refine RunL.ok (OpOk.load rfl rfl rfl (Blk.out Blk.pts.left _ _ (by first | rfl | assumption))) rfl ?_
  refine RunL.call cal45 rfl (s45 rd.left.left.left) rfl (fun vx4 Ax4 hx4 => ?_)
  obtain ⟨x5, ⟨rfl, rfl⟩⟩ := hx4
  refine RunL.ok (OpOk.assign rfl) rfl ?_
  refine RunL.nil ?_
  refine Run.seq ?_
  refine Run.region ?_
  refine RunL.ok (OpOk.loadS rfl rfl ti86 rfl Blk.pts.left.left.left rfl) rfl ?_
  refine RunL.call cal47 rfl (s47 rd.left.left.left.left) rfl (fun vx6 Ax6 hx6 => ?_)
  obtain ⟨x7, ⟨rfl, rfl⟩⟩ := hx6
  refine RunL.ok (OpOk.fieldAddr fld111_3 rfl) rfl ?_
  refine RunL.store ti3 rfl rfl rfl (frl (frl (frl rfl))) (by exact Nat.le_of_ble_eq_true rfl) (.inl rfl) ?_
  refine RunL.nil ?_
  refine Run.seq ?_
  refine Run.block ?_
  refine Run.seq ?_
  refine Run.region ?_
  refine RunL.ok (OpOk.move rfl) rfl ?_
  refine RunL.ok (OpOk.eqlPN rfl rfl) rfl ?_
  refine RunL.ok (OpOk.move rfl) rfl ?_
  refine RunL.on rfl rfl ?_
  refine RunL.ok (OpOk.loadS rfl rfl ti111 rfl Blk.pts rfl) rfl ?_
  refine RunL.on rfl rfl ?_
  refine RunL.call cal103 rfl (s103) rfl (fun vx8 Ax8 hx8 => ?_)
  obtain ⟨x9, ⟨rfl, rfl⟩⟩ := hx8
  refine RunL.on rfl rfl ?_
  refine RunL.ok (OpOk.not rfl) rfl ?_
  refine RunL.ok (OpOk.pickF rfl rfl) rfl ?_
  refine RunL.ok (OpOk.assign rfl) rfl ?_
  refine RunL.nil ?_
  refine Run.condNF rfl (by first | omega | with_reducible rfl | assumption) ?_
  refine Run.seq ?_
  refine Run.region ?_
  refine RunL.ok (OpOk.move rfl) rfl ?_
  refine RunL.ok (OpOk.lenR rfl rfl rdb.left.left.left.left.left.left rfl) rfl ?_
  refine RunL.ok (OpOk.asF (OpOk.gtr rfl rfl) (by omega)) rfl ?_
  refine RunL.ok (OpOk.assign rfl) rfl ?_
  refine RunL.nil ?_
  refine Run.condF rfl ?_
  refine Run.seq ?_
  refine Run.region ?_
  refine RunL.ok (OpOk.move rfl) rfl ?_
  refine RunL.ok (OpOk.asT (OpOk.lss rfl rfl) (by omega)) rfl ?_
  refine RunL.ok (OpOk.move rfl) rfl ?_
  refine RunL.on rfl rfl ?_
  refine RunL.ok (OpOk.fieldAddr fld86_4 rfl) rfl ?_
  refine RunL.on rfl rfl ?_
  refine RunL.ok (OpOk.load rfl rfl rfl (Blk.out Blk.pts.left.left.left.left.left _ _ (by first | rfl | assumption))) rfl ?_
  refine RunL.on rfl rfl ?_
  refine RunL.ok (OpOk.lenV rfl rfl rfl) rfl ?_
  refine RunL.on rfl rfl ?_
  refine RunL.ok (OpOk.asT (OpOk.geq rfl rfl) (by omega)) rfl ?_
  refine RunL.ok (OpOk.pickT rfl rfl) rfl ?_
  refine RunL.ok (OpOk.assign rfl) rfl ?_
  refine RunL.nil ?_
  refine Run.condT rfl ?_
  refine Run.seq ?_
  refine Run.region ?_
  refine RunL.ok (OpOk.build rfl (fun w => run_build w 86 _ _ (by rfl))) rfl ?_
  refine RunL.storeAll ti86 rfl rfl rfl (ones rfl) (frl (frl (frl (frl rfl)))) rfl ?_
  refine RunL.ok (OpOk.assign rfl) rfl ?_
  refine RunL.nil ?_
  refine Run.retC2 (A' := _) Try.func57 rfl rfl rfl ti86 rfl rfl Blk.pts rfl (Grew.refl _) ?_
  exact ⟨_, rfl, (asg (asg (asg (asg (asg as1)))))⟩
/-- There's room: the product is there, or less than five are. -/
def roomP (o i : Int) (es : List En) : Prop := 0 ≤ atE o i es ∨ es.length < 5
theorem s57d (rd : Rd w0 A (.slice ad m cap) 4 m (Fl encT111 es)) (rdb : Rd w0 A u 1 n (B bs)) (hr : rightP (k, o, i, freeE es)) (hn : n ≤ 64) (hroom : roomP o i es) (hq : 65535 ≤ q) :
    Spec Try.prog w0 57 [.pointer (some ⟨p, 0, none⟩), .agg #[.int .i64 a, .int .i64 b, .int .i64 q, .int .i64 c, .slice ad m cap], .agg #[.int .i64 k, .int .i64 o, .int .i64 i, .int .i64 s], u] A (fun v' A' => ∃ J, v' = .tuple #[.agg #[.int .i64 0, .int .i64 0, .int .i64 0, .int .i64 0, .slice none 0 0], .int .i64 29] ∧ A' = A * J) := by
  have hl0 := rd.lenFl (fun _ => rfl) (by decide)
  subst hl0
  refine Spec.of_run [(0, .pointer (some ⟨p, 0, none⟩)), (1, .agg #[.int .i64 a, .int .i64 b, .int .i64 q, .int .i64 c, .slice ad es.length cap]), (2, .agg #[.int .i64 k, .int .i64 o, .int .i64 i, .int .i64 s]), (3, u)] Try.func57 rfl (Nat.le_of_ble_eq_true rfl) (by repeat (first | exact trivial | refine ⟨rfl, ?_⟩)) ?_
  rcases hroom with hroom | hroom
  · refine Run.seq ?_
    refine Run.region ?_
    refine RunL.box rfl rfl (fun bx1 => ?_)
    refine RunL.box rfl rfl (fun bx2 => ?_)
    refine RunL.alloc ti86 rfl (fun bx3 => ?_)
    refine RunL.ok (OpOk.assign rfl) rfl ?_
    refine RunL.nil ?_
    refine Run.seq ?_
    refine Run.region ?_
    refine RunL.ok (OpOk.loadS rfl rfl ti86 rfl Blk.pts.left.left rfl) rfl ?_
    refine RunL.ok (OpOk.fieldAddr fld111_1 rfl) rfl ?_
    refine RunL.ok (OpOk.load rfl rfl rfl (Blk.out Blk.pts.left _ _ (by first | rfl | assumption))) rfl ?_
    refine RunL.ok (OpOk.fieldAddr fld111_2 rfl) rfl ?_
    refine RunL.ok (OpOk.load rfl rfl rfl (Blk.out Blk.pts.left _ _ (by first | rfl | assumption))) rfl ?_
    refine RunL.call cal45 rfl (s45 rd.left.left.left) rfl (fun vx4 Ax4 hx4 => ?_)
    obtain ⟨x5, ⟨rfl, rfl⟩⟩ := hx4
    refine RunL.ok (OpOk.assign rfl) rfl ?_
    refine RunL.nil ?_
    refine Run.seq ?_
    refine Run.region ?_
    refine RunL.ok (OpOk.loadS rfl rfl ti86 rfl Blk.pts.left.left.left rfl) rfl ?_
    refine RunL.call cal47 rfl (s47 rd.left.left.left.left) rfl (fun vx6 Ax6 hx6 => ?_)
    obtain ⟨x7, ⟨rfl, rfl⟩⟩ := hx6
    refine RunL.ok (OpOk.fieldAddr fld111_3 rfl) rfl ?_
    refine RunL.store ti3 rfl rfl rfl (frl (frl (frl rfl))) (by exact Nat.le_of_ble_eq_true rfl) (.inl rfl) ?_
    refine RunL.nil ?_
    refine Run.seq ?_
    refine Run.block ?_
    refine Run.seq ?_
    refine Run.region ?_
    refine RunL.ok (OpOk.move rfl) rfl ?_
    refine RunL.ok (OpOk.eqlPN rfl rfl) rfl ?_
    refine RunL.ok (OpOk.move rfl) rfl ?_
    refine RunL.on rfl rfl ?_
    refine RunL.ok (OpOk.loadS rfl rfl ti111 rfl Blk.pts rfl) rfl ?_
    refine RunL.on rfl rfl ?_
    refine RunL.call cal103 rfl (s103) rfl (fun vx8 Ax8 hx8 => ?_)
    obtain ⟨x9, ⟨rfl, rfl⟩⟩ := hx8
    refine RunL.on rfl rfl ?_
    refine RunL.ok (OpOk.not rfl) rfl ?_
    refine RunL.ok (OpOk.pickF rfl rfl) rfl ?_
    refine RunL.ok (OpOk.assign rfl) rfl ?_
    refine RunL.nil ?_
    refine Run.condNF rfl (by first | omega | with_reducible rfl | assumption) ?_
    refine Run.seq ?_
    refine Run.region ?_
    refine RunL.ok (OpOk.move rfl) rfl ?_
    refine RunL.ok (OpOk.lenR rfl rfl rdb.left.left.left.left.left.left rfl) rfl ?_
    refine RunL.ok (OpOk.asF (OpOk.gtr rfl rfl) (by omega)) rfl ?_
    refine RunL.ok (OpOk.assign rfl) rfl ?_
    refine RunL.nil ?_
    refine Run.condF rfl ?_
    refine Run.seq ?_
    refine Run.region ?_
    refine RunL.ok (OpOk.move rfl) rfl ?_
    refine RunL.ok (OpOk.asF (OpOk.lss rfl rfl) (by omega)) rfl ?_
    refine RunL.ok (OpOk.move rfl) rfl ?_
    refine RunL.off rfl rfl rfl rfl ?_
    refine RunL.off rfl rfl rfl rfl ?_
    refine RunL.off rfl rfl rfl rfl ?_
    refine RunL.off rfl rfl rfl rfl ?_
    refine RunL.ok (OpOk.pickF rfl rfl) rfl ?_
    refine RunL.ok (OpOk.assign rfl) rfl ?_
    refine RunL.nil ?_
    refine Run.condF rfl ?_
    refine Run.seq ?_
    refine Run.region ?_
    refine RunL.ok (OpOk.fieldAddr fld86_2 rfl) rfl ?_
    refine RunL.ok (OpOk.load rfl rfl rfl (Blk.out Blk.pts.left.left.left.left.left _ _ (by first | rfl | assumption))) rfl ?_
    refine RunL.ok (OpOk.asT (OpOk.geq rfl rfl) (by omega)) rfl ?_
    refine RunL.ok (OpOk.assign rfl) rfl ?_
    refine RunL.nil ?_
    refine Run.condT rfl ?_
    refine Run.seq ?_
    refine Run.region ?_
    refine RunL.ok (OpOk.build rfl (fun w => run_build w 86 _ _ (by rfl))) rfl ?_
    refine RunL.storeAll ti86 rfl rfl rfl (ones rfl) (frl (frl (frl (frl rfl)))) rfl ?_
    refine RunL.ok (OpOk.assign rfl) rfl ?_
    refine RunL.nil ?_
    refine Run.retC2 (A' := _) Try.func57 rfl rfl rfl ti86 rfl rfl Blk.pts rfl (Grew.refl _) ?_
    exact ⟨_, rfl, (asg (asg (asg (asg (asg as1)))))⟩
  · rcases Int.lt_or_le (atE o i es) 0 with hat | hat
    · refine Run.seq ?_
      refine Run.region ?_
      refine RunL.box rfl rfl (fun bx1 => ?_)
      refine RunL.box rfl rfl (fun bx2 => ?_)
      refine RunL.alloc ti86 rfl (fun bx3 => ?_)
      refine RunL.ok (OpOk.assign rfl) rfl ?_
      refine RunL.nil ?_
      refine Run.seq ?_
      refine Run.region ?_
      refine RunL.ok (OpOk.loadS rfl rfl ti86 rfl Blk.pts.left.left rfl) rfl ?_
      refine RunL.ok (OpOk.fieldAddr fld111_1 rfl) rfl ?_
      refine RunL.ok (OpOk.load rfl rfl rfl (Blk.out Blk.pts.left _ _ (by first | rfl | assumption))) rfl ?_
      refine RunL.ok (OpOk.fieldAddr fld111_2 rfl) rfl ?_
      refine RunL.ok (OpOk.load rfl rfl rfl (Blk.out Blk.pts.left _ _ (by first | rfl | assumption))) rfl ?_
      refine RunL.call cal45 rfl (s45 rd.left.left.left) rfl (fun vx4 Ax4 hx4 => ?_)
      obtain ⟨x5, ⟨rfl, rfl⟩⟩ := hx4
      refine RunL.ok (OpOk.assign rfl) rfl ?_
      refine RunL.nil ?_
      refine Run.seq ?_
      refine Run.region ?_
      refine RunL.ok (OpOk.loadS rfl rfl ti86 rfl Blk.pts.left.left.left rfl) rfl ?_
      refine RunL.call cal47 rfl (s47 rd.left.left.left.left) rfl (fun vx6 Ax6 hx6 => ?_)
      obtain ⟨x7, ⟨rfl, rfl⟩⟩ := hx6
      refine RunL.ok (OpOk.fieldAddr fld111_3 rfl) rfl ?_
      refine RunL.store ti3 rfl rfl rfl (frl (frl (frl rfl))) (by exact Nat.le_of_ble_eq_true rfl) (.inl rfl) ?_
      refine RunL.nil ?_
      refine Run.seq ?_
      refine Run.block ?_
      refine Run.seq ?_
      refine Run.region ?_
      refine RunL.ok (OpOk.move rfl) rfl ?_
      refine RunL.ok (OpOk.eqlPN rfl rfl) rfl ?_
      refine RunL.ok (OpOk.move rfl) rfl ?_
      refine RunL.on rfl rfl ?_
      refine RunL.ok (OpOk.loadS rfl rfl ti111 rfl Blk.pts rfl) rfl ?_
      refine RunL.on rfl rfl ?_
      refine RunL.call cal103 rfl (s103) rfl (fun vx8 Ax8 hx8 => ?_)
      obtain ⟨x9, ⟨rfl, rfl⟩⟩ := hx8
      refine RunL.on rfl rfl ?_
      refine RunL.ok (OpOk.not rfl) rfl ?_
      refine RunL.ok (OpOk.pickF rfl rfl) rfl ?_
      refine RunL.ok (OpOk.assign rfl) rfl ?_
      refine RunL.nil ?_
      refine Run.condNF rfl (by first | omega | with_reducible rfl | assumption) ?_
      refine Run.seq ?_
      refine Run.region ?_
      refine RunL.ok (OpOk.move rfl) rfl ?_
      refine RunL.ok (OpOk.lenR rfl rfl rdb.left.left.left.left.left.left rfl) rfl ?_
      refine RunL.ok (OpOk.asF (OpOk.gtr rfl rfl) (by omega)) rfl ?_
      refine RunL.ok (OpOk.assign rfl) rfl ?_
      refine RunL.nil ?_
      refine Run.condF rfl ?_
      refine Run.seq ?_
      refine Run.region ?_
      refine RunL.ok (OpOk.move rfl) rfl ?_
      refine RunL.ok (OpOk.asT (OpOk.lss rfl rfl) (by omega)) rfl ?_
      refine RunL.ok (OpOk.move rfl) rfl ?_
      refine RunL.on rfl rfl ?_
      refine RunL.ok (OpOk.fieldAddr fld86_4 rfl) rfl ?_
      refine RunL.on rfl rfl ?_
      refine RunL.ok (OpOk.load rfl rfl rfl (Blk.out Blk.pts.left.left.left.left.left _ _ (by first | rfl | assumption))) rfl ?_
      refine RunL.on rfl rfl ?_
      refine RunL.ok (OpOk.lenV rfl rfl rfl) rfl ?_
      refine RunL.on rfl rfl ?_
      refine RunL.ok (OpOk.asF (OpOk.geq rfl rfl) (by omega)) rfl ?_
      refine RunL.ok (OpOk.pickT rfl rfl) rfl ?_
      refine RunL.ok (OpOk.assign rfl) rfl ?_
      refine RunL.nil ?_
      refine Run.condF rfl ?_
      refine Run.seq ?_
      refine Run.region ?_
      refine RunL.ok (OpOk.fieldAddr fld86_2 rfl) rfl ?_
      refine RunL.ok (OpOk.load rfl rfl rfl (Blk.out Blk.pts.left.left.left.left.left _ _ (by first | rfl | assumption))) rfl ?_
      refine RunL.ok (OpOk.asT (OpOk.geq rfl rfl) (by omega)) rfl ?_
      refine RunL.ok (OpOk.assign rfl) rfl ?_
      refine RunL.nil ?_
      refine Run.condT rfl ?_
      refine Run.seq ?_
      refine Run.region ?_
      refine RunL.ok (OpOk.build rfl (fun w => run_build w 86 _ _ (by rfl))) rfl ?_
      refine RunL.storeAll ti86 rfl rfl rfl (ones rfl) (frl (frl (frl (frl rfl)))) rfl ?_
      refine RunL.ok (OpOk.assign rfl) rfl ?_
      refine RunL.nil ?_
      refine Run.retC2 (A' := _) Try.func57 rfl rfl rfl ti86 rfl rfl Blk.pts rfl (Grew.refl _) ?_
      exact ⟨_, rfl, (asg (asg (asg (asg (asg as1)))))⟩
    · refine Run.seq ?_
      refine Run.region ?_
      refine RunL.box rfl rfl (fun bx1 => ?_)
      refine RunL.box rfl rfl (fun bx2 => ?_)
      refine RunL.alloc ti86 rfl (fun bx3 => ?_)
      refine RunL.ok (OpOk.assign rfl) rfl ?_
      refine RunL.nil ?_
      refine Run.seq ?_
      refine Run.region ?_
      refine RunL.ok (OpOk.loadS rfl rfl ti86 rfl Blk.pts.left.left rfl) rfl ?_
      refine RunL.ok (OpOk.fieldAddr fld111_1 rfl) rfl ?_
      refine RunL.ok (OpOk.load rfl rfl rfl (Blk.out Blk.pts.left _ _ (by first | rfl | assumption))) rfl ?_
      refine RunL.ok (OpOk.fieldAddr fld111_2 rfl) rfl ?_
      refine RunL.ok (OpOk.load rfl rfl rfl (Blk.out Blk.pts.left _ _ (by first | rfl | assumption))) rfl ?_
      refine RunL.call cal45 rfl (s45 rd.left.left.left) rfl (fun vx4 Ax4 hx4 => ?_)
      obtain ⟨x5, ⟨rfl, rfl⟩⟩ := hx4
      refine RunL.ok (OpOk.assign rfl) rfl ?_
      refine RunL.nil ?_
      refine Run.seq ?_
      refine Run.region ?_
      refine RunL.ok (OpOk.loadS rfl rfl ti86 rfl Blk.pts.left.left.left rfl) rfl ?_
      refine RunL.call cal47 rfl (s47 rd.left.left.left.left) rfl (fun vx6 Ax6 hx6 => ?_)
      obtain ⟨x7, ⟨rfl, rfl⟩⟩ := hx6
      refine RunL.ok (OpOk.fieldAddr fld111_3 rfl) rfl ?_
      refine RunL.store ti3 rfl rfl rfl (frl (frl (frl rfl))) (by exact Nat.le_of_ble_eq_true rfl) (.inl rfl) ?_
      refine RunL.nil ?_
      refine Run.seq ?_
      refine Run.block ?_
      refine Run.seq ?_
      refine Run.region ?_
      refine RunL.ok (OpOk.move rfl) rfl ?_
      refine RunL.ok (OpOk.eqlPN rfl rfl) rfl ?_
      refine RunL.ok (OpOk.move rfl) rfl ?_
      refine RunL.on rfl rfl ?_
      refine RunL.ok (OpOk.loadS rfl rfl ti111 rfl Blk.pts rfl) rfl ?_
      refine RunL.on rfl rfl ?_
      refine RunL.call cal103 rfl (s103) rfl (fun vx8 Ax8 hx8 => ?_)
      obtain ⟨x9, ⟨rfl, rfl⟩⟩ := hx8
      refine RunL.on rfl rfl ?_
      refine RunL.ok (OpOk.not rfl) rfl ?_
      refine RunL.ok (OpOk.pickF rfl rfl) rfl ?_
      refine RunL.ok (OpOk.assign rfl) rfl ?_
      refine RunL.nil ?_
      refine Run.condNF rfl (by first | omega | with_reducible rfl | assumption) ?_
      refine Run.seq ?_
      refine Run.region ?_
      refine RunL.ok (OpOk.move rfl) rfl ?_
      refine RunL.ok (OpOk.lenR rfl rfl rdb.left.left.left.left.left.left rfl) rfl ?_
      refine RunL.ok (OpOk.asF (OpOk.gtr rfl rfl) (by omega)) rfl ?_
      refine RunL.ok (OpOk.assign rfl) rfl ?_
      refine RunL.nil ?_
      refine Run.condF rfl ?_
      refine Run.seq ?_
      refine Run.region ?_
      refine RunL.ok (OpOk.move rfl) rfl ?_
      refine RunL.ok (OpOk.asF (OpOk.lss rfl rfl) (by omega)) rfl ?_
      refine RunL.ok (OpOk.move rfl) rfl ?_
      refine RunL.off rfl rfl rfl rfl ?_
      refine RunL.off rfl rfl rfl rfl ?_
      refine RunL.off rfl rfl rfl rfl ?_
      refine RunL.off rfl rfl rfl rfl ?_
      refine RunL.ok (OpOk.pickF rfl rfl) rfl ?_
      refine RunL.ok (OpOk.assign rfl) rfl ?_
      refine RunL.nil ?_
      refine Run.condF rfl ?_
      refine Run.seq ?_
      refine Run.region ?_
      refine RunL.ok (OpOk.fieldAddr fld86_2 rfl) rfl ?_
      refine RunL.ok (OpOk.load rfl rfl rfl (Blk.out Blk.pts.left.left.left.left.left _ _ (by first | rfl | assumption))) rfl ?_
      refine RunL.ok (OpOk.asT (OpOk.geq rfl rfl) (by omega)) rfl ?_
      refine RunL.ok (OpOk.assign rfl) rfl ?_
      refine RunL.nil ?_
      refine Run.condT rfl ?_
      refine Run.seq ?_
      refine Run.region ?_
      refine RunL.ok (OpOk.build rfl (fun w => run_build w 86 _ _ (by rfl))) rfl ?_
      refine RunL.storeAll ti86 rfl rfl rfl (ones rfl) (frl (frl (frl (frl rfl)))) rfl ?_
      refine RunL.ok (OpOk.assign rfl) rfl ?_
      refine RunL.nil ?_
      refine Run.retC2 (A' := _) Try.func57 rfl rfl rfl ti86 rfl rfl Blk.pts rfl (Grew.refl _) ?_
      exact ⟨_, rfl, (asg (asg (asg (asg (asg as1)))))⟩
theorem s57e (rd : Rd w0 A (.slice ad m cap) 4 m (Fl encT111 es)) (rdb : Rd w0 A u 1 n (B bs)) (hr : rightP (k, o, i, freeE es)) (hn : n ≤ 64) (hroom : roomP o i es) (hq : q < 65535) (hf : freeE es < 0) :
    Spec Try.prog w0 57 [.pointer (some ⟨p, 0, none⟩), .agg #[.int .i64 a, .int .i64 b, .int .i64 q, .int .i64 c, .slice ad m cap], .agg #[.int .i64 k, .int .i64 o, .int .i64 i, .int .i64 s], u] A (fun v' A' => ∃ J, v' = .tuple #[.agg #[.int .i64 0, .int .i64 0, .int .i64 0, .int .i64 0, .slice none 0 0], .int .i64 21] ∧ A' = A * J) := by
  have hl0 := rd.lenFl (fun _ => rfl) (by decide)
  subst hl0
  refine Spec.of_run [(0, .pointer (some ⟨p, 0, none⟩)), (1, .agg #[.int .i64 a, .int .i64 b, .int .i64 q, .int .i64 c, .slice ad es.length cap]), (2, .agg #[.int .i64 k, .int .i64 o, .int .i64 i, .int .i64 s]), (3, u)] Try.func57 rfl (Nat.le_of_ble_eq_true rfl) (by repeat (first | exact trivial | refine ⟨rfl, ?_⟩)) ?_
  rcases hroom with hroom | hroom
  · refine Run.seq ?_
    refine Run.region ?_
    refine RunL.box rfl rfl (fun bx1 => ?_)
    refine RunL.box rfl rfl (fun bx2 => ?_)
    refine RunL.alloc ti86 rfl (fun bx3 => ?_)
    refine RunL.ok (OpOk.assign rfl) rfl ?_
    refine RunL.nil ?_
    refine Run.seq ?_
    refine Run.region ?_
    refine RunL.ok (OpOk.loadS rfl rfl ti86 rfl Blk.pts.left.left rfl) rfl ?_
    refine RunL.ok (OpOk.fieldAddr fld111_1 rfl) rfl ?_
    refine RunL.ok (OpOk.load rfl rfl rfl (Blk.out Blk.pts.left _ _ (by first | rfl | assumption))) rfl ?_
    refine RunL.ok (OpOk.fieldAddr fld111_2 rfl) rfl ?_
    refine RunL.ok (OpOk.load rfl rfl rfl (Blk.out Blk.pts.left _ _ (by first | rfl | assumption))) rfl ?_
    refine RunL.call cal45 rfl (s45 rd.left.left.left) rfl (fun vx4 Ax4 hx4 => ?_)
    obtain ⟨x5, ⟨rfl, rfl⟩⟩ := hx4
    refine RunL.ok (OpOk.assign rfl) rfl ?_
    refine RunL.nil ?_
    refine Run.seq ?_
    refine Run.region ?_
    refine RunL.ok (OpOk.loadS rfl rfl ti86 rfl Blk.pts.left.left.left rfl) rfl ?_
    refine RunL.call cal47 rfl (s47 rd.left.left.left.left) rfl (fun vx6 Ax6 hx6 => ?_)
    obtain ⟨x7, ⟨rfl, rfl⟩⟩ := hx6
    refine RunL.ok (OpOk.fieldAddr fld111_3 rfl) rfl ?_
    refine RunL.store ti3 rfl rfl rfl (frl (frl (frl rfl))) (by exact Nat.le_of_ble_eq_true rfl) (.inl rfl) ?_
    refine RunL.nil ?_
    refine Run.seq ?_
    refine Run.block ?_
    refine Run.seq ?_
    refine Run.region ?_
    refine RunL.ok (OpOk.move rfl) rfl ?_
    refine RunL.ok (OpOk.eqlPN rfl rfl) rfl ?_
    refine RunL.ok (OpOk.move rfl) rfl ?_
    refine RunL.on rfl rfl ?_
    refine RunL.ok (OpOk.loadS rfl rfl ti111 rfl Blk.pts rfl) rfl ?_
    refine RunL.on rfl rfl ?_
    refine RunL.call cal103 rfl (s103) rfl (fun vx8 Ax8 hx8 => ?_)
    obtain ⟨x9, ⟨rfl, rfl⟩⟩ := hx8
    refine RunL.on rfl rfl ?_
    refine RunL.ok (OpOk.not rfl) rfl ?_
    refine RunL.ok (OpOk.pickF rfl rfl) rfl ?_
    refine RunL.ok (OpOk.assign rfl) rfl ?_
    refine RunL.nil ?_
    refine Run.condNF rfl (by first | omega | with_reducible rfl | assumption) ?_
    refine Run.seq ?_
    refine Run.region ?_
    refine RunL.ok (OpOk.move rfl) rfl ?_
    refine RunL.ok (OpOk.lenR rfl rfl rdb.left.left.left.left.left.left rfl) rfl ?_
    refine RunL.ok (OpOk.asF (OpOk.gtr rfl rfl) (by omega)) rfl ?_
    refine RunL.ok (OpOk.assign rfl) rfl ?_
    refine RunL.nil ?_
    refine Run.condF rfl ?_
    refine Run.seq ?_
    refine Run.region ?_
    refine RunL.ok (OpOk.move rfl) rfl ?_
    refine RunL.ok (OpOk.asF (OpOk.lss rfl rfl) (by omega)) rfl ?_
    refine RunL.ok (OpOk.move rfl) rfl ?_
    refine RunL.off rfl rfl rfl rfl ?_
    refine RunL.off rfl rfl rfl rfl ?_
    refine RunL.off rfl rfl rfl rfl ?_
    refine RunL.off rfl rfl rfl rfl ?_
    refine RunL.ok (OpOk.pickF rfl rfl) rfl ?_
    refine RunL.ok (OpOk.assign rfl) rfl ?_
    refine RunL.nil ?_
    refine Run.condF rfl ?_
    refine Run.seq ?_
    refine Run.region ?_
    refine RunL.ok (OpOk.fieldAddr fld86_2 rfl) rfl ?_
    refine RunL.ok (OpOk.load rfl rfl rfl (Blk.out Blk.pts.left.left.left.left.left _ _ (by first | rfl | assumption))) rfl ?_
    refine RunL.ok (OpOk.asF (OpOk.geq rfl rfl) (by omega)) rfl ?_
    refine RunL.ok (OpOk.assign rfl) rfl ?_
    refine RunL.nil ?_
    refine Run.condF rfl ?_
    refine Run.seq ?_
    refine Run.region ?_
    refine RunL.ok (OpOk.fieldAddr fld111_3 rfl) rfl ?_
    refine RunL.ok (OpOk.load rfl rfl rfl (Blk.out Blk.pts.left _ _ (by first | rfl | assumption))) rfl ?_
    refine RunL.ok (OpOk.asT (OpOk.lss rfl rfl) (by omega)) rfl ?_
    refine RunL.ok (OpOk.assign rfl) rfl ?_
    refine RunL.nil ?_
    refine Run.condT rfl ?_
    refine Run.seq ?_
    refine Run.region ?_
    refine RunL.ok (OpOk.build rfl (fun w => run_build w 86 _ _ (by rfl))) rfl ?_
    refine RunL.storeAll ti86 rfl rfl rfl (ones rfl) (frl (frl (frl (frl rfl)))) rfl ?_
    refine RunL.ok (OpOk.assign rfl) rfl ?_
    refine RunL.nil ?_
    refine Run.retC2 (A' := _) Try.func57 rfl rfl rfl ti86 rfl rfl Blk.pts rfl (Grew.refl _) ?_
    exact ⟨_, rfl, (asg (asg (asg (asg (asg as1)))))⟩
  · rcases Int.lt_or_le (atE o i es) 0 with hat | hat
    · refine Run.seq ?_
      refine Run.region ?_
      refine RunL.box rfl rfl (fun bx1 => ?_)
      refine RunL.box rfl rfl (fun bx2 => ?_)
      refine RunL.alloc ti86 rfl (fun bx3 => ?_)
      refine RunL.ok (OpOk.assign rfl) rfl ?_
      refine RunL.nil ?_
      refine Run.seq ?_
      refine Run.region ?_
      refine RunL.ok (OpOk.loadS rfl rfl ti86 rfl Blk.pts.left.left rfl) rfl ?_
      refine RunL.ok (OpOk.fieldAddr fld111_1 rfl) rfl ?_
      refine RunL.ok (OpOk.load rfl rfl rfl (Blk.out Blk.pts.left _ _ (by first | rfl | assumption))) rfl ?_
      refine RunL.ok (OpOk.fieldAddr fld111_2 rfl) rfl ?_
      refine RunL.ok (OpOk.load rfl rfl rfl (Blk.out Blk.pts.left _ _ (by first | rfl | assumption))) rfl ?_
      refine RunL.call cal45 rfl (s45 rd.left.left.left) rfl (fun vx4 Ax4 hx4 => ?_)
      obtain ⟨x5, ⟨rfl, rfl⟩⟩ := hx4
      refine RunL.ok (OpOk.assign rfl) rfl ?_
      refine RunL.nil ?_
      refine Run.seq ?_
      refine Run.region ?_
      refine RunL.ok (OpOk.loadS rfl rfl ti86 rfl Blk.pts.left.left.left rfl) rfl ?_
      refine RunL.call cal47 rfl (s47 rd.left.left.left.left) rfl (fun vx6 Ax6 hx6 => ?_)
      obtain ⟨x7, ⟨rfl, rfl⟩⟩ := hx6
      refine RunL.ok (OpOk.fieldAddr fld111_3 rfl) rfl ?_
      refine RunL.store ti3 rfl rfl rfl (frl (frl (frl rfl))) (by exact Nat.le_of_ble_eq_true rfl) (.inl rfl) ?_
      refine RunL.nil ?_
      refine Run.seq ?_
      refine Run.block ?_
      refine Run.seq ?_
      refine Run.region ?_
      refine RunL.ok (OpOk.move rfl) rfl ?_
      refine RunL.ok (OpOk.eqlPN rfl rfl) rfl ?_
      refine RunL.ok (OpOk.move rfl) rfl ?_
      refine RunL.on rfl rfl ?_
      refine RunL.ok (OpOk.loadS rfl rfl ti111 rfl Blk.pts rfl) rfl ?_
      refine RunL.on rfl rfl ?_
      refine RunL.call cal103 rfl (s103) rfl (fun vx8 Ax8 hx8 => ?_)
      obtain ⟨x9, ⟨rfl, rfl⟩⟩ := hx8
      refine RunL.on rfl rfl ?_
      refine RunL.ok (OpOk.not rfl) rfl ?_
      refine RunL.ok (OpOk.pickF rfl rfl) rfl ?_
      refine RunL.ok (OpOk.assign rfl) rfl ?_
      refine RunL.nil ?_
      refine Run.condNF rfl (by first | omega | with_reducible rfl | assumption) ?_
      refine Run.seq ?_
      refine Run.region ?_
      refine RunL.ok (OpOk.move rfl) rfl ?_
      refine RunL.ok (OpOk.lenR rfl rfl rdb.left.left.left.left.left.left rfl) rfl ?_
      refine RunL.ok (OpOk.asF (OpOk.gtr rfl rfl) (by omega)) rfl ?_
      refine RunL.ok (OpOk.assign rfl) rfl ?_
      refine RunL.nil ?_
      refine Run.condF rfl ?_
      refine Run.seq ?_
      refine Run.region ?_
      refine RunL.ok (OpOk.move rfl) rfl ?_
      refine RunL.ok (OpOk.asT (OpOk.lss rfl rfl) (by omega)) rfl ?_
      refine RunL.ok (OpOk.move rfl) rfl ?_
      refine RunL.on rfl rfl ?_
      refine RunL.ok (OpOk.fieldAddr fld86_4 rfl) rfl ?_
      refine RunL.on rfl rfl ?_
      refine RunL.ok (OpOk.load rfl rfl rfl (Blk.out Blk.pts.left.left.left.left.left _ _ (by first | rfl | assumption))) rfl ?_
      refine RunL.on rfl rfl ?_
      refine RunL.ok (OpOk.lenV rfl rfl rfl) rfl ?_
      refine RunL.on rfl rfl ?_
      refine RunL.ok (OpOk.asF (OpOk.geq rfl rfl) (by omega)) rfl ?_
      refine RunL.ok (OpOk.pickT rfl rfl) rfl ?_
      refine RunL.ok (OpOk.assign rfl) rfl ?_
      refine RunL.nil ?_
      refine Run.condF rfl ?_
      refine Run.seq ?_
      refine Run.region ?_
      refine RunL.ok (OpOk.fieldAddr fld86_2 rfl) rfl ?_
      refine RunL.ok (OpOk.load rfl rfl rfl (Blk.out Blk.pts.left.left.left.left.left _ _ (by first | rfl | assumption))) rfl ?_
      refine RunL.ok (OpOk.asF (OpOk.geq rfl rfl) (by omega)) rfl ?_
      refine RunL.ok (OpOk.assign rfl) rfl ?_
      refine RunL.nil ?_
      refine Run.condF rfl ?_
      refine Run.seq ?_
      refine Run.region ?_
      refine RunL.ok (OpOk.fieldAddr fld111_3 rfl) rfl ?_
      refine RunL.ok (OpOk.load rfl rfl rfl (Blk.out Blk.pts.left _ _ (by first | rfl | assumption))) rfl ?_
      refine RunL.ok (OpOk.asT (OpOk.lss rfl rfl) (by omega)) rfl ?_
      refine RunL.ok (OpOk.assign rfl) rfl ?_
      refine RunL.nil ?_
      refine Run.condT rfl ?_
      refine Run.seq ?_
      refine Run.region ?_
      refine RunL.ok (OpOk.build rfl (fun w => run_build w 86 _ _ (by rfl))) rfl ?_
      refine RunL.storeAll ti86 rfl rfl rfl (ones rfl) (frl (frl (frl (frl rfl)))) rfl ?_
      refine RunL.ok (OpOk.assign rfl) rfl ?_
      refine RunL.nil ?_
      refine Run.retC2 (A' := _) Try.func57 rfl rfl rfl ti86 rfl rfl Blk.pts rfl (Grew.refl _) ?_
      exact ⟨_, rfl, (asg (asg (asg (asg (asg as1)))))⟩
    · refine Run.seq ?_
      refine Run.region ?_
      refine RunL.box rfl rfl (fun bx1 => ?_)
      refine RunL.box rfl rfl (fun bx2 => ?_)
      refine RunL.alloc ti86 rfl (fun bx3 => ?_)
      refine RunL.ok (OpOk.assign rfl) rfl ?_
      refine RunL.nil ?_
      refine Run.seq ?_
      refine Run.region ?_
      refine RunL.ok (OpOk.loadS rfl rfl ti86 rfl Blk.pts.left.left rfl) rfl ?_
      refine RunL.ok (OpOk.fieldAddr fld111_1 rfl) rfl ?_
      refine RunL.ok (OpOk.load rfl rfl rfl (Blk.out Blk.pts.left _ _ (by first | rfl | assumption))) rfl ?_
      refine RunL.ok (OpOk.fieldAddr fld111_2 rfl) rfl ?_
      refine RunL.ok (OpOk.load rfl rfl rfl (Blk.out Blk.pts.left _ _ (by first | rfl | assumption))) rfl ?_
      refine RunL.call cal45 rfl (s45 rd.left.left.left) rfl (fun vx4 Ax4 hx4 => ?_)
      obtain ⟨x5, ⟨rfl, rfl⟩⟩ := hx4
      refine RunL.ok (OpOk.assign rfl) rfl ?_
      refine RunL.nil ?_
      refine Run.seq ?_
      refine Run.region ?_
      refine RunL.ok (OpOk.loadS rfl rfl ti86 rfl Blk.pts.left.left.left rfl) rfl ?_
      refine RunL.call cal47 rfl (s47 rd.left.left.left.left) rfl (fun vx6 Ax6 hx6 => ?_)
      obtain ⟨x7, ⟨rfl, rfl⟩⟩ := hx6
      refine RunL.ok (OpOk.fieldAddr fld111_3 rfl) rfl ?_
      refine RunL.store ti3 rfl rfl rfl (frl (frl (frl rfl))) (by exact Nat.le_of_ble_eq_true rfl) (.inl rfl) ?_
      refine RunL.nil ?_
      refine Run.seq ?_
      refine Run.block ?_
      refine Run.seq ?_
      refine Run.region ?_
      refine RunL.ok (OpOk.move rfl) rfl ?_
      refine RunL.ok (OpOk.eqlPN rfl rfl) rfl ?_
      refine RunL.ok (OpOk.move rfl) rfl ?_
      refine RunL.on rfl rfl ?_
      refine RunL.ok (OpOk.loadS rfl rfl ti111 rfl Blk.pts rfl) rfl ?_
      refine RunL.on rfl rfl ?_
      refine RunL.call cal103 rfl (s103) rfl (fun vx8 Ax8 hx8 => ?_)
      obtain ⟨x9, ⟨rfl, rfl⟩⟩ := hx8
      refine RunL.on rfl rfl ?_
      refine RunL.ok (OpOk.not rfl) rfl ?_
      refine RunL.ok (OpOk.pickF rfl rfl) rfl ?_
      refine RunL.ok (OpOk.assign rfl) rfl ?_
      refine RunL.nil ?_
      refine Run.condNF rfl (by first | omega | with_reducible rfl | assumption) ?_
      refine Run.seq ?_
      refine Run.region ?_
      refine RunL.ok (OpOk.move rfl) rfl ?_
      refine RunL.ok (OpOk.lenR rfl rfl rdb.left.left.left.left.left.left rfl) rfl ?_
      refine RunL.ok (OpOk.asF (OpOk.gtr rfl rfl) (by omega)) rfl ?_
      refine RunL.ok (OpOk.assign rfl) rfl ?_
      refine RunL.nil ?_
      refine Run.condF rfl ?_
      refine Run.seq ?_
      refine Run.region ?_
      refine RunL.ok (OpOk.move rfl) rfl ?_
      refine RunL.ok (OpOk.asF (OpOk.lss rfl rfl) (by omega)) rfl ?_
      refine RunL.ok (OpOk.move rfl) rfl ?_
      refine RunL.off rfl rfl rfl rfl ?_
      refine RunL.off rfl rfl rfl rfl ?_
      refine RunL.off rfl rfl rfl rfl ?_
      refine RunL.off rfl rfl rfl rfl ?_
      refine RunL.ok (OpOk.pickF rfl rfl) rfl ?_
      refine RunL.ok (OpOk.assign rfl) rfl ?_
      refine RunL.nil ?_
      refine Run.condF rfl ?_
      refine Run.seq ?_
      refine Run.region ?_
      refine RunL.ok (OpOk.fieldAddr fld86_2 rfl) rfl ?_
      refine RunL.ok (OpOk.load rfl rfl rfl (Blk.out Blk.pts.left.left.left.left.left _ _ (by first | rfl | assumption))) rfl ?_
      refine RunL.ok (OpOk.asF (OpOk.geq rfl rfl) (by omega)) rfl ?_
      refine RunL.ok (OpOk.assign rfl) rfl ?_
      refine RunL.nil ?_
      refine Run.condF rfl ?_
      refine Run.seq ?_
      refine Run.region ?_
      refine RunL.ok (OpOk.fieldAddr fld111_3 rfl) rfl ?_
      refine RunL.ok (OpOk.load rfl rfl rfl (Blk.out Blk.pts.left _ _ (by first | rfl | assumption))) rfl ?_
      refine RunL.ok (OpOk.asT (OpOk.lss rfl rfl) (by omega)) rfl ?_
      refine RunL.ok (OpOk.assign rfl) rfl ?_
      refine RunL.nil ?_
      refine Run.condT rfl ?_
      refine Run.seq ?_
      refine Run.region ?_
      refine RunL.ok (OpOk.build rfl (fun w => run_build w 86 _ _ (by rfl))) rfl ?_
      refine RunL.storeAll ti86 rfl rfl rfl (ones rfl) (frl (frl (frl (frl rfl)))) rfl ?_
      refine RunL.ok (OpOk.assign rfl) rfl ?_
      refine RunL.nil ?_
      refine Run.retC2 (A' := _) Try.func57 rfl rfl rfl ti86 rfl rfl Blk.pts rfl (Grew.refl _) ?_
      exact ⟨_, rfl, (asg (asg (asg (asg (asg as1)))))⟩
end
end Go.Proofs.Yteopadjihklkmaa
end

section
namespace Go.Proofs.Yteopadjihklkmaa
open Go Go.Proofs
set_option maxRecDepth 100000
set_option maxHeartbeats 4000000
set_option linter.unusedSimpArgs false
set_option linter.unusedVariables false
def full64 (bs : List UInt8) : List UInt8 := bs ++ List.replicate (64 - bs.length) 0
theorem laid_full {bs : List UInt8} (h : bs.length ≤ 64) : laid bs (List.replicate 64 0) = full64 bs := by
  simp only [laid, full64, List.length_replicate]
  rw [show min bs.length 64 = bs.length by omega, List.take_of_length_le (by omega), List.drop_replicate]
theorem full64_len {bs : List UInt8} (h : bs.length ≤ 64) : (full64 bs).length = 64 := by rw [full64, List.length_append, List.length_replicate]; omega
section
variable {w0 : World} {A : Asn} {p : Nat} {a b q c k o i s w w2 : Int} {ad : Option Addr} {m cap n f : Nat} {es : List En} {u : Value} {bs xs ys : List UInt8}
theorem s57f (rd : Rd w0 A (.slice ad m cap) 4 m (Fl encT111 es)) (rdb : Rd w0 A u 1 n (B bs)) (hf : freeE es = (f : Int)) (hf6 : f < 6) (hr : rightP (k, o, i, (f : Int))) (hn : n ≤ 64) (hroom : roomP o i es) (hq : q < 65535) (hx : xs.length = 512) (hw : w ≤ 9223372036854775807) (hW : Wrote xs w (3 + 2 * f) [(full64 bs).take 32, (full64 bs).drop 32] ys w2 30) :
    Spec Try.prog w0 57 [.pointer (some ⟨p, 0, none⟩), .agg #[.int .i64 a, .int .i64 b, .int .i64 q, .int .i64 c, .slice ad m cap], .agg #[.int .i64 k, .int .i64 o, .int .i64 i, .int .i64 s], u] (A * pts p (.cells (B (xs) ++ [Value.int .i64 (w)]).toArray 177 (0, 0))) (fun v' A' => ∃ J, v' = .tuple #[.agg #[.int .i64 0, .int .i64 0, .int .i64 0, .int .i64 0, .slice none 0 0], .int .i64 30] ∧ A' = A * J * pts p (.cells (B (ys) ++ [Value.int .i64 (w2)]).toArray 177 (0, 0))) := by
  have hl0 := rd.lenFl (fun _ => rfl) (by decide)
  subst hl0
  have hl1 := rdb.lenB
  subst hl1
  have rw_f := hf
  have rw_s : 3 + 2 * (f : Int) = ((3 + 2 * f : Nat) : Int) := by omega
  have h32g : ∀ v v2 : Value, ∀ r ∈ [(v, (full64 bs).take 32), (v2, (full64 bs).drop 32)], r.2.length = 32 := fun v v2 r hr => by
    simp only [List.mem_cons, List.not_mem_nil, or_false] at hr
    rcases hr with rfl | rfl
    · show List.length (List.take 32 _) = 32
      rw [List.length_take, full64_len hn]; rfl
    · show List.length (List.drop 32 _) = 32
      rw [List.length_drop, full64_len hn]
  refine Spec.of_run [(0, .pointer (some ⟨p, 0, none⟩)), (1, .agg #[.int .i64 a, .int .i64 b, .int .i64 q, .int .i64 c, .slice ad es.length cap]), (2, .agg #[.int .i64 k, .int .i64 o, .int .i64 i, .int .i64 s]), (3, u)] Try.func57 rfl (Nat.le_of_ble_eq_true rfl) (by repeat (first | exact trivial | refine ⟨rfl, ?_⟩)) ?_
  rcases Int.lt_or_le (atE o i es) 0 with hat | hat
  · have hm5 : es.length < 5 := by
      rcases hroom with h | h
      · omega
      · exact h
    have drawStop : True := trivial
    refine Run.seq ?_
    refine Run.region ?_
    refine RunL.box rfl rfl (fun bx1 => ?_)
    refine RunL.box rfl rfl (fun bx2 => ?_)
    refine RunL.alloc ti86 rfl (fun bx3 => ?_)
    refine RunL.ok (OpOk.assign rfl) rfl ?_
    refine RunL.nil ?_
    refine Run.seq ?_
    refine Run.region ?_
    refine RunL.ok (OpOk.loadS rfl rfl ti86 rfl Blk.pts.left.left rfl) rfl ?_
    refine RunL.ok (OpOk.fieldAddr fld111_1 rfl) rfl ?_
    refine RunL.ok (OpOk.load rfl rfl rfl (Blk.out Blk.pts.left _ _ (by first | rfl | assumption))) rfl ?_
    refine RunL.ok (OpOk.fieldAddr fld111_2 rfl) rfl ?_
    refine RunL.ok (OpOk.load rfl rfl rfl (Blk.out Blk.pts.left _ _ (by first | rfl | assumption))) rfl ?_
    refine RunL.call cal45 rfl (s45 rd.left.left.left.left) rfl (fun vx4 Ax4 hx4 => ?_)
    obtain ⟨x5, ⟨rfl, rfl⟩⟩ := hx4
    refine RunL.ok (OpOk.assign rfl) rfl ?_
    refine RunL.nil ?_
    refine Run.seq ?_
    refine Run.region ?_
    refine RunL.ok (OpOk.loadS rfl rfl ti86 rfl Blk.pts.left.left.left rfl) rfl ?_
    refine RunL.call cal47 rfl (s47 rd.left.left.left.left.left) rfl (fun vx6 Ax6 hx6 => ?_)
    obtain ⟨x7, ⟨rfl, rfl⟩⟩ := hx6
    refine RunL.ok (OpOk.fieldAddr fld111_3 rfl) rfl ?_
    refine RunL.store ti3 rfl rfl rfl (frl (frl (frl rfl))) (by exact Nat.le_of_ble_eq_true rfl) (.inl rfl) ?_
    refine RunL.nil ?_
    refine Run.seq ?_
    refine Run.block ?_
    refine Run.seq ?_
    rw [rw_f]
    refine Run.region ?_
    refine RunL.ok (OpOk.move rfl) rfl ?_
    refine RunL.ok (OpOk.eqlPN rfl rfl) rfl ?_
    refine RunL.ok (OpOk.move rfl) rfl ?_
    refine RunL.on rfl rfl ?_
    refine RunL.ok (OpOk.loadS rfl rfl ti111 rfl Blk.pts rfl) rfl ?_
    refine RunL.on rfl rfl ?_
    refine RunL.call cal103 rfl (s103) rfl (fun vx8 Ax8 hx8 => ?_)
    obtain ⟨x9, ⟨rfl, rfl⟩⟩ := hx8
    refine RunL.on rfl rfl ?_
    refine RunL.ok (OpOk.not rfl) rfl ?_
    refine RunL.ok (OpOk.pickF rfl rfl) rfl ?_
    refine RunL.ok (OpOk.assign rfl) rfl ?_
    refine RunL.nil ?_
    refine Run.condNF rfl (by first | omega | with_reducible rfl | assumption) ?_
    refine Run.seq ?_
    refine Run.region ?_
    refine RunL.ok (OpOk.move rfl) rfl ?_
    refine RunL.ok (OpOk.lenR rfl rfl rdb.left.left.left.left.left.left.left rfl) rfl ?_
    refine RunL.ok (OpOk.asF (OpOk.gtr rfl rfl) (by omega)) rfl ?_
    refine RunL.ok (OpOk.assign rfl) rfl ?_
    refine RunL.nil ?_
    refine Run.condF rfl ?_
    refine Run.seq ?_
    refine Run.region ?_
    refine RunL.ok (OpOk.move rfl) rfl ?_
    refine RunL.ok (OpOk.asT (OpOk.lss rfl rfl) (by omega)) rfl ?_
    refine RunL.ok (OpOk.move rfl) rfl ?_
    refine RunL.on rfl rfl ?_
    refine RunL.ok (OpOk.fieldAddr fld86_4 rfl) rfl ?_
    refine RunL.on rfl rfl ?_
    refine RunL.ok (OpOk.load rfl rfl rfl (Blk.out Blk.pts.left.left.left.left.left _ _ (by first | rfl | assumption))) rfl ?_
    refine RunL.on rfl rfl ?_
    refine RunL.ok (OpOk.lenV rfl rfl rfl) rfl ?_
    refine RunL.on rfl rfl ?_
    refine RunL.ok (OpOk.asF (OpOk.geq rfl rfl) (by omega)) rfl ?_
    refine RunL.ok (OpOk.pickT rfl rfl) rfl ?_
    refine RunL.ok (OpOk.assign rfl) rfl ?_
    refine RunL.nil ?_
    refine Run.condF rfl ?_
    refine Run.seq ?_
    refine Run.region ?_
    refine RunL.ok (OpOk.fieldAddr fld86_2 rfl) rfl ?_
    refine RunL.ok (OpOk.load rfl rfl rfl (Blk.out Blk.pts.left.left.left.left.left _ _ (by first | rfl | assumption))) rfl ?_
    refine RunL.ok (OpOk.asF (OpOk.geq rfl rfl) (by omega)) rfl ?_
    refine RunL.ok (OpOk.assign rfl) rfl ?_
    refine RunL.nil ?_
    refine Run.condF rfl ?_
    refine Run.seq ?_
    refine Run.region ?_
    refine RunL.ok (OpOk.fieldAddr fld111_3 rfl) rfl ?_
    refine RunL.ok (OpOk.load rfl rfl rfl (Blk.out Blk.pts.left _ _ (by first | rfl | assumption))) rfl ?_
    refine RunL.ok (OpOk.asF (OpOk.lss rfl rfl) (by omega)) rfl ?_
    refine RunL.ok (OpOk.assign rfl) rfl ?_
    refine RunL.nil ?_
    refine Run.condF rfl ?_
    refine Run.skip ?_
    refine Run.inBlock ?_
    refine Run.seq ?_
    refine Run.region ?_
    refine RunL.makeB (m := 64) rfl ti5 rfl rfl (by omega) rfl (fun vx10 rdx10 => ?_)
    refine RunL.ok (OpOk.assign rfl) rfl ?_
    refine RunL.nil ?_
    refine Run.seq ?_
    refine Run.region ?_
    refine RunL.ok (OpOk.move rfl) rfl ?_
    refine RunL.ok (OpOk.move rfl) rfl ?_
    refine RunL.copyB rfl ti5 rfl rfl rfl rfl rdb.left.left.left.left.left.left.left.left rfl (fun rdx11 => ?_)
    refine RunL.nil ?_
    refine Run.seq ?_
    refine Run.seq ?_
    clear drawStop
    rw [laid_full hn]
    refine Run.know (fun w s => s.ownRd0) (fun rd3 => ?_)
    have rdc := rd3.cutB0 (j := 32) (by omega)
    have rdd   := rd3.cutB (i := 32) (j := 64) (by omega) (by omega)
    rw [List.take_of_length_le (by rw [List.length_drop, full64_len hn]; decide), show 64 - 32 = 32 from rfl] at rdd
    have h32 : ∀ r ∈ [(cutV vx10 0 32 1, (full64 bs).take 32), (cutV vx10 32 64 1, (full64 bs).drop 32)], r.2.length = 32 := h32g _ _
    (apply Run.drawD [] (by rfl) (Eq.trans (frc (frl (frl (frl (frl (frl (frl (frl rfl))))))) rfl) rfl); case hchk => kernel_rfl)
    refine Sd.quiet 0 _ _ rfl rfl rfl rfl rfl (QOp.ok (fun X => OpOk.move rfl)) ?_
    refine Sd.quiet 1 _ _ rfl rfl rfl rfl rfl (QOp.ok (fun X => OpOk.fieldAddr fld111_3 rfl)) ?_
    refine Sd.quiet 2 _ _ rfl rfl rfl rfl rfl (QOp.ok (fun X => OpOk.load rfl rfl rfl (Blk.out Blk.pts.left.left.left.left _ _ (by first | rfl | assumption)))) ?_
    refine Sd.quiet 3 _ _ rfl rfl rfl rfl rfl (QOp.ok (fun X => OpOk.mulN 2 _ rfl rfl rfl rfl (by omega))) ?_
    refine Sd.quiet 4 _ _ rfl rfl rfl rfl rfl (QOp.ok (fun X => OpOk.addN 3 _ rfl rfl rfl rfl (by omega))) ?_
    refine Sd.quiet 5 _ _ rfl rfl rfl rfl rfl (QOp.ok (fun X => OpOk.move rfl)) ?_
    refine Sd.quiet 6 _ _ rfl rfl rfl rfl rfl (QOp.ok (fun X => OpOk.cut (j := 32) rfl ti5 rfl (Rd.right rd3).left.left rfl ⟨_, rfl⟩ (by omega) (by omega))) ?_
    refine Sd.quiet 7 _ _ rfl rfl rfl rfl rfl (QOp.ok (fun X => OpOk.move rfl)) ?_
    refine Sd.quiet 8 _ _ rfl rfl rfl rfl rfl (QOp.ok (fun X => OpOk.cut (i := 32) rfl ti5 rfl (Rd.right rd3).left.left ⟨_, rfl⟩ rfl (by omega) (by omega))) ?_
    (refine Sd.exec 9 rfl rfl rfl rfl rfl ?hrest (by rfl) (fun Xy1 Ky1 hKy1 => ?_); case hrest => kernel_rfl)
    refine RunL.mem (fl2 (sep_emp _) rfl) ?_
    have aly2 : Alls (GB w0) _ [(cutV vx10 0 32 1, List.take 32 (full64 bs)), (cutV vx10 32 64 1, List.drop 32 (full64 bs))] := (Alls.cons (GB.of rdc) (Alls.cons (GB.of rdd) Alls.nil))
    refine RunL.litV (ls := [(cutV vx10 0 32 1, List.take 32 (full64 bs)), (cutV vx10 32 64 1, List.drop 32 (full64 bs))]) (Alls.right aly2).left.left rfl ti63 rfl rfl rfl (by decide) rfl (fun vy2 rdy2 => ?_)
    refine RunL.know (fun w s => (s.conv rfl).ownRd0) (fun rdy3 => ?_)
    refine Sd.ret hKy1 (Eq.trans (frc (frl rfl) rfl) (gp2 rfl rfl)) ⟨_, (emp_sep _).symm⟩ ?_
    (refine Sd.exec 10 rfl rfl rfl rfl rfl ?hrest (by rfl) (fun Xy4 Ky4 hKy4 => ?_); case hrest => kernel_rfl)
    refine RunL.mem (fl2 rfl rfl) ?_
    refine RunL.call cal98 rfl (s98 (Rd.right rdy3) (Alls.right aly2).left.left (by assumption) (by assumption) (by assumption) (by omega) (by assumption)) rfl (fun vy5 Ay5 hy5 => ?_)
    obtain ⟨rfl, rfl⟩ := hy5
    refine Sd.ret hKy4 (Eq.trans rfl (gp2 (sep_emp _).symm (asg rfl))) ⟨_, rfl⟩ ?_
    refine Sd.quiet 11 _ _ rfl rfl rfl rfl rfl (QOp.ok (fun X => OpOk.assign rfl)) ?_
    (apply Sd.tail; case hall => kernel_rfl)
    refine RunL.mem (fl2 (flS rfl) (sep_emp _)) ?_
    refine RunL.nil ?_
    refine Run.seq ?_
    refine Run.region ?_
    refine RunL.ok (OpOk.move rfl) rfl ?_
    refine RunL.ok (OpOk.as (c := true) (OpOk.neq rfl rfl) (by rw [decide_eq_false (by omega)]; rfl)) rfl ?_
    refine RunL.nil ?_
    refine Run.condT rfl ?_
    refine Run.seq ?_
    refine Run.region ?_
    refine RunL.ok (OpOk.build rfl (fun w => run_build w 86 _ _ (by rfl))) rfl ?_
    refine RunL.ok (OpOk.move rfl) rfl ?_
    refine RunL.storeAll ti86 rfl rfl rfl (ones rfl) (frl (frl (frl (frl (frl (frl (frl rfl))))))) rfl ?_
    refine RunL.ok (OpOk.assign rfl) rfl ?_
    refine RunL.nil ?_
    refine Run.retC2 (A' := _) Try.func57 rfl rfl rfl ti86 rfl rfl Blk.pts rfl (Grew.refl _) ?_
    exact ⟨_, rfl, (Eq.trans (frc (frl rfl) rfl) (congrArg (· * _) (asg (asg (asg (asg (asg (asg (asg as1)))))))))⟩
  · have drawStop : True := trivial
    refine Run.seq ?_
    refine Run.region ?_
    refine RunL.box rfl rfl (fun bx1 => ?_)
    refine RunL.box rfl rfl (fun bx2 => ?_)
    refine RunL.alloc ti86 rfl (fun bx3 => ?_)
    refine RunL.ok (OpOk.assign rfl) rfl ?_
    refine RunL.nil ?_
    refine Run.seq ?_
    refine Run.region ?_
    refine RunL.ok (OpOk.loadS rfl rfl ti86 rfl Blk.pts.left.left rfl) rfl ?_
    refine RunL.ok (OpOk.fieldAddr fld111_1 rfl) rfl ?_
    refine RunL.ok (OpOk.load rfl rfl rfl (Blk.out Blk.pts.left _ _ (by first | rfl | assumption))) rfl ?_
    refine RunL.ok (OpOk.fieldAddr fld111_2 rfl) rfl ?_
    refine RunL.ok (OpOk.load rfl rfl rfl (Blk.out Blk.pts.left _ _ (by first | rfl | assumption))) rfl ?_
    refine RunL.call cal45 rfl (s45 rd.left.left.left.left) rfl (fun vx4 Ax4 hx4 => ?_)
    obtain ⟨x5, ⟨rfl, rfl⟩⟩ := hx4
    refine RunL.ok (OpOk.assign rfl) rfl ?_
    refine RunL.nil ?_
    refine Run.seq ?_
    refine Run.region ?_
    refine RunL.ok (OpOk.loadS rfl rfl ti86 rfl Blk.pts.left.left.left rfl) rfl ?_
    refine RunL.call cal47 rfl (s47 rd.left.left.left.left.left) rfl (fun vx6 Ax6 hx6 => ?_)
    obtain ⟨x7, ⟨rfl, rfl⟩⟩ := hx6
    refine RunL.ok (OpOk.fieldAddr fld111_3 rfl) rfl ?_
    refine RunL.store ti3 rfl rfl rfl (frl (frl (frl rfl))) (by exact Nat.le_of_ble_eq_true rfl) (.inl rfl) ?_
    refine RunL.nil ?_
    refine Run.seq ?_
    refine Run.block ?_
    refine Run.seq ?_
    rw [rw_f]
    refine Run.region ?_
    refine RunL.ok (OpOk.move rfl) rfl ?_
    refine RunL.ok (OpOk.eqlPN rfl rfl) rfl ?_
    refine RunL.ok (OpOk.move rfl) rfl ?_
    refine RunL.on rfl rfl ?_
    refine RunL.ok (OpOk.loadS rfl rfl ti111 rfl Blk.pts rfl) rfl ?_
    refine RunL.on rfl rfl ?_
    refine RunL.call cal103 rfl (s103) rfl (fun vx8 Ax8 hx8 => ?_)
    obtain ⟨x9, ⟨rfl, rfl⟩⟩ := hx8
    refine RunL.on rfl rfl ?_
    refine RunL.ok (OpOk.not rfl) rfl ?_
    refine RunL.ok (OpOk.pickF rfl rfl) rfl ?_
    refine RunL.ok (OpOk.assign rfl) rfl ?_
    refine RunL.nil ?_
    refine Run.condNF rfl (by first | omega | with_reducible rfl | assumption) ?_
    refine Run.seq ?_
    refine Run.region ?_
    refine RunL.ok (OpOk.move rfl) rfl ?_
    refine RunL.ok (OpOk.lenR rfl rfl rdb.left.left.left.left.left.left.left rfl) rfl ?_
    refine RunL.ok (OpOk.asF (OpOk.gtr rfl rfl) (by omega)) rfl ?_
    refine RunL.ok (OpOk.assign rfl) rfl ?_
    refine RunL.nil ?_
    refine Run.condF rfl ?_
    refine Run.seq ?_
    refine Run.region ?_
    refine RunL.ok (OpOk.move rfl) rfl ?_
    refine RunL.ok (OpOk.asF (OpOk.lss rfl rfl) (by omega)) rfl ?_
    refine RunL.ok (OpOk.move rfl) rfl ?_
    refine RunL.off rfl rfl rfl rfl ?_
    refine RunL.off rfl rfl rfl rfl ?_
    refine RunL.off rfl rfl rfl rfl ?_
    refine RunL.off rfl rfl rfl rfl ?_
    refine RunL.ok (OpOk.pickF rfl rfl) rfl ?_
    refine RunL.ok (OpOk.assign rfl) rfl ?_
    refine RunL.nil ?_
    refine Run.condF rfl ?_
    refine Run.seq ?_
    refine Run.region ?_
    refine RunL.ok (OpOk.fieldAddr fld86_2 rfl) rfl ?_
    refine RunL.ok (OpOk.load rfl rfl rfl (Blk.out Blk.pts.left.left.left.left.left _ _ (by first | rfl | assumption))) rfl ?_
    refine RunL.ok (OpOk.asF (OpOk.geq rfl rfl) (by omega)) rfl ?_
    refine RunL.ok (OpOk.assign rfl) rfl ?_
    refine RunL.nil ?_
    refine Run.condF rfl ?_
    refine Run.seq ?_
    refine Run.region ?_
    refine RunL.ok (OpOk.fieldAddr fld111_3 rfl) rfl ?_
    refine RunL.ok (OpOk.load rfl rfl rfl (Blk.out Blk.pts.left _ _ (by first | rfl | assumption))) rfl ?_
    refine RunL.ok (OpOk.asF (OpOk.lss rfl rfl) (by omega)) rfl ?_
    refine RunL.ok (OpOk.assign rfl) rfl ?_
    refine RunL.nil ?_
    refine Run.condF rfl ?_
    refine Run.skip ?_
    refine Run.inBlock ?_
    refine Run.seq ?_
    refine Run.region ?_
    refine RunL.makeB (m := 64) rfl ti5 rfl rfl (by omega) rfl (fun vx10 rdx10 => ?_)
    refine RunL.ok (OpOk.assign rfl) rfl ?_
    refine RunL.nil ?_
    refine Run.seq ?_
    refine Run.region ?_
    refine RunL.ok (OpOk.move rfl) rfl ?_
    refine RunL.ok (OpOk.move rfl) rfl ?_
    refine RunL.copyB rfl ti5 rfl rfl rfl rfl rdb.left.left.left.left.left.left.left.left rfl (fun rdx11 => ?_)
    refine RunL.nil ?_
    refine Run.seq ?_
    refine Run.seq ?_
    clear drawStop
    rw [laid_full hn]
    refine Run.know (fun w s => s.ownRd0) (fun rd3 => ?_)
    have rdc := rd3.cutB0 (j := 32) (by omega)
    have rdd   := rd3.cutB (i := 32) (j := 64) (by omega) (by omega)
    rw [List.take_of_length_le (by rw [List.length_drop, full64_len hn]; decide), show 64 - 32 = 32 from rfl] at rdd
    have h32 : ∀ r ∈ [(cutV vx10 0 32 1, (full64 bs).take 32), (cutV vx10 32 64 1, (full64 bs).drop 32)], r.2.length = 32 := h32g _ _
    (apply Run.drawD [] (by rfl) (Eq.trans (frc (frl (frl (frl (frl (frl (frl (frl rfl))))))) rfl) rfl); case hchk => kernel_rfl)
    refine Sd.quiet 0 _ _ rfl rfl rfl rfl rfl (QOp.ok (fun X => OpOk.move rfl)) ?_
    refine Sd.quiet 1 _ _ rfl rfl rfl rfl rfl (QOp.ok (fun X => OpOk.fieldAddr fld111_3 rfl)) ?_
    refine Sd.quiet 2 _ _ rfl rfl rfl rfl rfl (QOp.ok (fun X => OpOk.load rfl rfl rfl (Blk.out Blk.pts.left.left.left.left _ _ (by first | rfl | assumption)))) ?_
    refine Sd.quiet 3 _ _ rfl rfl rfl rfl rfl (QOp.ok (fun X => OpOk.mulN 2 _ rfl rfl rfl rfl (by omega))) ?_
    refine Sd.quiet 4 _ _ rfl rfl rfl rfl rfl (QOp.ok (fun X => OpOk.addN 3 _ rfl rfl rfl rfl (by omega))) ?_
    refine Sd.quiet 5 _ _ rfl rfl rfl rfl rfl (QOp.ok (fun X => OpOk.move rfl)) ?_
    refine Sd.quiet 6 _ _ rfl rfl rfl rfl rfl (QOp.ok (fun X => OpOk.cut (j := 32) rfl ti5 rfl (Rd.right rd3).left.left rfl ⟨_, rfl⟩ (by omega) (by omega))) ?_
    refine Sd.quiet 7 _ _ rfl rfl rfl rfl rfl (QOp.ok (fun X => OpOk.move rfl)) ?_
    refine Sd.quiet 8 _ _ rfl rfl rfl rfl rfl (QOp.ok (fun X => OpOk.cut (i := 32) rfl ti5 rfl (Rd.right rd3).left.left ⟨_, rfl⟩ rfl (by omega) (by omega))) ?_
    (refine Sd.exec 9 rfl rfl rfl rfl rfl ?hrest (by rfl) (fun Xy1 Ky1 hKy1 => ?_); case hrest => kernel_rfl)
    refine RunL.mem (fl2 (sep_emp _) rfl) ?_
    have aly2 : Alls (GB w0) _ [(cutV vx10 0 32 1, List.take 32 (full64 bs)), (cutV vx10 32 64 1, List.drop 32 (full64 bs))] := (Alls.cons (GB.of rdc) (Alls.cons (GB.of rdd) Alls.nil))
    refine RunL.litV (ls := [(cutV vx10 0 32 1, List.take 32 (full64 bs)), (cutV vx10 32 64 1, List.drop 32 (full64 bs))]) (Alls.right aly2).left.left rfl ti63 rfl rfl rfl (by decide) rfl (fun vy2 rdy2 => ?_)
    refine RunL.know (fun w s => (s.conv rfl).ownRd0) (fun rdy3 => ?_)
    refine Sd.ret hKy1 (Eq.trans (frc (frl rfl) rfl) (gp2 rfl rfl)) ⟨_, (emp_sep _).symm⟩ ?_
    (refine Sd.exec 10 rfl rfl rfl rfl rfl ?hrest (by rfl) (fun Xy4 Ky4 hKy4 => ?_); case hrest => kernel_rfl)
    refine RunL.mem (fl2 rfl rfl) ?_
    refine RunL.call cal98 rfl (s98 (Rd.right rdy3) (Alls.right aly2).left.left (by assumption) (by assumption) (by assumption) (by omega) (by assumption)) rfl (fun vy5 Ay5 hy5 => ?_)
    obtain ⟨rfl, rfl⟩ := hy5
    refine Sd.ret hKy4 (Eq.trans rfl (gp2 (sep_emp _).symm (asg rfl))) ⟨_, rfl⟩ ?_
    refine Sd.quiet 11 _ _ rfl rfl rfl rfl rfl (QOp.ok (fun X => OpOk.assign rfl)) ?_
    (apply Sd.tail; case hall => kernel_rfl)
    refine RunL.mem (fl2 (flS rfl) (sep_emp _)) ?_
    refine RunL.nil ?_
    refine Run.seq ?_
    refine Run.region ?_
    refine RunL.ok (OpOk.move rfl) rfl ?_
    refine RunL.ok (OpOk.as (c := true) (OpOk.neq rfl rfl) (by rw [decide_eq_false (by omega)]; rfl)) rfl ?_
    refine RunL.nil ?_
    refine Run.condT rfl ?_
    refine Run.seq ?_
    refine Run.region ?_
    refine RunL.ok (OpOk.build rfl (fun w => run_build w 86 _ _ (by rfl))) rfl ?_
    refine RunL.ok (OpOk.move rfl) rfl ?_
    refine RunL.storeAll ti86 rfl rfl rfl (ones rfl) (frl (frl (frl (frl (frl (frl (frl rfl))))))) rfl ?_
    refine RunL.ok (OpOk.assign rfl) rfl ?_
    refine RunL.nil ?_
    refine Run.retC2 (A' := _) Try.func57 rfl rfl rfl ti86 rfl rfl Blk.pts rfl (Grew.refl _) ?_
    exact ⟨_, rfl, (Eq.trans (frc (frl rfl) rfl) (congrArg (· * _) (asg (asg (asg (asg (asg (asg (asg as1)))))))))⟩
end
end Go.Proofs.Yteopadjihklkmaa
end

section
namespace Go.Proofs.Yteopadjihklkmaa
open Go Go.Proofs
set_option maxRecDepth 100000
set_option maxHeartbeats 4000000
set_option linter.unusedSimpArgs false
set_option linter.unusedVariables false
theorem okE_of {k o i : Int} {f : Nat} (hr : rightP (k, o, i, (f : Int))) (hf : f < 6) : okE (k, o, i, (f : Int)) := by
  obtain ⟨h1, h2, h3, h4, h5, h6⟩ := hr
  dsimp only at h1 h2 h3 h4 h5 h6
  exact ⟨by dsimp only; omega, by dsimp only; omega, by dsimp only; omega, by dsimp only; omega, by dsimp only; omega, by dsimp only; omega, by dsimp only; omega, by dsimp only; omega⟩
theorem okE_snoc {k o i : Int} {f : Nat} {es : List En} (hes : ∀ e ∈ es, okE e) (hr : rightP (k, o, i, (f : Int))) (hf : f < 6) : ∀ e ∈ es ++ [(k, o, i, (f : Int))], okE e := fun e he => by
  rcases List.mem_append.1 he with h | h
  · exact hes e h
  · rw [List.mem_singleton.1 h]
    exact okE_of hr hf
theorem okE_set {k o i : Int} {f j : Nat} {es : List En} (hes : ∀ e ∈ es, okE e) (hr : rightP (k, o, i, (f : Int))) (hf : f < 6) : ∀ e ∈ es.set j (k, o, i, (f : Int)), okE e := fun e he => by
  rcases List.mem_or_eq_of_mem_set he with h | h
  · exact hes e h
  · rw [h]
    exact okE_of hr hf
section
variable {w0 : World} {A : Asn} {p : Nat} {a b q c k o i s w w2 : Int} {ad : Option Addr} {m cap n f : Nat} {es : List En} {u : Value} {bs xs ys : List UInt8}
theorem s57g {zs : List UInt8} {w3 : Int} {t j : Nat} (hat : atE o i es < 0) (hm : m < 5) (rd : Rd w0 A (.slice ad m cap) 4 m (Fl encT111 es)) (rdb : Rd w0 A u 1 n (B bs)) (hf : freeE es = (f : Int)) (hf6 : f < 6) (hr : rightP (k, o, i, (f : Int))) (hn : n ≤ 64) (hes : ∀ e ∈ es, okE e) (hq0 : 0 ≤ q) (hq : q < 65535) (hx : xs.length = 512) (hy : ys.length = 512) (hw : w ≤ 9223372036854775807) (hw2 : w2 ≤ 9223372036854775807) (hc : 3 - c = (t : Int)) (ht : t ≤ 2) (hW : Wrote xs w (3 + 2 * f) [(full64 bs).take 32, (full64 bs).drop 32] ys w2 0) (hW2 : Wrote ys w2 t [sectB (listB (q + 1) (es ++ [(k, o, i, (f : Int))]))] zs w3 30) :
    Spec Try.prog w0 57 [.pointer (some ⟨p, 0, none⟩), .agg #[.int .i64 a, .int .i64 b, .int .i64 q, .int .i64 c, .slice ad m cap], .agg #[.int .i64 k, .int .i64 o, .int .i64 i, .int .i64 s], u] (A * pts p (.cells (B (xs) ++ [Value.int .i64 (w)]).toArray 177 (0, 0))) (fun v' A' => ∃ J, v' = .tuple #[.agg #[.int .i64 0, .int .i64 0, .int .i64 0, .int .i64 0, .slice none 0 0], .int .i64 30] ∧ A' = A * J * pts p (.cells (B (zs) ++ [Value.int .i64 (w3)]).toArray 177 (0, 0))) := by
  have hl0 := rd.lenFl (fun _ => rfl) (by decide)
  subst hl0
  have hl1 := rdb.lenB
  subst hl1
  have rw_f := hf
  have rw_s : 3 + 2 * (f : Int) = ((3 + 2 * f : Nat) : Int) := by omega
  have hes2 : ∀ e ∈ es ++ [(k, o, i, (f : Int))], okE e := okE_snoc hes hr hf6
  have hm5 : es.length + 1 ≤ 5 := hm
  have h32g : ∀ v v2 : Value, ∀ r ∈ [(v, (full64 bs).take 32), (v2, (full64 bs).drop 32)], r.2.length = 32 := fun v v2 r hr => by
    simp only [List.mem_cons, List.not_mem_nil, or_false] at hr
    rcases hr with rfl | rfl
    · show List.length (List.take 32 _) = 32
      rw [List.length_take, full64_len hn]; rfl
    · show List.length (List.drop 32 _) = 32
      rw [List.length_drop, full64_len hn]
  refine Spec.of_run [(0, .pointer (some ⟨p, 0, none⟩)), (1, .agg #[.int .i64 a, .int .i64 b, .int .i64 q, .int .i64 c, .slice ad es.length cap]), (2, .agg #[.int .i64 k, .int .i64 o, .int .i64 i, .int .i64 s]), (3, u)] Try.func57 rfl (Nat.le_of_ble_eq_true rfl) (by repeat (first | exact trivial | refine ⟨rfl, ?_⟩)) ?_
  have drawStop : True := trivial
  refine Run.seq ?_
  refine Run.region ?_
  refine RunL.box rfl rfl (fun bx1 => ?_)
  refine RunL.box rfl rfl (fun bx2 => ?_)
  refine RunL.alloc ti86 rfl (fun bx3 => ?_)
  refine RunL.ok (OpOk.assign rfl) rfl ?_
  refine RunL.nil ?_
  refine Run.seq ?_
  refine Run.region ?_
  refine RunL.ok (OpOk.loadS rfl rfl ti86 rfl Blk.pts.left.left rfl) rfl ?_
  refine RunL.ok (OpOk.fieldAddr fld111_1 rfl) rfl ?_
  refine RunL.ok (OpOk.load rfl rfl rfl (Blk.out Blk.pts.left _ _ (by first | rfl | assumption))) rfl ?_
  refine RunL.ok (OpOk.fieldAddr fld111_2 rfl) rfl ?_
  refine RunL.ok (OpOk.load rfl rfl rfl (Blk.out Blk.pts.left _ _ (by first | rfl | assumption))) rfl ?_
  refine RunL.call cal45 rfl (s45 rd.left.left.left.left) rfl (fun vx4 Ax4 hx4 => ?_)
  obtain ⟨x5, ⟨rfl, rfl⟩⟩ := hx4
  refine RunL.ok (OpOk.assign rfl) rfl ?_
  refine RunL.nil ?_
  refine Run.seq ?_
  refine Run.region ?_
  refine RunL.ok (OpOk.loadS rfl rfl ti86 rfl Blk.pts.left.left.left rfl) rfl ?_
  refine RunL.call cal47 rfl (s47 rd.left.left.left.left.left) rfl (fun vx6 Ax6 hx6 => ?_)
  obtain ⟨x7, ⟨rfl, rfl⟩⟩ := hx6
  refine RunL.ok (OpOk.fieldAddr fld111_3 rfl) rfl ?_
  refine RunL.store ti3 rfl rfl rfl (frl (frl (frl rfl))) (by exact Nat.le_of_ble_eq_true rfl) (.inl rfl) ?_
  refine RunL.nil ?_
  refine Run.seq ?_
  refine Run.block ?_
  refine Run.seq ?_
  rw [rw_f]
  refine Run.region ?_
  refine RunL.ok (OpOk.move rfl) rfl ?_
  refine RunL.ok (OpOk.eqlPN rfl rfl) rfl ?_
  refine RunL.ok (OpOk.move rfl) rfl ?_
  refine RunL.on rfl rfl ?_
  refine RunL.ok (OpOk.loadS rfl rfl ti111 rfl Blk.pts rfl) rfl ?_
  refine RunL.on rfl rfl ?_
  refine RunL.call cal103 rfl (s103) rfl (fun vx8 Ax8 hx8 => ?_)
  obtain ⟨x9, ⟨rfl, rfl⟩⟩ := hx8
  refine RunL.on rfl rfl ?_
  refine RunL.ok (OpOk.not rfl) rfl ?_
  refine RunL.ok (OpOk.pickF rfl rfl) rfl ?_
  refine RunL.ok (OpOk.assign rfl) rfl ?_
  refine RunL.nil ?_
  refine Run.condNF rfl (by first | omega | with_reducible rfl | assumption) ?_
  refine Run.seq ?_
  refine Run.region ?_
  refine RunL.ok (OpOk.move rfl) rfl ?_
  refine RunL.ok (OpOk.lenR rfl rfl rdb.left.left.left.left.left.left.left rfl) rfl ?_
  refine RunL.ok (OpOk.asF (OpOk.gtr rfl rfl) (by omega)) rfl ?_
  refine RunL.ok (OpOk.assign rfl) rfl ?_
  refine RunL.nil ?_
  refine Run.condF rfl ?_
  refine Run.seq ?_
  refine Run.region ?_
  refine RunL.ok (OpOk.move rfl) rfl ?_
  refine RunL.ok (OpOk.asT (OpOk.lss rfl rfl) (by omega)) rfl ?_
  refine RunL.ok (OpOk.move rfl) rfl ?_
  refine RunL.on rfl rfl ?_
  refine RunL.ok (OpOk.fieldAddr fld86_4 rfl) rfl ?_
  refine RunL.on rfl rfl ?_
  refine RunL.ok (OpOk.load rfl rfl rfl (Blk.out Blk.pts.left.left.left.left.left _ _ (by first | rfl | assumption))) rfl ?_
  refine RunL.on rfl rfl ?_
  refine RunL.ok (OpOk.lenV rfl rfl rfl) rfl ?_
  refine RunL.on rfl rfl ?_
  refine RunL.ok (OpOk.asF (OpOk.geq rfl rfl) (by omega)) rfl ?_
  refine RunL.ok (OpOk.pickT rfl rfl) rfl ?_
  refine RunL.ok (OpOk.assign rfl) rfl ?_
  refine RunL.nil ?_
  refine Run.condF rfl ?_
  refine Run.seq ?_
  refine Run.region ?_
  refine RunL.ok (OpOk.fieldAddr fld86_2 rfl) rfl ?_
  refine RunL.ok (OpOk.load rfl rfl rfl (Blk.out Blk.pts.left.left.left.left.left _ _ (by first | rfl | assumption))) rfl ?_
  refine RunL.ok (OpOk.asF (OpOk.geq rfl rfl) (by omega)) rfl ?_
  refine RunL.ok (OpOk.assign rfl) rfl ?_
  refine RunL.nil ?_
  refine Run.condF rfl ?_
  refine Run.seq ?_
  refine Run.region ?_
  refine RunL.ok (OpOk.fieldAddr fld111_3 rfl) rfl ?_
  refine RunL.ok (OpOk.load rfl rfl rfl (Blk.out Blk.pts.left _ _ (by first | rfl | assumption))) rfl ?_
  refine RunL.ok (OpOk.asF (OpOk.lss rfl rfl) (by omega)) rfl ?_
  refine RunL.ok (OpOk.assign rfl) rfl ?_
  refine RunL.nil ?_
  refine Run.condF rfl ?_
  refine Run.skip ?_
  refine Run.inBlock ?_
  refine Run.seq ?_
  refine Run.region ?_
  refine RunL.makeB (m := 64) rfl ti5 rfl rfl (by omega) rfl (fun vx10 rdx10 => ?_)
  refine RunL.ok (OpOk.assign rfl) rfl ?_
  refine RunL.nil ?_
  refine Run.seq ?_
  refine Run.region ?_
  refine RunL.ok (OpOk.move rfl) rfl ?_
  refine RunL.ok (OpOk.move rfl) rfl ?_
  refine RunL.copyB rfl ti5 rfl rfl rfl rfl rdb.left.left.left.left.left.left.left.left rfl (fun rdx11 => ?_)
  refine RunL.nil ?_
  refine Run.seq ?_
  refine Run.seq ?_
  clear drawStop
  rw [laid_full hn]
  refine Run.know (fun w s => s.ownRd0) (fun rd3 => ?_)
  have rdc := rd3.cutB0 (j := 32) (by omega)
  have rdd := rd3.cutB (i := 32) (j := 64) (by omega) (by omega)
  rw [List.take_of_length_le (by rw [List.length_drop, full64_len hn]; decide), show 64 - 32 = 32 from rfl] at rdd
  have h32 : ∀ r ∈ [(cutV vx10 0 32 1, (full64 bs).take 32), (cutV vx10 32 64 1, (full64 bs).drop 32)], r.2.length = 32 := h32g _ _
  (apply Run.drawD [] (by rfl) (Eq.trans (frc (frl (frl (frl (frl (frl (frl (frl rfl))))))) rfl) rfl); case hchk => kernel_rfl)
  refine Sd.quiet 0 _ _ rfl rfl rfl rfl rfl (QOp.ok (fun X => OpOk.move rfl)) ?_
  refine Sd.quiet 1 _ _ rfl rfl rfl rfl rfl (QOp.ok (fun X => OpOk.fieldAddr fld111_3 rfl)) ?_
  refine Sd.quiet 2 _ _ rfl rfl rfl rfl rfl (QOp.ok (fun X => OpOk.load rfl rfl rfl (Blk.out Blk.pts.left.left.left.left _ _ (by first | rfl | assumption)))) ?_
  refine Sd.quiet 3 _ _ rfl rfl rfl rfl rfl (QOp.ok (fun X => OpOk.mulN 2 _ rfl rfl rfl rfl (by omega))) ?_
  refine Sd.quiet 4 _ _ rfl rfl rfl rfl rfl (QOp.ok (fun X => OpOk.addN 3 _ rfl rfl rfl rfl (by omega))) ?_
  refine Sd.quiet 5 _ _ rfl rfl rfl rfl rfl (QOp.ok (fun X => OpOk.move rfl)) ?_
  refine Sd.quiet 6 _ _ rfl rfl rfl rfl rfl (QOp.ok (fun X => OpOk.cut (j := 32) rfl ti5 rfl (Rd.right rd3).left.left rfl ⟨_, rfl⟩ (by omega) (by omega))) ?_
  refine Sd.quiet 7 _ _ rfl rfl rfl rfl rfl (QOp.ok (fun X => OpOk.move rfl)) ?_
  refine Sd.quiet 8 _ _ rfl rfl rfl rfl rfl (QOp.ok (fun X => OpOk.cut (i := 32) rfl ti5 rfl (Rd.right rd3).left.left ⟨_, rfl⟩ rfl (by omega) (by omega))) ?_
  (refine Sd.exec 9 rfl rfl rfl rfl rfl ?hrest (by rfl) (fun Xy1 Ky1 hKy1 => ?_); case hrest => kernel_rfl)
  refine RunL.mem (fl2 (sep_emp _) rfl) ?_
  have aly2 : Alls (GB w0) _ [(cutV vx10 0 32 1, List.take 32 (full64 bs)), (cutV vx10 32 64 1, List.drop 32 (full64 bs))] := (Alls.cons (GB.of rdc) (Alls.cons (GB.of rdd) Alls.nil))
  refine RunL.litV (ls := [(cutV vx10 0 32 1, List.take 32 (full64 bs)), (cutV vx10 32 64 1, List.drop 32 (full64 bs))]) (Alls.right aly2).left.left rfl ti63 rfl rfl rfl (by decide) rfl (fun vy2 rdy2 => ?_)
  refine RunL.know (fun w s => (s.conv rfl).ownRd0) (fun rdy3 => ?_)
  refine Sd.ret hKy1 (Eq.trans (frc (frl rfl) rfl) (gp2 rfl rfl)) ⟨_, (emp_sep _).symm⟩ ?_
  (refine Sd.exec 10 rfl rfl rfl rfl rfl ?hrest (by rfl) (fun Xy4 Ky4 hKy4 => ?_); case hrest => kernel_rfl)
  refine RunL.mem (fl2 rfl rfl) ?_
  refine RunL.call cal98 rfl (s98 (Rd.right rdy3) (Alls.right aly2).left.left (by assumption) (by assumption) (by assumption) (by omega) (by assumption)) rfl (fun vy5 Ay5 hy5 => ?_)
  obtain ⟨rfl, rfl⟩ := hy5
  refine Sd.ret hKy4 (Eq.trans rfl (gp2 (sep_emp _).symm (asg rfl))) ⟨_, rfl⟩ ?_
  refine Sd.quiet 11 _ _ rfl rfl rfl rfl rfl (QOp.ok (fun X => OpOk.assign rfl)) ?_
  (apply Sd.tail; case hall => kernel_rfl)
  refine RunL.mem (fl2 (flS rfl) (sep_emp _)) ?_
  refine RunL.nil ?_
  refine Run.seq ?_
  refine Run.region ?_
  refine RunL.ok (OpOk.move rfl) rfl ?_
  refine RunL.ok (OpOk.as (c := false) (OpOk.neq rfl rfl) (by rw [decide_eq_true (by omega)]; rfl)) rfl ?_
  refine RunL.nil ?_
  refine Run.condF rfl ?_
  refine Run.skip ?_
  refine Run.seq ?_
  refine Run.region ?_
  refine RunL.ok (OpOk.fieldAddr fld86_4 rfl) rfl ?_
  refine RunL.ok (OpOk.load rfl rfl rfl (Blk.out Blk.pts.left.left.left.left.left.left.left.left _ _ (by first | rfl | assumption))) rfl ?_
  refine RunL.call cal102 rfl (s102 rd.left.left.left.left.left.left.left.left.left (by omega)) rfl (fun vy6 Ay6 hy6 => ?_)
  obtain rfl := hy6
  refine RunL.ok (OpOk.assign rfl) rfl ?_
  refine RunL.nil ?_
  refine Run.seq ?_
  refine Run.seq ?_
  refine Run.region ?_
  refine RunL.ok (OpOk.move rfl) rfl ?_
  refine RunL.ok (OpOk.asT (OpOk.lss rfl rfl) (by omega)) rfl ?_
  refine RunL.nil ?_
  refine Run.condT rfl ?_
  refine Run.region ?_
  refine RunL.ok (OpOk.move rfl) rfl ?_
  refine RunL.ok (OpOk.loadS rfl rfl ti111 rfl Blk.pts.left.left.left.left.left rfl) rfl ?_
  refine RunL.litFl (enc := encT111) [(k, (o, (i, ↑f)))] rfl ti111 rfl (fun _ => rfl) rfl rfl (by decide) (by decide) rfl (fun vy7 rdy7 => ?_)
  refine RunL.know (fun w s => (s.conv rfl).ownRd0) (fun rdy9 => ?_)
  refine RunL.appendF rfl ti111 rfl rfl rfl (frl rfl) (Rd.right rdy9) rfl (by decide) (by omega) (by simp only [maxLen]; omega) rfl (fun vy8 rdy8 => ?_)
  refine RunL.ok (OpOk.assign rfl) rfl ?_
  refine RunL.nil ?_
  refine Run.seq ?_
  refine Run.region ?_
  refine RunL.ok (OpOk.loadS rfl rfl ti86 rfl Blk.pts.left.left.left.left.left.left.left.left.left.left rfl) rfl ?_
  refine RunL.ok (OpOk.move rfl) rfl ?_
  refine RunL.ok (OpOk.move rfl) rfl ?_
  refine RunL.know (fun w s => (s.conv rfl).ownRd0) (fun rdy10 => ?_)
  refine RunL.mem (frc (frl (frl rfl)) rfl) ?_
  obtain ⟨ad3, cap3, rfl, hcap3, had3⟩ := rdy10.form
  refine RunL.call cal100 rfl (s100b (Rd.right rdy10) (by assumption) (by assumption) (by assumption) (by assumption) (by assumption) (by assumption) (by assumption) (by assumption) (by assumption) rfl) rfl (fun vz2 Az2 hz2 => ?_)
  obtain ⟨z3, ⟨rfl, rfl⟩⟩ := hz2
  refine RunL.ok (OpOk.ext20 rfl) rfl ?_
  refine RunL.ok (OpOk.ext21 rfl) rfl ?_
  refine RunL.storeAll ti86 rfl rfl rfl (ones rfl) (frl (frl (frl (frl (frl (frl (frl (frl (frl (frl rfl)))))))))) rfl ?_
  refine RunL.ok (OpOk.assign rfl) rfl ?_
  refine RunL.nil ?_
  refine Run.retC2 (A' := _) Try.func57 rfl rfl rfl ti86 rfl rfl Blk.pts rfl (Grew.refl _) ?_
  exact ⟨_, rfl, (Eq.trans (frc (frl rfl) rfl) (congrArg (· * _) (asg (asg (asg (asg (asg (asg (asg (asg (asg (asg as1))))))))))))⟩
theorem s57h {zs : List UInt8} {w3 : Int} {t j : Nat} (hat : atE o i es < 0) (hm : m < 5) (rd : Rd w0 A (.slice ad m cap) 4 m (Fl encT111 es)) (rdb : Rd w0 A u 1 n (B bs)) (hf : freeE es = (f : Int)) (hf6 : f < 6) (hr : rightP (k, o, i, (f : Int))) (hn : n ≤ 64) (hes : ∀ e ∈ es, okE e) (hq0 : 0 ≤ q) (hq : q < 65535) (hx : xs.length = 512) (hy : ys.length = 512) (hw : w ≤ 9223372036854775807) (hw2 : w2 ≤ 9223372036854775807) (hc : 3 - c = (t : Int)) (ht : t ≤ 2) (hW : Wrote xs w (3 + 2 * f) [(full64 bs).take 32, (full64 bs).drop 32] ys w2 0) (hW2 : Wrote ys w2 t [sectB (listB (q + 1) (es ++ [(k, o, i, (f : Int))]))] zs w3 0) :
    Spec Try.prog w0 57 [.pointer (some ⟨p, 0, none⟩), .agg #[.int .i64 a, .int .i64 b, .int .i64 q, .int .i64 c, .slice ad m cap], .agg #[.int .i64 k, .int .i64 o, .int .i64 i, .int .i64 s], u] (A * pts p (.cells (B (xs) ++ [Value.int .i64 (w)]).toArray 177 (0, 0))) (fun v' A' => ∃ ad2 cap2 J, v' = .tuple #[.agg #[.int .i64 a, .int .i64 b, .int .i64 (q + 1), .int .i64 (t : Int), .slice ad2 (es.length + 1) cap2], .int .i64 0] ∧ A' = A * J * own 111 4 (.slice ad2 (es.length + 1) cap2) ((es.length + 1)) (Fl encT111 (es ++ [(k, o, i, (f : Int))])) * pts p (.cells (B (zs) ++ [Value.int .i64 (w3)]).toArray 177 (0, 0))) := by
  have hl0 := rd.lenFl (fun _ => rfl) (by decide)
  subst hl0
  have hl1 := rdb.lenB
  subst hl1
  have rw_f := hf
  have rw_s : 3 + 2 * (f : Int) = ((3 + 2 * f : Nat) : Int) := by omega
  have hes2 : ∀ e ∈ es ++ [(k, o, i, (f : Int))], okE e := okE_snoc hes hr hf6
  have hm5 : es.length + 1 ≤ 5 := hm
  have h32g : ∀ v v2 : Value, ∀ r ∈ [(v, (full64 bs).take 32), (v2, (full64 bs).drop 32)], r.2.length = 32 := fun v v2 r hr => by
    simp only [List.mem_cons, List.not_mem_nil, or_false] at hr
    rcases hr with rfl | rfl
    · show List.length (List.take 32 _) = 32
      rw [List.length_take, full64_len hn]; rfl
    · show List.length (List.drop 32 _) = 32
      rw [List.length_drop, full64_len hn]
  refine Spec.of_run [(0, .pointer (some ⟨p, 0, none⟩)), (1, .agg #[.int .i64 a, .int .i64 b, .int .i64 q, .int .i64 c, .slice ad es.length cap]), (2, .agg #[.int .i64 k, .int .i64 o, .int .i64 i, .int .i64 s]), (3, u)] Try.func57 rfl (Nat.le_of_ble_eq_true rfl) (by repeat (first | exact trivial | refine ⟨rfl, ?_⟩)) ?_
  have drawStop : True := trivial
  refine Run.seq ?_
  refine Run.region ?_
  refine RunL.box rfl rfl (fun bx1 => ?_)
  refine RunL.box rfl rfl (fun bx2 => ?_)
  refine RunL.alloc ti86 rfl (fun bx3 => ?_)
  refine RunL.ok (OpOk.assign rfl) rfl ?_
  refine RunL.nil ?_
  refine Run.seq ?_
  refine Run.region ?_
  refine RunL.ok (OpOk.loadS rfl rfl ti86 rfl Blk.pts.left.left rfl) rfl ?_
  refine RunL.ok (OpOk.fieldAddr fld111_1 rfl) rfl ?_
  refine RunL.ok (OpOk.load rfl rfl rfl (Blk.out Blk.pts.left _ _ (by first | rfl | assumption))) rfl ?_
  refine RunL.ok (OpOk.fieldAddr fld111_2 rfl) rfl ?_
  refine RunL.ok (OpOk.load rfl rfl rfl (Blk.out Blk.pts.left _ _ (by first | rfl | assumption))) rfl ?_
  refine RunL.call cal45 rfl (s45 rd.left.left.left.left) rfl (fun vx4 Ax4 hx4 => ?_)
  obtain ⟨x5, ⟨rfl, rfl⟩⟩ := hx4
  refine RunL.ok (OpOk.assign rfl) rfl ?_
  refine RunL.nil ?_
  refine Run.seq ?_
  refine Run.region ?_
  refine RunL.ok (OpOk.loadS rfl rfl ti86 rfl Blk.pts.left.left.left rfl) rfl ?_
  refine RunL.call cal47 rfl (s47 rd.left.left.left.left.left) rfl (fun vx6 Ax6 hx6 => ?_)
  obtain ⟨x7, ⟨rfl, rfl⟩⟩ := hx6
  refine RunL.ok (OpOk.fieldAddr fld111_3 rfl) rfl ?_
  refine RunL.store ti3 rfl rfl rfl (frl (frl (frl rfl))) (by exact Nat.le_of_ble_eq_true rfl) (.inl rfl) ?_
  refine RunL.nil ?_
  refine Run.seq ?_
  refine Run.block ?_
  refine Run.seq ?_
  rw [rw_f]
  refine Run.region ?_
  refine RunL.ok (OpOk.move rfl) rfl ?_
  refine RunL.ok (OpOk.eqlPN rfl rfl) rfl ?_
  refine RunL.ok (OpOk.move rfl) rfl ?_
  refine RunL.on rfl rfl ?_
  refine RunL.ok (OpOk.loadS rfl rfl ti111 rfl Blk.pts rfl) rfl ?_
  refine RunL.on rfl rfl ?_
  refine RunL.call cal103 rfl (s103) rfl (fun vx8 Ax8 hx8 => ?_)
  obtain ⟨x9, ⟨rfl, rfl⟩⟩ := hx8
  refine RunL.on rfl rfl ?_
  refine RunL.ok (OpOk.not rfl) rfl ?_
  refine RunL.ok (OpOk.pickF rfl rfl) rfl ?_
  refine RunL.ok (OpOk.assign rfl) rfl ?_
  refine RunL.nil ?_
  refine Run.condNF rfl (by first | omega | with_reducible rfl | assumption) ?_
  refine Run.seq ?_
  refine Run.region ?_
  refine RunL.ok (OpOk.move rfl) rfl ?_
  refine RunL.ok (OpOk.lenR rfl rfl rdb.left.left.left.left.left.left.left rfl) rfl ?_
  refine RunL.ok (OpOk.asF (OpOk.gtr rfl rfl) (by omega)) rfl ?_
  refine RunL.ok (OpOk.assign rfl) rfl ?_
  refine RunL.nil ?_
  refine Run.condF rfl ?_
  refine Run.seq ?_
  refine Run.region ?_
  refine RunL.ok (OpOk.move rfl) rfl ?_
  refine RunL.ok (OpOk.asT (OpOk.lss rfl rfl) (by omega)) rfl ?_
  refine RunL.ok (OpOk.move rfl) rfl ?_
  refine RunL.on rfl rfl ?_
  refine RunL.ok (OpOk.fieldAddr fld86_4 rfl) rfl ?_
  refine RunL.on rfl rfl ?_
  refine RunL.ok (OpOk.load rfl rfl rfl (Blk.out Blk.pts.left.left.left.left.left _ _ (by first | rfl | assumption))) rfl ?_
  refine RunL.on rfl rfl ?_
  refine RunL.ok (OpOk.lenV rfl rfl rfl) rfl ?_
  refine RunL.on rfl rfl ?_
  refine RunL.ok (OpOk.asF (OpOk.geq rfl rfl) (by omega)) rfl ?_
  refine RunL.ok (OpOk.pickT rfl rfl) rfl ?_
  refine RunL.ok (OpOk.assign rfl) rfl ?_
  refine RunL.nil ?_
  refine Run.condF rfl ?_
  refine Run.seq ?_
  refine Run.region ?_
  refine RunL.ok (OpOk.fieldAddr fld86_2 rfl) rfl ?_
  refine RunL.ok (OpOk.load rfl rfl rfl (Blk.out Blk.pts.left.left.left.left.left _ _ (by first | rfl | assumption))) rfl ?_
  refine RunL.ok (OpOk.asF (OpOk.geq rfl rfl) (by omega)) rfl ?_
  refine RunL.ok (OpOk.assign rfl) rfl ?_
  refine RunL.nil ?_
  refine Run.condF rfl ?_
  refine Run.seq ?_
  refine Run.region ?_
  refine RunL.ok (OpOk.fieldAddr fld111_3 rfl) rfl ?_
  refine RunL.ok (OpOk.load rfl rfl rfl (Blk.out Blk.pts.left _ _ (by first | rfl | assumption))) rfl ?_
  refine RunL.ok (OpOk.asF (OpOk.lss rfl rfl) (by omega)) rfl ?_
  refine RunL.ok (OpOk.assign rfl) rfl ?_
  refine RunL.nil ?_
  refine Run.condF rfl ?_
  refine Run.skip ?_
  refine Run.inBlock ?_
  refine Run.seq ?_
  refine Run.region ?_
  refine RunL.makeB (m := 64) rfl ti5 rfl rfl (by omega) rfl (fun vx10 rdx10 => ?_)
  refine RunL.ok (OpOk.assign rfl) rfl ?_
  refine RunL.nil ?_
  refine Run.seq ?_
  refine Run.region ?_
  refine RunL.ok (OpOk.move rfl) rfl ?_
  refine RunL.ok (OpOk.move rfl) rfl ?_
  refine RunL.copyB rfl ti5 rfl rfl rfl rfl rdb.left.left.left.left.left.left.left.left rfl (fun rdx11 => ?_)
  refine RunL.nil ?_
  refine Run.seq ?_
  refine Run.seq ?_
  clear drawStop
  rw [laid_full hn]
  refine Run.know (fun w s => s.ownRd0) (fun rd3 => ?_)
  have rdc := rd3.cutB0 (j := 32) (by omega)
  have rdd := rd3.cutB (i := 32) (j := 64) (by omega) (by omega)
  rw [List.take_of_length_le (by rw [List.length_drop, full64_len hn]; decide), show 64 - 32 = 32 from rfl] at rdd
  have h32 : ∀ r ∈ [(cutV vx10 0 32 1, (full64 bs).take 32), (cutV vx10 32 64 1, (full64 bs).drop 32)], r.2.length = 32 := h32g _ _
  (apply Run.drawD [] (by rfl) (Eq.trans (frc (frl (frl (frl (frl (frl (frl (frl rfl))))))) rfl) rfl); case hchk => kernel_rfl)
  refine Sd.quiet 0 _ _ rfl rfl rfl rfl rfl (QOp.ok (fun X => OpOk.move rfl)) ?_
  refine Sd.quiet 1 _ _ rfl rfl rfl rfl rfl (QOp.ok (fun X => OpOk.fieldAddr fld111_3 rfl)) ?_
  refine Sd.quiet 2 _ _ rfl rfl rfl rfl rfl (QOp.ok (fun X => OpOk.load rfl rfl rfl (Blk.out Blk.pts.left.left.left.left _ _ (by first | rfl | assumption)))) ?_
  refine Sd.quiet 3 _ _ rfl rfl rfl rfl rfl (QOp.ok (fun X => OpOk.mulN 2 _ rfl rfl rfl rfl (by omega))) ?_
  refine Sd.quiet 4 _ _ rfl rfl rfl rfl rfl (QOp.ok (fun X => OpOk.addN 3 _ rfl rfl rfl rfl (by omega))) ?_
  refine Sd.quiet 5 _ _ rfl rfl rfl rfl rfl (QOp.ok (fun X => OpOk.move rfl)) ?_
  refine Sd.quiet 6 _ _ rfl rfl rfl rfl rfl (QOp.ok (fun X => OpOk.cut (j := 32) rfl ti5 rfl (Rd.right rd3).left.left rfl ⟨_, rfl⟩ (by omega) (by omega))) ?_
  refine Sd.quiet 7 _ _ rfl rfl rfl rfl rfl (QOp.ok (fun X => OpOk.move rfl)) ?_
  refine Sd.quiet 8 _ _ rfl rfl rfl rfl rfl (QOp.ok (fun X => OpOk.cut (i := 32) rfl ti5 rfl (Rd.right rd3).left.left ⟨_, rfl⟩ rfl (by omega) (by omega))) ?_
  (refine Sd.exec 9 rfl rfl rfl rfl rfl ?hrest (by rfl) (fun Xy1 Ky1 hKy1 => ?_); case hrest => kernel_rfl)
  refine RunL.mem (fl2 (sep_emp _) rfl) ?_
  have aly2 : Alls (GB w0) _ [(cutV vx10 0 32 1, List.take 32 (full64 bs)), (cutV vx10 32 64 1, List.drop 32 (full64 bs))] := (Alls.cons (GB.of rdc) (Alls.cons (GB.of rdd) Alls.nil))
  refine RunL.litV (ls := [(cutV vx10 0 32 1, List.take 32 (full64 bs)), (cutV vx10 32 64 1, List.drop 32 (full64 bs))]) (Alls.right aly2).left.left rfl ti63 rfl rfl rfl (by decide) rfl (fun vy2 rdy2 => ?_)
  refine RunL.know (fun w s => (s.conv rfl).ownRd0) (fun rdy3 => ?_)
  refine Sd.ret hKy1 (Eq.trans (frc (frl rfl) rfl) (gp2 rfl rfl)) ⟨_, (emp_sep _).symm⟩ ?_
  (refine Sd.exec 10 rfl rfl rfl rfl rfl ?hrest (by rfl) (fun Xy4 Ky4 hKy4 => ?_); case hrest => kernel_rfl)
  refine RunL.mem (fl2 rfl rfl) ?_
  refine RunL.call cal98 rfl (s98 (Rd.right rdy3) (Alls.right aly2).left.left (by assumption) (by assumption) (by assumption) (by omega) (by assumption)) rfl (fun vy5 Ay5 hy5 => ?_)
  obtain ⟨rfl, rfl⟩ := hy5
  refine Sd.ret hKy4 (Eq.trans rfl (gp2 (sep_emp _).symm (asg rfl))) ⟨_, rfl⟩ ?_
  refine Sd.quiet 11 _ _ rfl rfl rfl rfl rfl (QOp.ok (fun X => OpOk.assign rfl)) ?_
  (apply Sd.tail; case hall => kernel_rfl)
  refine RunL.mem (fl2 (flS rfl) (sep_emp _)) ?_
  refine RunL.nil ?_
  refine Run.seq ?_
  refine Run.region ?_
  refine RunL.ok (OpOk.move rfl) rfl ?_
  refine RunL.ok (OpOk.as (c := false) (OpOk.neq rfl rfl) (by rw [decide_eq_true (by omega)]; rfl)) rfl ?_
  refine RunL.nil ?_
  refine Run.condF rfl ?_
  refine Run.skip ?_
  refine Run.seq ?_
  refine Run.region ?_
  refine RunL.ok (OpOk.fieldAddr fld86_4 rfl) rfl ?_
  refine RunL.ok (OpOk.load rfl rfl rfl (Blk.out Blk.pts.left.left.left.left.left.left.left.left _ _ (by first | rfl | assumption))) rfl ?_
  refine RunL.call cal102 rfl (s102 rd.left.left.left.left.left.left.left.left.left (by omega)) rfl (fun vy6 Ay6 hy6 => ?_)
  obtain rfl := hy6
  refine RunL.ok (OpOk.assign rfl) rfl ?_
  refine RunL.nil ?_
  refine Run.seq ?_
  refine Run.seq ?_
  refine Run.region ?_
  refine RunL.ok (OpOk.move rfl) rfl ?_
  refine RunL.ok (OpOk.asT (OpOk.lss rfl rfl) (by omega)) rfl ?_
  refine RunL.nil ?_
  refine Run.condT rfl ?_
  refine Run.region ?_
  refine RunL.ok (OpOk.move rfl) rfl ?_
  refine RunL.ok (OpOk.loadS rfl rfl ti111 rfl Blk.pts.left.left.left.left.left rfl) rfl ?_
  refine RunL.litFl (enc := encT111) [(k, (o, (i, ↑f)))] rfl ti111 rfl (fun _ => rfl) rfl rfl (by decide) (by decide) rfl (fun vy7 rdy7 => ?_)
  refine RunL.know (fun w s => (s.conv rfl).ownRd0) (fun rdy9 => ?_)
  refine RunL.appendF rfl ti111 rfl rfl rfl (frl rfl) (Rd.right rdy9) rfl (by decide) (by omega) (by simp only [maxLen]; omega) rfl (fun vy8 rdy8 => ?_)
  refine RunL.ok (OpOk.assign rfl) rfl ?_
  refine RunL.nil ?_
  refine Run.seq ?_
  refine Run.region ?_
  refine RunL.ok (OpOk.loadS rfl rfl ti86 rfl Blk.pts.left.left.left.left.left.left.left.left.left.left rfl) rfl ?_
  refine RunL.ok (OpOk.move rfl) rfl ?_
  refine RunL.ok (OpOk.move rfl) rfl ?_
  refine RunL.know (fun w s => (s.conv rfl).ownRd0) (fun rdy10 => ?_)
  refine RunL.mem (frc (frl (frl rfl)) rfl) ?_
  obtain ⟨ad3, cap3, rfl, hcap3, had3⟩ := rdy10.form
  refine RunL.call cal100 rfl (s100a (Rd.right rdy10) (by assumption) (by assumption) (by assumption) (by assumption) (by assumption) (by assumption) (by assumption) (by assumption) (by assumption) rfl) rfl (fun vz1 Az1 hz1 => ?_)
  obtain ⟨z2, ⟨rfl, rfl⟩⟩ := hz1
  refine RunL.ok (OpOk.ext20 rfl) rfl ?_
  refine RunL.ok (OpOk.ext21 rfl) rfl ?_
  refine RunL.storeAll ti86 rfl rfl rfl (ones rfl) (frl (frl (frl (frl (frl (frl (frl (frl (frl (frl rfl)))))))))) rfl ?_
  refine RunL.ok (OpOk.assign rfl) rfl ?_
  refine RunL.nil ?_
  refine Run.retC2 (A' := _) Try.func57 rfl rfl rfl ti86 rfl rfl Blk.pts rfl (Grew.refl _) ?_
  exact ⟨_, _, _, rfl, (Eq.trans (frc (frl rfl) (frc (frl (frl rfl)) rfl)) (congrArg (· * _) (congrArg (· * _) (asg (asg (asg (asg (asg (asg (asg (asg (asg as1))))))))))))⟩
theorem s57i {zs : List UInt8} {w3 : Int} {t j : Nat} (hat : atE o i es = (j : Int)) (hjm : j < m) (hm : m ≤ 5) (rd : Rd w0 A (.slice ad m cap) 4 m (Fl encT111 es)) (rdb : Rd w0 A u 1 n (B bs)) (hf : freeE es = (f : Int)) (hf6 : f < 6) (hr : rightP (k, o, i, (f : Int))) (hn : n ≤ 64) (hes : ∀ e ∈ es, okE e) (hq0 : 0 ≤ q) (hq : q < 65535) (hx : xs.length = 512) (hy : ys.length = 512) (hw : w ≤ 9223372036854775807) (hw2 : w2 ≤ 9223372036854775807) (hc : 3 - c = (t : Int)) (ht : t ≤ 2) (hW : Wrote xs w (3 + 2 * f) [(full64 bs).take 32, (full64 bs).drop 32] ys w2 0) (hW2 : Wrote ys w2 t [sectB (listB (q + 1) (es.set j (k, o, i, (f : Int))))] zs w3 30) :
    Spec Try.prog w0 57 [.pointer (some ⟨p, 0, none⟩), .agg #[.int .i64 a, .int .i64 b, .int .i64 q, .int .i64 c, .slice ad m cap], .agg #[.int .i64 k, .int .i64 o, .int .i64 i, .int .i64 s], u] (A * pts p (.cells (B (xs) ++ [Value.int .i64 (w)]).toArray 177 (0, 0))) (fun v' A' => ∃ J, v' = .tuple #[.agg #[.int .i64 0, .int .i64 0, .int .i64 0, .int .i64 0, .slice none 0 0], .int .i64 30] ∧ A' = A * J * pts p (.cells (B (zs) ++ [Value.int .i64 (w3)]).toArray 177 (0, 0))) := by
  have hl0 := rd.lenFl (fun _ => rfl) (by decide)
  subst hl0
  have hl1 := rdb.lenB
  subst hl1
  have rw_f := hf
  have rw_s : 3 + 2 * (f : Int) = ((3 + 2 * f : Nat) : Int) := by omega
  have rw_j := hat
  have hes2 : ∀ e ∈ es.set j (k, o, i, (f : Int)), okE e := okE_set hes hr hf6
  have h32g : ∀ v v2 : Value, ∀ r ∈ [(v, (full64 bs).take 32), (v2, (full64 bs).drop 32)], r.2.length = 32 := fun v v2 r hr => by
    simp only [List.mem_cons, List.not_mem_nil, or_false] at hr
    rcases hr with rfl | rfl
    · show List.length (List.take 32 _) = 32
      rw [List.length_take, full64_len hn]; rfl
    · show List.length (List.drop 32 _) = 32
      rw [List.length_drop, full64_len hn]
  refine Spec.of_run [(0, .pointer (some ⟨p, 0, none⟩)), (1, .agg #[.int .i64 a, .int .i64 b, .int .i64 q, .int .i64 c, .slice ad es.length cap]), (2, .agg #[.int .i64 k, .int .i64 o, .int .i64 i, .int .i64 s]), (3, u)] Try.func57 rfl (Nat.le_of_ble_eq_true rfl) (by repeat (first | exact trivial | refine ⟨rfl, ?_⟩)) ?_
  have drawStop : True := trivial
  refine Run.seq ?_
  refine Run.region ?_
  refine RunL.box rfl rfl (fun bx1 => ?_)
  refine RunL.box rfl rfl (fun bx2 => ?_)
  refine RunL.alloc ti86 rfl (fun bx3 => ?_)
  refine RunL.ok (OpOk.assign rfl) rfl ?_
  refine RunL.nil ?_
  refine Run.seq ?_
  refine Run.region ?_
  refine RunL.ok (OpOk.loadS rfl rfl ti86 rfl Blk.pts.left.left rfl) rfl ?_
  refine RunL.ok (OpOk.fieldAddr fld111_1 rfl) rfl ?_
  refine RunL.ok (OpOk.load rfl rfl rfl (Blk.out Blk.pts.left _ _ (by first | rfl | assumption))) rfl ?_
  refine RunL.ok (OpOk.fieldAddr fld111_2 rfl) rfl ?_
  refine RunL.ok (OpOk.load rfl rfl rfl (Blk.out Blk.pts.left _ _ (by first | rfl | assumption))) rfl ?_
  refine RunL.call cal45 rfl (s45 rd.left.left.left.left) rfl (fun vx4 Ax4 hx4 => ?_)
  obtain ⟨x5, ⟨rfl, rfl⟩⟩ := hx4
  refine RunL.ok (OpOk.assign rfl) rfl ?_
  refine RunL.nil ?_
  refine Run.seq ?_
  rw [rw_j]
  refine Run.region ?_
  refine RunL.ok (OpOk.loadS rfl rfl ti86 rfl Blk.pts.left.left.left rfl) rfl ?_
  refine RunL.call cal47 rfl (s47 rd.left.left.left.left.left) rfl (fun vx6 Ax6 hx6 => ?_)
  obtain ⟨x7, ⟨rfl, rfl⟩⟩ := hx6
  refine RunL.ok (OpOk.fieldAddr fld111_3 rfl) rfl ?_
  refine RunL.store ti3 rfl rfl rfl (frl (frl (frl rfl))) (by exact Nat.le_of_ble_eq_true rfl) (.inl rfl) ?_
  refine RunL.nil ?_
  refine Run.seq ?_
  refine Run.block ?_
  refine Run.seq ?_
  rw [rw_f]
  refine Run.region ?_
  refine RunL.ok (OpOk.move rfl) rfl ?_
  refine RunL.ok (OpOk.eqlPN rfl rfl) rfl ?_
  refine RunL.ok (OpOk.move rfl) rfl ?_
  refine RunL.on rfl rfl ?_
  refine RunL.ok (OpOk.loadS rfl rfl ti111 rfl Blk.pts rfl) rfl ?_
  refine RunL.on rfl rfl ?_
  refine RunL.call cal103 rfl (s103) rfl (fun vx8 Ax8 hx8 => ?_)
  obtain ⟨x9, ⟨rfl, rfl⟩⟩ := hx8
  refine RunL.on rfl rfl ?_
  refine RunL.ok (OpOk.not rfl) rfl ?_
  refine RunL.ok (OpOk.pickF rfl rfl) rfl ?_
  refine RunL.ok (OpOk.assign rfl) rfl ?_
  refine RunL.nil ?_
  refine Run.condNF rfl (by first | omega | with_reducible rfl | assumption) ?_
  refine Run.seq ?_
  refine Run.region ?_
  refine RunL.ok (OpOk.move rfl) rfl ?_
  refine RunL.ok (OpOk.lenR rfl rfl rdb.left.left.left.left.left.left.left rfl) rfl ?_
  refine RunL.ok (OpOk.asF (OpOk.gtr rfl rfl) (by omega)) rfl ?_
  refine RunL.ok (OpOk.assign rfl) rfl ?_
  refine RunL.nil ?_
  refine Run.condF rfl ?_
  refine Run.seq ?_
  refine Run.region ?_
  refine RunL.ok (OpOk.move rfl) rfl ?_
  refine RunL.ok (OpOk.asF (OpOk.lss rfl rfl) (by omega)) rfl ?_
  refine RunL.ok (OpOk.move rfl) rfl ?_
  refine RunL.off rfl rfl rfl rfl ?_
  refine RunL.off rfl rfl rfl rfl ?_
  refine RunL.off rfl rfl rfl rfl ?_
  refine RunL.off rfl rfl rfl rfl ?_
  refine RunL.ok (OpOk.pickF rfl rfl) rfl ?_
  refine RunL.ok (OpOk.assign rfl) rfl ?_
  refine RunL.nil ?_
  refine Run.condF rfl ?_
  refine Run.seq ?_
  refine Run.region ?_
  refine RunL.ok (OpOk.fieldAddr fld86_2 rfl) rfl ?_
  refine RunL.ok (OpOk.load rfl rfl rfl (Blk.out Blk.pts.left.left.left.left.left _ _ (by first | rfl | assumption))) rfl ?_
  refine RunL.ok (OpOk.asF (OpOk.geq rfl rfl) (by omega)) rfl ?_
  refine RunL.ok (OpOk.assign rfl) rfl ?_
  refine RunL.nil ?_
  refine Run.condF rfl ?_
  refine Run.seq ?_
  refine Run.region ?_
  refine RunL.ok (OpOk.fieldAddr fld111_3 rfl) rfl ?_
  refine RunL.ok (OpOk.load rfl rfl rfl (Blk.out Blk.pts.left _ _ (by first | rfl | assumption))) rfl ?_
  refine RunL.ok (OpOk.asF (OpOk.lss rfl rfl) (by omega)) rfl ?_
  refine RunL.ok (OpOk.assign rfl) rfl ?_
  refine RunL.nil ?_
  refine Run.condF rfl ?_
  refine Run.skip ?_
  refine Run.inBlock ?_
  refine Run.seq ?_
  refine Run.region ?_
  refine RunL.makeB (m := 64) rfl ti5 rfl rfl (by omega) rfl (fun vx10 rdx10 => ?_)
  refine RunL.ok (OpOk.assign rfl) rfl ?_
  refine RunL.nil ?_
  refine Run.seq ?_
  refine Run.region ?_
  refine RunL.ok (OpOk.move rfl) rfl ?_
  refine RunL.ok (OpOk.move rfl) rfl ?_
  refine RunL.copyB rfl ti5 rfl rfl rfl rfl rdb.left.left.left.left.left.left.left.left rfl (fun rdx11 => ?_)
  refine RunL.nil ?_
  refine Run.seq ?_
  refine Run.seq ?_
  clear drawStop
  rw [laid_full hn]
  refine Run.know (fun w s => s.ownRd0) (fun rd3 => ?_)
  have rdc := rd3.cutB0 (j := 32) (by omega)
  have rdd := rd3.cutB (i := 32) (j := 64) (by omega) (by omega)
  rw [List.take_of_length_le (by rw [List.length_drop, full64_len hn]; decide), show 64 - 32 = 32 from rfl] at rdd
  have h32 : ∀ r ∈ [(cutV vx10 0 32 1, (full64 bs).take 32), (cutV vx10 32 64 1, (full64 bs).drop 32)], r.2.length = 32 := h32g _ _
  (apply Run.drawD [] (by rfl) (Eq.trans (frc (frl (frl (frl (frl (frl (frl (frl rfl))))))) rfl) rfl); case hchk => kernel_rfl)
  refine Sd.quiet 0 _ _ rfl rfl rfl rfl rfl (QOp.ok (fun X => OpOk.move rfl)) ?_
  refine Sd.quiet 1 _ _ rfl rfl rfl rfl rfl (QOp.ok (fun X => OpOk.fieldAddr fld111_3 rfl)) ?_
  refine Sd.quiet 2 _ _ rfl rfl rfl rfl rfl (QOp.ok (fun X => OpOk.load rfl rfl rfl (Blk.out Blk.pts.left.left.left.left _ _ (by first | rfl | assumption)))) ?_
  refine Sd.quiet 3 _ _ rfl rfl rfl rfl rfl (QOp.ok (fun X => OpOk.mulN 2 _ rfl rfl rfl rfl (by omega))) ?_
  refine Sd.quiet 4 _ _ rfl rfl rfl rfl rfl (QOp.ok (fun X => OpOk.addN 3 _ rfl rfl rfl rfl (by omega))) ?_
  refine Sd.quiet 5 _ _ rfl rfl rfl rfl rfl (QOp.ok (fun X => OpOk.move rfl)) ?_
  refine Sd.quiet 6 _ _ rfl rfl rfl rfl rfl (QOp.ok (fun X => OpOk.cut (j := 32) rfl ti5 rfl (Rd.right rd3).left.left rfl ⟨_, rfl⟩ (by omega) (by omega))) ?_
  refine Sd.quiet 7 _ _ rfl rfl rfl rfl rfl (QOp.ok (fun X => OpOk.move rfl)) ?_
  refine Sd.quiet 8 _ _ rfl rfl rfl rfl rfl (QOp.ok (fun X => OpOk.cut (i := 32) rfl ti5 rfl (Rd.right rd3).left.left ⟨_, rfl⟩ rfl (by omega) (by omega))) ?_
  (refine Sd.exec 9 rfl rfl rfl rfl rfl ?hrest (by rfl) (fun Xy1 Ky1 hKy1 => ?_); case hrest => kernel_rfl)
  refine RunL.mem (fl2 (sep_emp _) rfl) ?_
  have aly2 : Alls (GB w0) _ [(cutV vx10 0 32 1, List.take 32 (full64 bs)), (cutV vx10 32 64 1, List.drop 32 (full64 bs))] := (Alls.cons (GB.of rdc) (Alls.cons (GB.of rdd) Alls.nil))
  refine RunL.litV (ls := [(cutV vx10 0 32 1, List.take 32 (full64 bs)), (cutV vx10 32 64 1, List.drop 32 (full64 bs))]) (Alls.right aly2).left.left rfl ti63 rfl rfl rfl (by decide) rfl (fun vy2 rdy2 => ?_)
  refine RunL.know (fun w s => (s.conv rfl).ownRd0) (fun rdy3 => ?_)
  refine Sd.ret hKy1 (Eq.trans (frc (frl rfl) rfl) (gp2 rfl rfl)) ⟨_, (emp_sep _).symm⟩ ?_
  (refine Sd.exec 10 rfl rfl rfl rfl rfl ?hrest (by rfl) (fun Xy4 Ky4 hKy4 => ?_); case hrest => kernel_rfl)
  refine RunL.mem (fl2 rfl rfl) ?_
  refine RunL.call cal98 rfl (s98 (Rd.right rdy3) (Alls.right aly2).left.left (by assumption) (by assumption) (by assumption) (by omega) (by assumption)) rfl (fun vy5 Ay5 hy5 => ?_)
  obtain ⟨rfl, rfl⟩ := hy5
  refine Sd.ret hKy4 (Eq.trans rfl (gp2 (sep_emp _).symm (asg rfl))) ⟨_, rfl⟩ ?_
  refine Sd.quiet 11 _ _ rfl rfl rfl rfl rfl (QOp.ok (fun X => OpOk.assign rfl)) ?_
  (apply Sd.tail; case hall => kernel_rfl)
  refine RunL.mem (fl2 (flS rfl) (sep_emp _)) ?_
  refine RunL.nil ?_
  refine Run.seq ?_
  refine Run.region ?_
  refine RunL.ok (OpOk.move rfl) rfl ?_
  refine RunL.ok (OpOk.as (c := false) (OpOk.neq rfl rfl) (by rw [decide_eq_true (by omega)]; rfl)) rfl ?_
  refine RunL.nil ?_
  refine Run.condF rfl ?_
  refine Run.skip ?_
  refine Run.seq ?_
  refine Run.region ?_
  refine RunL.ok (OpOk.fieldAddr fld86_4 rfl) rfl ?_
  refine RunL.ok (OpOk.load rfl rfl rfl (Blk.out Blk.pts.left.left.left.left.left.left.left.left _ _ (by first | rfl | assumption))) rfl ?_
  refine RunL.call cal102 rfl (s102 rd.left.left.left.left.left.left.left.left.left (by omega)) rfl (fun vy6 Ay6 hy6 => ?_)
  obtain rfl := hy6
  refine RunL.ok (OpOk.assign rfl) rfl ?_
  refine RunL.nil ?_
  refine Run.seq ?_
  refine Run.seq ?_
  refine Run.region ?_
  refine RunL.ok (OpOk.move rfl) rfl ?_
  refine RunL.ok (OpOk.asF (OpOk.lss rfl rfl) (by omega)) rfl ?_
  refine RunL.nil ?_
  refine Run.condF rfl ?_
  refine Run.region ?_
  refine RunL.ok (OpOk.move rfl) rfl ?_
  refine RunL.ok (OpOk.move rfl) rfl ?_
  refine RunL.ok (OpOk.loadS rfl rfl ti111 rfl Blk.pts.left.left.left.left.left rfl) rfl ?_
  refine RunL.know (fun w s => (s.conv rfl).ownRd0) (fun rdy7 => ?_)
  refine RunL.ok (OpOk.idxN rfl ti111 rfl (Rd.right rdy7) rfl (by omega)) rfl ?_
  refine RunL.storeFl (enc := encT111) ((k, (o, (i, ↑f)))) ti111 rfl rfl rfl (fun _ => rfl) rfl rfl (by first | omega | (simp; omega)) (by omega) ?_
  refine RunL.nil ?_
  refine Run.seq ?_
  refine Run.region ?_
  refine RunL.ok (OpOk.loadS rfl rfl ti86 rfl Blk.pts.left.left.left.left.left.left.left.left.left rfl) rfl ?_
  refine RunL.ok (OpOk.move rfl) rfl ?_
  refine RunL.ok (OpOk.move rfl) rfl ?_
  refine RunL.know (fun w s => (s.conv rfl).ownRd0) (fun rdy8 => ?_)
  refine RunL.mem (frc (frl rfl) rfl) ?_
  obtain ⟨ad3, cap3, rfl, hcap3, had3⟩ := rdy8.form
  refine RunL.call cal100 rfl (s100b (Rd.right rdy8) (by assumption) (by assumption) (by assumption) (by assumption) (by assumption) (by assumption) (by assumption) (by assumption) (by assumption) rfl) rfl (fun vz2 Az2 hz2 => ?_)
  obtain ⟨z3, ⟨rfl, rfl⟩⟩ := hz2
  refine RunL.ok (OpOk.ext20 rfl) rfl ?_
  refine RunL.ok (OpOk.ext21 rfl) rfl ?_
  refine RunL.storeAll ti86 rfl rfl rfl (ones rfl) (frl (frl (frl (frl (frl (frl (frl (frl (frl rfl))))))))) rfl ?_
  refine RunL.ok (OpOk.assign rfl) rfl ?_
  refine RunL.nil ?_
  refine Run.retC2 (A' := _) Try.func57 rfl rfl rfl ti86 rfl rfl Blk.pts rfl (Grew.refl _) ?_
  exact ⟨_, rfl, (Eq.trans (frc (frl rfl) rfl) (congrArg (· * _) (asg (asg (asg (asg (asg (asg (asg (asg (asg as1)))))))))))⟩
theorem s57j {zs : List UInt8} {w3 : Int} {t j : Nat} (hat : atE o i es = (j : Int)) (hjm : j < m) (hm : m ≤ 5) (rd : Rd w0 A (.slice ad m cap) 4 m (Fl encT111 es)) (rdb : Rd w0 A u 1 n (B bs)) (hf : freeE es = (f : Int)) (hf6 : f < 6) (hr : rightP (k, o, i, (f : Int))) (hn : n ≤ 64) (hes : ∀ e ∈ es, okE e) (hq0 : 0 ≤ q) (hq : q < 65535) (hx : xs.length = 512) (hy : ys.length = 512) (hw : w ≤ 9223372036854775807) (hw2 : w2 ≤ 9223372036854775807) (hc : 3 - c = (t : Int)) (ht : t ≤ 2) (hW : Wrote xs w (3 + 2 * f) [(full64 bs).take 32, (full64 bs).drop 32] ys w2 0) (hW2 : Wrote ys w2 t [sectB (listB (q + 1) (es.set j (k, o, i, (f : Int))))] zs w3 0) :
    Spec Try.prog w0 57 [.pointer (some ⟨p, 0, none⟩), .agg #[.int .i64 a, .int .i64 b, .int .i64 q, .int .i64 c, .slice ad m cap], .agg #[.int .i64 k, .int .i64 o, .int .i64 i, .int .i64 s], u] (A * pts p (.cells (B (xs) ++ [Value.int .i64 (w)]).toArray 177 (0, 0))) (fun v' A' => ∃ ad2 cap2 J, v' = .tuple #[.agg #[.int .i64 a, .int .i64 b, .int .i64 (q + 1), .int .i64 (t : Int), .slice ad2 es.length cap2], .int .i64 0] ∧ A' = A * J * own 111 4 (.slice ad2 es.length cap2) (es.length) (Fl encT111 (es.set j (k, o, i, (f : Int)))) * pts p (.cells (B (zs) ++ [Value.int .i64 (w3)]).toArray 177 (0, 0))) := by
  have hl0 := rd.lenFl (fun _ => rfl) (by decide)
  subst hl0
  have hl1 := rdb.lenB
  subst hl1
  have rw_f := hf
  have rw_s : 3 + 2 * (f : Int) = ((3 + 2 * f : Nat) : Int) := by omega
  have rw_j := hat
  have hes2 : ∀ e ∈ es.set j (k, o, i, (f : Int)), okE e := okE_set hes hr hf6
  have h32g : ∀ v v2 : Value, ∀ r ∈ [(v, (full64 bs).take 32), (v2, (full64 bs).drop 32)], r.2.length = 32 := fun v v2 r hr => by
    simp only [List.mem_cons, List.not_mem_nil, or_false] at hr
    rcases hr with rfl | rfl
    · show List.length (List.take 32 _) = 32
      rw [List.length_take, full64_len hn]; rfl
    · show List.length (List.drop 32 _) = 32
      rw [List.length_drop, full64_len hn]
  refine Spec.of_run [(0, .pointer (some ⟨p, 0, none⟩)), (1, .agg #[.int .i64 a, .int .i64 b, .int .i64 q, .int .i64 c, .slice ad es.length cap]), (2, .agg #[.int .i64 k, .int .i64 o, .int .i64 i, .int .i64 s]), (3, u)] Try.func57 rfl (Nat.le_of_ble_eq_true rfl) (by repeat (first | exact trivial | refine ⟨rfl, ?_⟩)) ?_
  have drawStop : True := trivial
  refine Run.seq ?_
  refine Run.region ?_
  refine RunL.box rfl rfl (fun bx1 => ?_)
  refine RunL.box rfl rfl (fun bx2 => ?_)
  refine RunL.alloc ti86 rfl (fun bx3 => ?_)
  refine RunL.ok (OpOk.assign rfl) rfl ?_
  refine RunL.nil ?_
  refine Run.seq ?_
  refine Run.region ?_
  refine RunL.ok (OpOk.loadS rfl rfl ti86 rfl Blk.pts.left.left rfl) rfl ?_
  refine RunL.ok (OpOk.fieldAddr fld111_1 rfl) rfl ?_
  refine RunL.ok (OpOk.load rfl rfl rfl (Blk.out Blk.pts.left _ _ (by first | rfl | assumption))) rfl ?_
  refine RunL.ok (OpOk.fieldAddr fld111_2 rfl) rfl ?_
  refine RunL.ok (OpOk.load rfl rfl rfl (Blk.out Blk.pts.left _ _ (by first | rfl | assumption))) rfl ?_
  refine RunL.call cal45 rfl (s45 rd.left.left.left.left) rfl (fun vx4 Ax4 hx4 => ?_)
  obtain ⟨x5, ⟨rfl, rfl⟩⟩ := hx4
  refine RunL.ok (OpOk.assign rfl) rfl ?_
  refine RunL.nil ?_
  refine Run.seq ?_
  rw [rw_j]
  refine Run.region ?_
  refine RunL.ok (OpOk.loadS rfl rfl ti86 rfl Blk.pts.left.left.left rfl) rfl ?_
  refine RunL.call cal47 rfl (s47 rd.left.left.left.left.left) rfl (fun vx6 Ax6 hx6 => ?_)
  obtain ⟨x7, ⟨rfl, rfl⟩⟩ := hx6
  refine RunL.ok (OpOk.fieldAddr fld111_3 rfl) rfl ?_
  refine RunL.store ti3 rfl rfl rfl (frl (frl (frl rfl))) (by exact Nat.le_of_ble_eq_true rfl) (.inl rfl) ?_
  refine RunL.nil ?_
  refine Run.seq ?_
  refine Run.block ?_
  refine Run.seq ?_
  rw [rw_f]
  refine Run.region ?_
  refine RunL.ok (OpOk.move rfl) rfl ?_
  refine RunL.ok (OpOk.eqlPN rfl rfl) rfl ?_
  refine RunL.ok (OpOk.move rfl) rfl ?_
  refine RunL.on rfl rfl ?_
  refine RunL.ok (OpOk.loadS rfl rfl ti111 rfl Blk.pts rfl) rfl ?_
  refine RunL.on rfl rfl ?_
  refine RunL.call cal103 rfl (s103) rfl (fun vx8 Ax8 hx8 => ?_)
  obtain ⟨x9, ⟨rfl, rfl⟩⟩ := hx8
  refine RunL.on rfl rfl ?_
  refine RunL.ok (OpOk.not rfl) rfl ?_
  refine RunL.ok (OpOk.pickF rfl rfl) rfl ?_
  refine RunL.ok (OpOk.assign rfl) rfl ?_
  refine RunL.nil ?_
  refine Run.condNF rfl (by first | omega | with_reducible rfl | assumption) ?_
  refine Run.seq ?_
  refine Run.region ?_
  refine RunL.ok (OpOk.move rfl) rfl ?_
  refine RunL.ok (OpOk.lenR rfl rfl rdb.left.left.left.left.left.left.left rfl) rfl ?_
  refine RunL.ok (OpOk.asF (OpOk.gtr rfl rfl) (by omega)) rfl ?_
  refine RunL.ok (OpOk.assign rfl) rfl ?_
  refine RunL.nil ?_
  refine Run.condF rfl ?_
  refine Run.seq ?_
  refine Run.region ?_
  refine RunL.ok (OpOk.move rfl) rfl ?_
  refine RunL.ok (OpOk.asF (OpOk.lss rfl rfl) (by omega)) rfl ?_
  refine RunL.ok (OpOk.move rfl) rfl ?_
  refine RunL.off rfl rfl rfl rfl ?_
  refine RunL.off rfl rfl rfl rfl ?_
  refine RunL.off rfl rfl rfl rfl ?_
  refine RunL.off rfl rfl rfl rfl ?_
  refine RunL.ok (OpOk.pickF rfl rfl) rfl ?_
  refine RunL.ok (OpOk.assign rfl) rfl ?_
  refine RunL.nil ?_
  refine Run.condF rfl ?_
  refine Run.seq ?_
  refine Run.region ?_
  refine RunL.ok (OpOk.fieldAddr fld86_2 rfl) rfl ?_
  refine RunL.ok (OpOk.load rfl rfl rfl (Blk.out Blk.pts.left.left.left.left.left _ _ (by first | rfl | assumption))) rfl ?_
  refine RunL.ok (OpOk.asF (OpOk.geq rfl rfl) (by omega)) rfl ?_
  refine RunL.ok (OpOk.assign rfl) rfl ?_
  refine RunL.nil ?_
  refine Run.condF rfl ?_
  refine Run.seq ?_
  refine Run.region ?_
  refine RunL.ok (OpOk.fieldAddr fld111_3 rfl) rfl ?_
  refine RunL.ok (OpOk.load rfl rfl rfl (Blk.out Blk.pts.left _ _ (by first | rfl | assumption))) rfl ?_
  refine RunL.ok (OpOk.asF (OpOk.lss rfl rfl) (by omega)) rfl ?_
  refine RunL.ok (OpOk.assign rfl) rfl ?_
  refine RunL.nil ?_
  refine Run.condF rfl ?_
  refine Run.skip ?_
  refine Run.inBlock ?_
  refine Run.seq ?_
  refine Run.region ?_
  refine RunL.makeB (m := 64) rfl ti5 rfl rfl (by omega) rfl (fun vx10 rdx10 => ?_)
  refine RunL.ok (OpOk.assign rfl) rfl ?_
  refine RunL.nil ?_
  refine Run.seq ?_
  refine Run.region ?_
  refine RunL.ok (OpOk.move rfl) rfl ?_
  refine RunL.ok (OpOk.move rfl) rfl ?_
  refine RunL.copyB rfl ti5 rfl rfl rfl rfl rdb.left.left.left.left.left.left.left.left rfl (fun rdx11 => ?_)
  refine RunL.nil ?_
  refine Run.seq ?_
  refine Run.seq ?_
  clear drawStop
  rw [laid_full hn]
  refine Run.know (fun w s => s.ownRd0) (fun rd3 => ?_)
  have rdc := rd3.cutB0 (j := 32) (by omega)
  have rdd := rd3.cutB (i := 32) (j := 64) (by omega) (by omega)
  rw [List.take_of_length_le (by rw [List.length_drop, full64_len hn]; decide), show 64 - 32 = 32 from rfl] at rdd
  have h32 : ∀ r ∈ [(cutV vx10 0 32 1, (full64 bs).take 32), (cutV vx10 32 64 1, (full64 bs).drop 32)], r.2.length = 32 := h32g _ _
  (apply Run.drawD [] (by rfl) (Eq.trans (frc (frl (frl (frl (frl (frl (frl (frl rfl))))))) rfl) rfl); case hchk => kernel_rfl)
  refine Sd.quiet 0 _ _ rfl rfl rfl rfl rfl (QOp.ok (fun X => OpOk.move rfl)) ?_
  refine Sd.quiet 1 _ _ rfl rfl rfl rfl rfl (QOp.ok (fun X => OpOk.fieldAddr fld111_3 rfl)) ?_
  refine Sd.quiet 2 _ _ rfl rfl rfl rfl rfl (QOp.ok (fun X => OpOk.load rfl rfl rfl (Blk.out Blk.pts.left.left.left.left _ _ (by first | rfl | assumption)))) ?_
  refine Sd.quiet 3 _ _ rfl rfl rfl rfl rfl (QOp.ok (fun X => OpOk.mulN 2 _ rfl rfl rfl rfl (by omega))) ?_
  refine Sd.quiet 4 _ _ rfl rfl rfl rfl rfl (QOp.ok (fun X => OpOk.addN 3 _ rfl rfl rfl rfl (by omega))) ?_
  refine Sd.quiet 5 _ _ rfl rfl rfl rfl rfl (QOp.ok (fun X => OpOk.move rfl)) ?_
  refine Sd.quiet 6 _ _ rfl rfl rfl rfl rfl (QOp.ok (fun X => OpOk.cut (j := 32) rfl ti5 rfl (Rd.right rd3).left.left rfl ⟨_, rfl⟩ (by omega) (by omega))) ?_
  refine Sd.quiet 7 _ _ rfl rfl rfl rfl rfl (QOp.ok (fun X => OpOk.move rfl)) ?_
  refine Sd.quiet 8 _ _ rfl rfl rfl rfl rfl (QOp.ok (fun X => OpOk.cut (i := 32) rfl ti5 rfl (Rd.right rd3).left.left ⟨_, rfl⟩ rfl (by omega) (by omega))) ?_
  (refine Sd.exec 9 rfl rfl rfl rfl rfl ?hrest (by rfl) (fun Xy1 Ky1 hKy1 => ?_); case hrest => kernel_rfl)
  refine RunL.mem (fl2 (sep_emp _) rfl) ?_
  have aly2 : Alls (GB w0) _ [(cutV vx10 0 32 1, List.take 32 (full64 bs)), (cutV vx10 32 64 1, List.drop 32 (full64 bs))] := (Alls.cons (GB.of rdc) (Alls.cons (GB.of rdd) Alls.nil))
  refine RunL.litV (ls := [(cutV vx10 0 32 1, List.take 32 (full64 bs)), (cutV vx10 32 64 1, List.drop 32 (full64 bs))]) (Alls.right aly2).left.left rfl ti63 rfl rfl rfl (by decide) rfl (fun vy2 rdy2 => ?_)
  refine RunL.know (fun w s => (s.conv rfl).ownRd0) (fun rdy3 => ?_)
  refine Sd.ret hKy1 (Eq.trans (frc (frl rfl) rfl) (gp2 rfl rfl)) ⟨_, (emp_sep _).symm⟩ ?_
  (refine Sd.exec 10 rfl rfl rfl rfl rfl ?hrest (by rfl) (fun Xy4 Ky4 hKy4 => ?_); case hrest => kernel_rfl)
  refine RunL.mem (fl2 rfl rfl) ?_
  refine RunL.call cal98 rfl (s98 (Rd.right rdy3) (Alls.right aly2).left.left (by assumption) (by assumption) (by assumption) (by omega) (by assumption)) rfl (fun vy5 Ay5 hy5 => ?_)
  obtain ⟨rfl, rfl⟩ := hy5
  refine Sd.ret hKy4 (Eq.trans rfl (gp2 (sep_emp _).symm (asg rfl))) ⟨_, rfl⟩ ?_
  refine Sd.quiet 11 _ _ rfl rfl rfl rfl rfl (QOp.ok (fun X => OpOk.assign rfl)) ?_
  (apply Sd.tail; case hall => kernel_rfl)
  refine RunL.mem (fl2 (flS rfl) (sep_emp _)) ?_
  refine RunL.nil ?_
  refine Run.seq ?_
  refine Run.region ?_
  refine RunL.ok (OpOk.move rfl) rfl ?_
  refine RunL.ok (OpOk.as (c := false) (OpOk.neq rfl rfl) (by rw [decide_eq_true (by omega)]; rfl)) rfl ?_
  refine RunL.nil ?_
  refine Run.condF rfl ?_
  refine Run.skip ?_
  refine Run.seq ?_
  refine Run.region ?_
  refine RunL.ok (OpOk.fieldAddr fld86_4 rfl) rfl ?_
  refine RunL.ok (OpOk.load rfl rfl rfl (Blk.out Blk.pts.left.left.left.left.left.left.left.left _ _ (by first | rfl | assumption))) rfl ?_
  refine RunL.call cal102 rfl (s102 rd.left.left.left.left.left.left.left.left.left (by omega)) rfl (fun vy6 Ay6 hy6 => ?_)
  obtain rfl := hy6
  refine RunL.ok (OpOk.assign rfl) rfl ?_
  refine RunL.nil ?_
  refine Run.seq ?_
  refine Run.seq ?_
  refine Run.region ?_
  refine RunL.ok (OpOk.move rfl) rfl ?_
  refine RunL.ok (OpOk.asF (OpOk.lss rfl rfl) (by omega)) rfl ?_
  refine RunL.nil ?_
  refine Run.condF rfl ?_
  refine Run.region ?_
  refine RunL.ok (OpOk.move rfl) rfl ?_
  refine RunL.ok (OpOk.move rfl) rfl ?_
  refine RunL.ok (OpOk.loadS rfl rfl ti111 rfl Blk.pts.left.left.left.left.left rfl) rfl ?_
  refine RunL.know (fun w s => (s.conv rfl).ownRd0) (fun rdy7 => ?_)
  refine RunL.ok (OpOk.idxN rfl ti111 rfl (Rd.right rdy7) rfl (by omega)) rfl ?_
  refine RunL.storeFl (enc := encT111) ((k, (o, (i, ↑f)))) ti111 rfl rfl rfl (fun _ => rfl) rfl rfl (by first | omega | (simp; omega)) (by omega) ?_
  refine RunL.nil ?_
  refine Run.seq ?_
  refine Run.region ?_
  refine RunL.ok (OpOk.loadS rfl rfl ti86 rfl Blk.pts.left.left.left.left.left.left.left.left.left rfl) rfl ?_
  refine RunL.ok (OpOk.move rfl) rfl ?_
  refine RunL.ok (OpOk.move rfl) rfl ?_
  refine RunL.know (fun w s => (s.conv rfl).ownRd0) (fun rdy8 => ?_)
  refine RunL.mem (frc (frl rfl) rfl) ?_
  obtain ⟨ad3, cap3, rfl, hcap3, had3⟩ := rdy8.form
  refine RunL.call cal100 rfl (s100a (Rd.right rdy8) (by assumption) (by assumption) (by assumption) (by assumption) (by assumption) (by assumption) (by assumption) (by assumption) (by assumption) rfl) rfl (fun vz1 Az1 hz1 => ?_)
  obtain ⟨z2, ⟨rfl, rfl⟩⟩ := hz1
  refine RunL.ok (OpOk.ext20 rfl) rfl ?_
  refine RunL.ok (OpOk.ext21 rfl) rfl ?_
  refine RunL.storeAll ti86 rfl rfl rfl (ones rfl) (frl (frl (frl (frl (frl (frl (frl (frl (frl rfl))))))))) rfl ?_
  refine RunL.ok (OpOk.assign rfl) rfl ?_
  refine RunL.nil ?_
  refine Run.retC2 (A' := _) Try.func57 rfl rfl rfl ti86 rfl rfl Blk.pts rfl (Grew.refl _) ?_
  exact ⟨_, _, _, rfl, (Eq.trans (frc (frl rfl) (frc (frl (frl rfl)) rfl)) (congrArg (· * _) (congrArg (· * _) (asg (asg (asg (asg (asg (asg (asg (asg as1)))))))))))⟩
end
end Go.Proofs.Yteopadjihklkmaa
end

section
namespace Go.Proofs.Yteopadjihklkmaa
open Go Go.Proofs
set_option maxRecDepth 100000
set_option maxHeartbeats 4000000
set_option linter.unusedSimpArgs false
set_option linter.unusedVariables false
section
variable {w0 : World} {A : Asn} {p : Nat} {a b q c o i w : Int} {ad : Option Addr} {m cap : Nat} {es : List En} {xs : List UInt8}
theorem s56a (rd : Rd w0 A (.slice ad m cap) 4 m (Fl encT111 es)) (hat : atE o i es < 0) :
    Spec Try.prog w0 56 [.pointer (some ⟨p, 0, none⟩), .agg #[.int .i64 a, .int .i64 b, .int .i64 q, .int .i64 c, .slice ad m cap], .int .i64 o, .int .i64 i] A (fun v' A' => ∃ J, v' = .tuple #[.agg #[.int .i64 0, .int .i64 0, .int .i64 0, .int .i64 0, .slice none 0 0], .int .i64 21] ∧ A' = A * J) := by
  refine Spec.of_run [(0, .pointer (some ⟨p, 0, none⟩)), (1, .agg #[.int .i64 a, .int .i64 b, .int .i64 q, .int .i64 c, .slice ad m cap]), (2, .int .i64 o), (3, .int .i64 i)] Try.func56 rfl (Nat.le_of_ble_eq_true rfl) (by repeat (first | exact trivial | refine ⟨rfl, ?_⟩)) ?_
  refine Run.seq ?_
  refine Run.region ?_
  refine RunL.box rfl rfl (fun bx1 => ?_)
  refine RunL.alloc ti86 rfl (fun bx2 => ?_)
  refine RunL.ok (OpOk.assign rfl) rfl ?_
  refine RunL.nil ?_
  refine Run.seq ?_
  refine Run.region ?_
  refine RunL.ok (OpOk.loadS rfl rfl ti86 rfl Blk.pts.left rfl) rfl ?_
  refine RunL.ok (OpOk.move rfl) rfl ?_
  refine RunL.ok (OpOk.move rfl) rfl ?_
  refine RunL.call cal45 rfl (s45 rd.left.left) rfl (fun vx3 Ax3 hx3 => ?_)
  obtain ⟨x4, ⟨rfl, rfl⟩⟩ := hx3
  refine RunL.ok (OpOk.assign rfl) rfl ?_
  refine RunL.nil ?_
  refine Run.seq ?_
  refine Run.block ?_
  refine Run.seq ?_
  refine Run.region ?_
  refine RunL.ok (OpOk.move rfl) rfl ?_
  refine RunL.ok (OpOk.eqlPN rfl rfl) rfl ?_
  refine RunL.ok (OpOk.assign rfl) rfl ?_
  refine RunL.nil ?_
  refine Run.condF rfl ?_
  refine Run.seq ?_
  refine Run.region ?_
  refine RunL.ok (OpOk.move rfl) rfl ?_
  refine RunL.ok (OpOk.asT (OpOk.lss rfl rfl) (by omega)) rfl ?_
  refine RunL.ok (OpOk.assign rfl) rfl ?_
  refine RunL.nil ?_
  refine Run.condT rfl ?_
  refine Run.seq ?_
  refine Run.region ?_
  refine RunL.ok (OpOk.build rfl (fun w => run_build w 86 _ _ (by rfl))) rfl ?_
  refine RunL.storeAll ti86 rfl rfl rfl (ones rfl) (frl rfl) rfl ?_
  refine RunL.ok (OpOk.assign rfl) rfl ?_
  refine RunL.nil ?_
  refine Run.retC2 (A' := _) Try.func56 rfl rfl rfl ti86 rfl rfl Blk.pts rfl (Grew.refl _) ?_
  exact ⟨_, rfl, (asg (asg as1))⟩
theorem s56b (rd : Rd w0 A (.slice ad m cap) 4 m (Fl encT111 es)) (hat : 0 ≤ atE o i es) (hq : 65535 ≤ q) :
    Spec Try.prog w0 56 [.pointer (some ⟨p, 0, none⟩), .agg #[.int .i64 a, .int .i64 b, .int .i64 q, .int .i64 c, .slice ad m cap], .int .i64 o, .int .i64 i] A (fun v' A' => ∃ J, v' = .tuple #[.agg #[.int .i64 0, .int .i64 0, .int .i64 0, .int .i64 0, .slice none 0 0], .int .i64 29] ∧ A' = A * J) := by
  refine Spec.of_run [(0, .pointer (some ⟨p, 0, none⟩)), (1, .agg #[.int .i64 a, .int .i64 b, .int .i64 q, .int .i64 c, .slice ad m cap]), (2, .int .i64 o), (3, .int .i64 i)] Try.func56 rfl (Nat.le_of_ble_eq_true rfl) (by repeat (first | exact trivial | refine ⟨rfl, ?_⟩)) ?_
  refine Run.seq ?_
  refine Run.region ?_
  refine RunL.box rfl rfl (fun bx1 => ?_)
  refine RunL.alloc ti86 rfl (fun bx2 => ?_)
  refine RunL.ok (OpOk.assign rfl) rfl ?_
  refine RunL.nil ?_
  refine Run.seq ?_
  refine Run.region ?_
  refine RunL.ok (OpOk.loadS rfl rfl ti86 rfl Blk.pts.left rfl) rfl ?_
  refine RunL.ok (OpOk.move rfl) rfl ?_
  refine RunL.ok (OpOk.move rfl) rfl ?_
  refine RunL.call cal45 rfl (s45 rd.left.left) rfl (fun vx3 Ax3 hx3 => ?_)
  obtain ⟨x4, ⟨rfl, rfl⟩⟩ := hx3
  refine RunL.ok (OpOk.assign rfl) rfl ?_
  refine RunL.nil ?_
  refine Run.seq ?_
  refine Run.block ?_
  refine Run.seq ?_
  refine Run.region ?_
  refine RunL.ok (OpOk.move rfl) rfl ?_
  refine RunL.ok (OpOk.eqlPN rfl rfl) rfl ?_
  refine RunL.ok (OpOk.assign rfl) rfl ?_
  refine RunL.nil ?_
  refine Run.condF rfl ?_
  refine Run.seq ?_
  refine Run.region ?_
  refine RunL.ok (OpOk.move rfl) rfl ?_
  refine RunL.ok (OpOk.asF (OpOk.lss rfl rfl) (by omega)) rfl ?_
  refine RunL.ok (OpOk.assign rfl) rfl ?_
  refine RunL.nil ?_
  refine Run.condF rfl ?_
  refine Run.seq ?_
  refine Run.region ?_
  refine RunL.ok (OpOk.fieldAddr fld86_2 rfl) rfl ?_
  refine RunL.ok (OpOk.load rfl rfl rfl (Blk.out Blk.pts.left.left _ _ (by first | rfl | assumption))) rfl ?_
  refine RunL.ok (OpOk.asT (OpOk.geq rfl rfl) (by omega)) rfl ?_
  refine RunL.ok (OpOk.assign rfl) rfl ?_
  refine RunL.nil ?_
  refine Run.condT rfl ?_
  refine Run.seq ?_
  refine Run.region ?_
  refine RunL.ok (OpOk.build rfl (fun w => run_build w 86 _ _ (by rfl))) rfl ?_
  refine RunL.storeAll ti86 rfl rfl rfl (ones rfl) (frl rfl) rfl ?_
  refine RunL.ok (OpOk.assign rfl) rfl ?_
  refine RunL.nil ?_
  refine Run.retC2 (A' := _) Try.func56 rfl rfl rfl ti86 rfl rfl Blk.pts rfl (Grew.refl _) ?_
  exact ⟨_, rfl, (asg (asg as1))⟩
theorem s56c {zs : List UInt8} {w3 : Int} {t j : Nat} (rd : Rd w0 A (.slice ad m cap) 4 m (Fl encT111 es)) (hat : atE o i es = (j : Int)) (hjm : j < m) (hm : m ≤ 5) (hes : ∀ e ∈ es, okE e) (hq0 : 0 ≤ q) (hq : q < 65535) (hx : xs.length = 512) (hw : w ≤ 9223372036854775807) (hc : 3 - c = (t : Int)) (ht : t ≤ 2) (hW2 : Wrote xs w t [sectB (listB (q + 1) (es.take j ++ es.drop (j + 1)))] zs w3 30) :
    Spec Try.prog w0 56 [.pointer (some ⟨p, 0, none⟩), .agg #[.int .i64 a, .int .i64 b, .int .i64 q, .int .i64 c, .slice ad m cap], .int .i64 o, .int .i64 i] (A * pts p (.cells (B (xs) ++ [Value.int .i64 (w)]).toArray 177 (0, 0))) (fun v' A' => ∃ J, v' = .tuple #[.agg #[.int .i64 0, .int .i64 0, .int .i64 0, .int .i64 0, .slice none 0 0], .int .i64 30] ∧ A' = A * J * pts p (.cells (B (zs) ++ [Value.int .i64 (w3)]).toArray 177 (0, 0))) := by
  have hl0 := rd.lenFl (fun _ => rfl) (by decide)
  subst hl0
  have rw_j := hat
  have hes2 : ∀ e ∈ es.take j ++ es.drop (j + 1), okE e := fun e he => by
    rcases List.mem_append.1 he with h | h
    · exact hes e (List.mem_of_mem_take h)
    · exact hes e (List.mem_of_mem_drop h)
  have hm5 : es.length - (j + 1 - j) ≤ 5 := by omega
  have drawFill : True := trivial
  refine Spec.of_run [(0, .pointer (some ⟨p, 0, none⟩)), (1, .agg #[.int .i64 a, .int .i64 b, .int .i64 q, .int .i64 c, .slice ad es.length cap]), (2, .int .i64 o), (3, .int .i64 i)] Try.func56 rfl (Nat.le_of_ble_eq_true rfl) (by repeat (first | exact trivial | refine ⟨rfl, ?_⟩)) ?_
  refine Run.seq ?_
  refine Run.region ?_
  refine RunL.box rfl rfl (fun bx1 => ?_)
  refine RunL.alloc ti86 rfl (fun bx2 => ?_)
  refine RunL.ok (OpOk.assign rfl) rfl ?_
  refine RunL.nil ?_
  refine Run.seq ?_
  refine Run.region ?_
  refine RunL.ok (OpOk.loadS rfl rfl ti86 rfl Blk.pts.left rfl) rfl ?_
  refine RunL.ok (OpOk.move rfl) rfl ?_
  refine RunL.ok (OpOk.move rfl) rfl ?_
  refine RunL.call cal45 rfl (s45 rd.left.left.left) rfl (fun vx3 Ax3 hx3 => ?_)
  obtain ⟨x4, ⟨rfl, rfl⟩⟩ := hx3
  refine RunL.ok (OpOk.assign rfl) rfl ?_
  refine RunL.nil ?_
  refine Run.seq ?_
  refine Run.block ?_
  refine Run.seq ?_
  rw [rw_j]
  refine Run.region ?_
  refine RunL.ok (OpOk.move rfl) rfl ?_
  refine RunL.ok (OpOk.eqlPN rfl rfl) rfl ?_
  refine RunL.ok (OpOk.assign rfl) rfl ?_
  refine RunL.nil ?_
  refine Run.condF rfl ?_
  refine Run.seq ?_
  refine Run.region ?_
  refine RunL.ok (OpOk.move rfl) rfl ?_
  refine RunL.ok (OpOk.asF (OpOk.lss rfl rfl) (by omega)) rfl ?_
  refine RunL.ok (OpOk.assign rfl) rfl ?_
  refine RunL.nil ?_
  refine Run.condF rfl ?_
  refine Run.seq ?_
  refine Run.region ?_
  refine RunL.ok (OpOk.fieldAddr fld86_2 rfl) rfl ?_
  refine RunL.ok (OpOk.load rfl rfl rfl (Blk.out Blk.pts.left.left _ _ (by first | rfl | assumption))) rfl ?_
  refine RunL.ok (OpOk.asF (OpOk.geq rfl rfl) (by omega)) rfl ?_
  refine RunL.ok (OpOk.assign rfl) rfl ?_
  refine RunL.nil ?_
  refine Run.condF rfl ?_
  refine Run.skip ?_
  refine Run.inBlock ?_
  refine Run.seq ?_
  refine Run.drop [9] ?_
  (apply Run.drawD [12, 13] (by rfl) (Eq.trans (frc (frl (frl (frl rfl))) rfl) rfl); case hchk => kernel_rfl)
  refine Sd.quiet 0 _ _ rfl rfl rfl rfl rfl (QOp.ok (fun X => OpOk.loadS rfl rfl ti86 rfl Blk.pts.left.left.left.left rfl)) ?_
  refine Sd.quiet 1 _ _ rfl rfl rfl rfl rfl (QOp.ok (fun X => OpOk.move rfl)) ?_
  refine Sd.quiet 2 _ _ rfl rfl rfl rfl rfl (QOp.ok (fun X => OpOk.fieldAddr fld86_4 rfl)) ?_
  refine Sd.quiet 3 _ _ rfl rfl rfl rfl rfl (QOp.ok (fun X => OpOk.load rfl rfl rfl (Blk.out Blk.pts.left.left.left.left _ _ (by first | rfl | assumption)))) ?_
  refine Sd.quiet 5 _ _ rfl rfl rfl rfl rfl (QOp.ok (fun X => OpOk.move rfl)) ?_
  refine Sd.quiet 6 _ _ rfl rfl rfl rfl rfl (QOp.ok (fun X => OpOk.move rfl)) ?_
  refine Sd.quiet 7 _ _ rfl rfl rfl rfl rfl (QOp.ok (fun X => OpOk.addN _ 1 rfl rfl rfl rfl (by omega))) ?_
  (refine Sd.exec 4 rfl rfl rfl rfl rfl ?hrest (by rfl) (fun Xx5 Kx5 hKx5 => ?_); case hrest => kernel_rfl)
  refine RunL.mem (fl2 (sep_emp _) rfl) ?_
  refine RunL.call cal102 rfl (s102 rd.left.left.left.left.left (by omega)) rfl (fun vx6 Ax6 hx6 => ?_)
  obtain rfl := hx6
  refine RunL.know (fun w s => (s.conv rfl).ownRd0) (fun rdx7 => ?_)
  refine Sd.ret hKx5 (Eq.trans (frc (frl rfl) rfl) (gp2 (asg rfl) (sep_emp _).symm)) ⟨emp, (sep_emp _).symm⟩ ?_
  (refine Sd.exec 8 rfl rfl rfl rfl rfl ?hrest (by rfl) (fun Xx8 Kx8 hKx8 => ?_); case hrest => kernel_rfl)
  refine RunL.mem (fl2 (sep_emp _) (flS rfl)) ?_
  refine RunL.mem (frc (frl rfl) rfl) ?_
  refine RunL.call cal101 rfl (s101 (by omega) (by assumption) (by omega)) rfl (fun vx9 Ax9 hx9 => ?_)
  obtain rfl := hx9
  refine RunL.know (fun w s => (s.conv rfl).ownRd0) (fun rdx10 => ?_)
  refine Sd.ret hKx8 (Eq.trans (frc (frl rfl) rfl) (gp2 rfl rfl)) ⟨_, (emp_sep _).symm⟩ ?_
  (refine Sd.exec 9 rfl rfl rfl rfl rfl ?hrest (by rfl) (fun Xx11 Kx11 hKx11 => ?_); case hrest => kernel_rfl)
  refine RunL.mem (fl2 rfl rfl) ?_
  obtain ⟨ad3, cap3, rfl, hcap3, had3⟩ := rdx10.form
  refine RunL.call cal100 rfl (s100b (Rd.right rdx10) (by assumption) (by assumption) (by assumption) (by assumption) (by assumption) (by assumption) (by assumption) (by assumption) (by assumption) rfl) rfl (fun vz2 Az2 hz2 => ?_)
  obtain ⟨z3, ⟨rfl, rfl⟩⟩ := hz2
  refine Sd.ret hKx11 (Eq.trans rfl (gp2 (sep_emp _).symm (asg (asg rfl)))) ⟨_, (asg rfl)⟩ ?_
  refine Sd.quiet 10 _ _ rfl rfl rfl rfl rfl (QOp.ok (fun X => OpOk.ext20 rfl)) ?_
  refine Sd.quiet 11 _ _ rfl rfl rfl rfl rfl (QOp.ok (fun X => OpOk.ext21 rfl)) ?_
  (apply Sd.tail; case hall => kernel_rfl)
  refine RunL.mem (fl2 (flS (flS rfl)) (sep_emp _)) ?_
  refine RunL.storeAll ti86 rfl rfl rfl (ones rfl) (frl (frl (frl (frl rfl)))) rfl ?_
  refine RunL.ok (OpOk.assign rfl) rfl ?_
  refine RunL.nil ?_
  refine Run.retC2 (A' := _) Try.func56 rfl rfl rfl ti86 rfl rfl Blk.pts rfl (Grew.refl _) ?_
  exact ⟨_, rfl, (Eq.trans (frc (frl rfl) rfl) (congrArg (· * _) (asg (asg (asg (asg as1))))))⟩
theorem s56d {zs : List UInt8} {w3 : Int} {t j : Nat} (rd : Rd w0 A (.slice ad m cap) 4 m (Fl encT111 es)) (hat : atE o i es = (j : Int)) (hjm : j < m) (hm : m ≤ 5) (hes : ∀ e ∈ es, okE e) (hq0 : 0 ≤ q) (hq : q < 65535) (hx : xs.length = 512) (hw : w ≤ 9223372036854775807) (hc : 3 - c = (t : Int)) (ht : t ≤ 2) (hW2 : Wrote xs w t [sectB (listB (q + 1) (es.take j ++ es.drop (j + 1)))] zs w3 0) :
    Spec Try.prog w0 56 [.pointer (some ⟨p, 0, none⟩), .agg #[.int .i64 a, .int .i64 b, .int .i64 q, .int .i64 c, .slice ad m cap], .int .i64 o, .int .i64 i] (A * pts p (.cells (B (xs) ++ [Value.int .i64 (w)]).toArray 177 (0, 0))) (fun v' A' => ∃ ad2 cap2 J, v' = .tuple #[.agg #[.int .i64 a, .int .i64 b, .int .i64 (q + 1), .int .i64 (t : Int), .slice ad2 (m - (j + 1 - j)) cap2], .int .i64 0] ∧ A' = A * J * own 111 4 (.slice ad2 (m - (j + 1 - j)) cap2) (m - (j + 1 - j)) (Fl encT111 (es.take j ++ es.drop (j + 1))) * pts p (.cells (B (zs) ++ [Value.int .i64 (w3)]).toArray 177 (0, 0))) := by
  have hl0 := rd.lenFl (fun _ => rfl) (by decide)
  subst hl0
  have rw_j := hat
  have hes2 : ∀ e ∈ es.take j ++ es.drop (j + 1), okE e := fun e he => by
    rcases List.mem_append.1 he with h | h
    · exact hes e (List.mem_of_mem_take h)
    · exact hes e (List.mem_of_mem_drop h)
  have hm5 : es.length - (j + 1 - j) ≤ 5 := by omega
  have drawFill : True := trivial
  refine Spec.of_run [(0, .pointer (some ⟨p, 0, none⟩)), (1, .agg #[.int .i64 a, .int .i64 b, .int .i64 q, .int .i64 c, .slice ad es.length cap]), (2, .int .i64 o), (3, .int .i64 i)] Try.func56 rfl (Nat.le_of_ble_eq_true rfl) (by repeat (first | exact trivial | refine ⟨rfl, ?_⟩)) ?_
  refine Run.seq ?_
  refine Run.region ?_
  refine RunL.box rfl rfl (fun bx1 => ?_)
  refine RunL.alloc ti86 rfl (fun bx2 => ?_)
  refine RunL.ok (OpOk.assign rfl) rfl ?_
  refine RunL.nil ?_
  refine Run.seq ?_
  refine Run.region ?_
  refine RunL.ok (OpOk.loadS rfl rfl ti86 rfl Blk.pts.left rfl) rfl ?_
  refine RunL.ok (OpOk.move rfl) rfl ?_
  refine RunL.ok (OpOk.move rfl) rfl ?_
  refine RunL.call cal45 rfl (s45 rd.left.left.left) rfl (fun vx3 Ax3 hx3 => ?_)
  obtain ⟨x4, ⟨rfl, rfl⟩⟩ := hx3
  refine RunL.ok (OpOk.assign rfl) rfl ?_
  refine RunL.nil ?_
  refine Run.seq ?_
  refine Run.block ?_
  refine Run.seq ?_
  rw [rw_j]
  refine Run.region ?_
  refine RunL.ok (OpOk.move rfl) rfl ?_
  refine RunL.ok (OpOk.eqlPN rfl rfl) rfl ?_
  refine RunL.ok (OpOk.assign rfl) rfl ?_
  refine RunL.nil ?_
  refine Run.condF rfl ?_
  refine Run.seq ?_
  refine Run.region ?_
  refine RunL.ok (OpOk.move rfl) rfl ?_
  refine RunL.ok (OpOk.asF (OpOk.lss rfl rfl) (by omega)) rfl ?_
  refine RunL.ok (OpOk.assign rfl) rfl ?_
  refine RunL.nil ?_
  refine Run.condF rfl ?_
  refine Run.seq ?_
  refine Run.region ?_
  refine RunL.ok (OpOk.fieldAddr fld86_2 rfl) rfl ?_
  refine RunL.ok (OpOk.load rfl rfl rfl (Blk.out Blk.pts.left.left _ _ (by first | rfl | assumption))) rfl ?_
  refine RunL.ok (OpOk.asF (OpOk.geq rfl rfl) (by omega)) rfl ?_
  refine RunL.ok (OpOk.assign rfl) rfl ?_
  refine RunL.nil ?_
  refine Run.condF rfl ?_
  refine Run.skip ?_
  refine Run.inBlock ?_
  refine Run.seq ?_
  refine Run.drop [9] ?_
  (apply Run.drawD [12, 13] (by rfl) (Eq.trans (frc (frl (frl (frl rfl))) rfl) rfl); case hchk => kernel_rfl)
  refine Sd.quiet 0 _ _ rfl rfl rfl rfl rfl (QOp.ok (fun X => OpOk.loadS rfl rfl ti86 rfl Blk.pts.left.left.left.left rfl)) ?_
  refine Sd.quiet 1 _ _ rfl rfl rfl rfl rfl (QOp.ok (fun X => OpOk.move rfl)) ?_
  refine Sd.quiet 2 _ _ rfl rfl rfl rfl rfl (QOp.ok (fun X => OpOk.fieldAddr fld86_4 rfl)) ?_
  refine Sd.quiet 3 _ _ rfl rfl rfl rfl rfl (QOp.ok (fun X => OpOk.load rfl rfl rfl (Blk.out Blk.pts.left.left.left.left _ _ (by first | rfl | assumption)))) ?_
  refine Sd.quiet 5 _ _ rfl rfl rfl rfl rfl (QOp.ok (fun X => OpOk.move rfl)) ?_
  refine Sd.quiet 6 _ _ rfl rfl rfl rfl rfl (QOp.ok (fun X => OpOk.move rfl)) ?_
  refine Sd.quiet 7 _ _ rfl rfl rfl rfl rfl (QOp.ok (fun X => OpOk.addN _ 1 rfl rfl rfl rfl (by omega))) ?_
  (refine Sd.exec 4 rfl rfl rfl rfl rfl ?hrest (by rfl) (fun Xx5 Kx5 hKx5 => ?_); case hrest => kernel_rfl)
  refine RunL.mem (fl2 (sep_emp _) rfl) ?_
  refine RunL.call cal102 rfl (s102 rd.left.left.left.left.left (by omega)) rfl (fun vx6 Ax6 hx6 => ?_)
  obtain rfl := hx6
  refine RunL.know (fun w s => (s.conv rfl).ownRd0) (fun rdx7 => ?_)
  refine Sd.ret hKx5 (Eq.trans (frc (frl rfl) rfl) (gp2 (asg rfl) (sep_emp _).symm)) ⟨emp, (sep_emp _).symm⟩ ?_
  (refine Sd.exec 8 rfl rfl rfl rfl rfl ?hrest (by rfl) (fun Xx8 Kx8 hKx8 => ?_); case hrest => kernel_rfl)
  refine RunL.mem (fl2 (sep_emp _) (flS rfl)) ?_
  refine RunL.mem (frc (frl rfl) rfl) ?_
  refine RunL.call cal101 rfl (s101 (by omega) (by assumption) (by omega)) rfl (fun vx9 Ax9 hx9 => ?_)
  obtain rfl := hx9
  refine RunL.know (fun w s => (s.conv rfl).ownRd0) (fun rdx10 => ?_)
  refine Sd.ret hKx8 (Eq.trans (frc (frl rfl) rfl) (gp2 rfl rfl)) ⟨_, (emp_sep _).symm⟩ ?_
  (refine Sd.exec 9 rfl rfl rfl rfl rfl ?hrest (by rfl) (fun Xx11 Kx11 hKx11 => ?_); case hrest => kernel_rfl)
  refine RunL.mem (fl2 rfl rfl) ?_
  obtain ⟨ad3, cap3, rfl, hcap3, had3⟩ := rdx10.form
  refine RunL.call cal100 rfl (s100a (Rd.right rdx10) (by assumption) (by assumption) (by assumption) (by assumption) (by assumption) (by assumption) (by assumption) (by assumption) (by assumption) rfl) rfl (fun vz1 Az1 hz1 => ?_)
  obtain ⟨z2, ⟨rfl, rfl⟩⟩ := hz1
  refine Sd.ret hKx11 (Eq.trans rfl (gp2 (sep_emp _).symm (asg (asg rfl)))) ⟨_, (asg rfl)⟩ ?_
  refine Sd.quiet 10 _ _ rfl rfl rfl rfl rfl (QOp.ok (fun X => OpOk.ext20 rfl)) ?_
  refine Sd.quiet 11 _ _ rfl rfl rfl rfl rfl (QOp.ok (fun X => OpOk.ext21 rfl)) ?_
  (apply Sd.tail; case hall => kernel_rfl)
  refine RunL.mem (fl2 (flS (flS rfl)) (sep_emp _)) ?_
  refine RunL.storeAll ti86 rfl rfl rfl (ones rfl) (frl (frl (frl (frl rfl)))) rfl ?_
  refine RunL.ok (OpOk.assign rfl) rfl ?_
  refine RunL.nil ?_
  refine Run.retC2 (A' := _) Try.func56 rfl rfl rfl ti86 rfl rfl Blk.pts rfl (Grew.refl _) ?_
  exact ⟨_, _, _, rfl, (Eq.trans (frc (frl rfl) (frc (frl (frl rfl)) rfl)) (congrArg (· * _) (congrArg (· * _) (asg (asg (asg as1))))))⟩
end
end Go.Proofs.Yteopadjihklkmaa
end

section
namespace Go.Proofs.Yteopadjihklkmaa
open Go Go.Proofs
set_option maxRecDepth 100000
set_option maxHeartbeats 4000000
set_option linter.unusedSimpArgs false
set_option linter.unusedVariables false
theorem by1_of {d : List UInt8} {j : Nat} {n : Int} (h : d.getD j 0 = UInt8.ofNat n.toNat) (h0 : 0 ≤ n) (h1 : n ≤ 255) : by1 d j = n := by
  rw [by1, h, UInt8.toNat_ofNat']
  omega
theorem by2_of {d : List UInt8} {j : Nat} {n : Int} (h : d.getD j 0 = UInt8.ofNat (n.toNat / 256)) (h2 : d.getD (j + 1) 0 = UInt8.ofNat n.toNat) (h0 : 0 ≤ n) (h1 : n ≤ 65535) : by2 d j = n := by
  rw [by2, h, h2, UInt8.toNat_ofNat', UInt8.toNat_ofNat']
  omega
end Go.Proofs.Yteopadjihklkmaa
end

section
namespace Go.Proofs.Yteopadjihklkmaa
open Go Go.Proofs
set_option maxRecDepth 100000
set_option maxHeartbeats 4000000
set_option linter.unusedSimpArgs false
set_option linter.unusedVariables false
/-- Do two entries clash? -/
def clash (e o : En) : Bool := decide (o.2.2.2 = e.2.2.2 ∨ o.2.1 = e.2.1 ∧ o.2.2.1 = e.2.2.1)
theorem clash_symm (a b : En) : clash a b = clash b a := by
  unfold clash
  rw [decide_eq_decide]
  constructor <;> (intro h; rcases h with h | h; exact .inl h.symm; exact .inr ⟨h.1.symm, h.2.symm⟩)
theorem no_clash (e : En) (l : List En) : (!takenE l e.2.2.2 && decide (atE e.2.1 e.2.2.1 l < 0)) = l.all (fun o => !clash e o) := by
  have h1 := (idxE_any (fun x => decide (x.2.1 = e.2.1 ∧ x.2.2.1 = e.2.2.1)) l 0).1
  have h2 := atE_range e.2.1 e.2.2.1 l
  have e3 : atE e.2.1 e.2.2.1 l = idxE (fun x => decide (x.2.1 = e.2.1 ∧ x.2.2.1 = e.2.2.1)) 0 l := rfl
  rw [Bool.eq_iff_iff, Bool.and_eq_true, Bool.not_eq_true', decide_eq_true_eq, List.all_eq_true]
  have h4 : takenE l e.2.2.2 = false ↔ ∀ o ∈ l, o.2.2.2 ≠ e.2.2.2 := by
    rw [takenE, List.any_eq_false]
    simp
  have h5 : atE e.2.1 e.2.2.1 l < 0 ↔ ∀ o ∈ l, ¬ (o.2.1 = e.2.1 ∧ o.2.2.1 = e.2.2.1) := by
    have : ¬ (0 ≤ atE e.2.1 e.2.2.1 l) ↔ ∀ o ∈ l, ¬ (o.2.1 = e.2.1 ∧ o.2.2.1 = e.2.2.1) := by
      rw [e3, h1, Bool.not_eq_true, List.any_eq_false]
      simp
    rw [← this]
    omega
  rw [h4, h5]
  constructor
  · rintro ⟨a, b⟩ o ho
    rw [Bool.not_eq_true', clash, decide_eq_false_iff_not]
    rintro (h | h)
    · exact a o ho h
    · exact b o ho h
  · intro a
    constructor
    · intro o ho h
      have := a o ho
      rw [Bool.not_eq_true', clash, decide_eq_false_iff_not] at this
      exact this (.inl h)
    · intro o ho h
      have := a o ho
      rw [Bool.not_eq_true', clash, decide_eq_false_iff_not] at this
      exact this (.inr h)
/-- An entry is right, its slot too. -/
def goodE (e : En) : Prop := rightP e ∧ 0 ≤ e.2.2.2 ∧ e.2.2.2 < 6
/-- Entries that a directory can have. -/
def validE (es : List En) : Prop := (∀ e ∈ es, goodE e) ∧ es.Pairwise (fun o e => clash e o = false)
theorem validE_snoc {es : List En} {e : En} : validE (es ++ [e]) ↔ validE es ∧ goodE e ∧ ∀ o ∈ es, clash e o = false := by
  unfold validE
  rw [List.pairwise_append]
  constructor
  · rintro ⟨h1, h2, _, h3⟩
    exact ⟨⟨fun x hx => h1 x (List.mem_append_left _ hx), h2⟩, h1 e (List.mem_append_right _ (List.mem_singleton_self e)), fun o ho => h3 o ho e (List.mem_singleton_self e)⟩
  · rintro ⟨⟨h1, h2⟩, h3, h4⟩
    refine ⟨fun x hx => ?_, h2, List.pairwise_singleton _ _, fun o ho x hx => ?_⟩
    · rcases List.mem_append.1 hx with h | h
      · exact h1 x h
      · rw [List.mem_singleton.1 h]; exact h3
    · rw [List.mem_singleton.1 hx]; exact h4 o ho
theorem goodD_valid (d : List UInt8) : ∀ n : Nat, goodD d n = true ↔ validE (dirD d n)
  | 0 => by
    have e : dirD d 0 = [] := rfl
    rw [e]
    exact ⟨fun _ => ⟨fun e h => (by cases h), List.Pairwise.nil⟩, fun _ => rfl⟩
  | n + 1 => by
    rw [goodD_next, dirD_next, validE_snoc, Bool.and_eq_true, goodD_valid d n]
    refine and_congr_right fun _ => ?_
    have hc := no_clash (entA d (3 + 5 * n)) (dirD d n)
    have h1 := by1_nat d (3 + 5 * n + 4)
    have h2 : (entA d (3 + 5 * n)).2.2.2 = by1 d (3 + 5 * n + 4) := rfl
    unfold stepD
    rw [Bool.and_assoc, Bool.and_eq_true, hc, Bool.and_eq_true, decide_eq_true_eq, decide_eq_true_eq, List.all_eq_true, goodE]
    constructor
    · rintro ⟨⟨a, b⟩, c⟩
      exact ⟨⟨a, by omega, b⟩, fun o ho => by simpa using c o ho⟩
    · rintro ⟨⟨a, _, b⟩, c⟩
      exact ⟨⟨a, b⟩, fun o ho => by simpa using c o ho⟩
/-! ### A directory laid -/
theorem flat_at : ∀ (es : List En) (i k : Nat), i < es.length → k < 5 → (es.flatMap entB).getD (5 * i + k) 0 = (entB (es.getD i default)).getD k 0
  | [], i, k, h, _ => by cases h
  | e :: r, 0, k, _, hk => by
    rw [List.flatMap_cons, List.getD_eq_getElem?_getD, List.getElem?_append_left (by show 5 * 0 + k < 5; omega), show 5 * 0 + k = k by omega]
    rfl
  | e :: r, i + 1, k, h, hk => by
    have h5 : (entB e).length = 5 := rfl
    rw [List.flatMap_cons, List.getD_eq_getElem?_getD, List.getElem?_append_right (by omega), h5, show 5 * (i + 1) + k - 5 = 5 * i + k by omega, ← List.getD_eq_getElem?_getD, flat_at r i k (by simpa using h) hk]
    rfl
theorem listB_len (q : Int) (es : List En) : (listB q es).length = 3 + 5 * es.length := by
  rw [listB, listP, List.length_append, ents_len]; rfl
theorem pad_at {bs : List UInt8} {i : Nat} (h : i < bs.length) : (pad bs).getD i 0 = bs.getD i 0 := by
  rw [pad, List.getD_eq_getElem?_getD, List.getElem?_append_left h, List.getD_eq_getElem?_getD]
theorem listB_at (q : Int) (es : List En) {i k : Nat} (hi : i < es.length) (hk : k < 5) : (pad (listB q es)).getD (3 + 5 * i + k) 0 = (entB (es.getD i default)).getD k 0 := by
  rw [pad_at (by rw [listB_len]; omega), listB, listP, List.getD_eq_getElem?_getD, List.getElem?_append_right (by show 3 ≤ _; omega), show 3 + 5 * i + k - [UInt8.ofNat (q.toNat / 256), UInt8.ofNat q.toNat, UInt8.ofNat es.length].length = 5 * i + k by show _ - 3 = _; omega, ← List.getD_eq_getElem?_getD, flat_at es i k hi hk]
theorem okE_good {e : En} (h : goodE e) : okE e := by
  obtain ⟨⟨h1, h2, h3, h4, h5, h6⟩, h7, h8⟩ := h
  exact ⟨by omega, by omega, by omega, by omega, by omega, by omega, by omega, by omega⟩
theorem entA_laid (q : Int) (es : List En) {i : Nat} (hi : i < es.length) (ho : okE (es.getD i default)) : entA (pad (listB q es)) (3 + 5 * i) = es.getD i default := by
  have h := fun k (hk : k < 5) => listB_at q es hi hk
  generalize hx : es.getD i default = e at ho h
  obtain ⟨k, o, d, s⟩ := e
  obtain ⟨a1, a2, a3, a4, a5, a6, a7, a8⟩ := ho
  dsimp only at a1 a2 a3 a4 a5 a6 a7 a8
  have h0 : by1 (pad (listB q es)) (3 + 5 * i) = k := by1_of (h 0 (by decide)) a1 a2
  have h1 : by1 (pad (listB q es)) (3 + 5 * i + 1) = o := by1_of (h 1 (by decide)) a3 a4
  have h2 : by2 (pad (listB q es)) (3 + 5 * i + 2) = d := by2_of (h 2 (by decide)) (h 3 (by decide)) a5 a6
  have h4 : by1 (pad (listB q es)) (3 + 5 * i + 4) = s := by1_of (h 4 (by decide)) a7 a8
  rw [entA, h0, h1, h2, h4]
theorem dirD_laid (q : Int) (es : List En) (ho : ∀ e ∈ es, okE e) : dirD (pad (listB q es)) es.length = es := by
  apply List.ext_getElem?
  intro i
  rcases Nat.lt_or_ge i es.length with h | h
  · have e := entA_laid q es h (ho _ (getD_mem h))
    rw [dirD, List.getElem?_map, List.getElem?_range h, Option.map_some, e, List.getD_eq_getElem?_getD, List.getElem?_eq_getElem h]
    rfl
  · rw [List.getElem?_eq_none (by rw [dirD_len]; exact h), List.getElem?_eq_none h]
/-- A directory that is laid is right, and says what was laid. -/
theorem laid_ok {q : Int} {es : List En} (h1 : 1 ≤ q) (h2 : q ≤ 65535) (h5 : es.length ≤ 5) (hv : validE es) : okB (sectB (listB q es)) = true ∧ by2 ((sectB (listB q es)).take 30) 0 = q ∧ entsD ((sectB (listB q es)).take 30) = es := by
  have hpl : (pad (listB q es)).length = 30 := pad_len (by rw [listB_len]; omega)
  have ht : (sectB (listB q es)).take 30 = pad (listB q es) := by
    rw [sectB, sealed, List.take_append_of_le_length (by omega), List.take_of_length_le (by omega)]
  have hl : (sectB (listB q es)).length = 32 := by rw [sectB, sealed_length, hpl]
  have hat : ∀ j, j < 3 → (pad (listB q es)).getD j 0 = [UInt8.ofNat (q.toNat / 256), UInt8.ofNat q.toNat, UInt8.ofNat es.length].getD j 0 := fun j hj => by
    rw [pad_at (by rw [listB_len]; omega), listB, listP, List.getD_eq_getElem?_getD, List.getElem?_append_left (by show j < 3; exact hj), List.getD_eq_getElem?_getD]
  have hq : by2 (pad (listB q es)) 0 = q := by2_of (hat 0 (by decide)) (hat 1 (by decide)) (by omega) h2
  have hn : by1 (pad (listB q es)) 2 = (es.length : Int) := by1_of (n := (es.length : Int)) (hat 2 (by decide)) (by omega) (by omega)
  have hd := dirD_laid q es (fun e he => okE_good (hv.1 e he))
  have hents : entsD (pad (listB q es)) = es := by rw [entsD, hn, Int.toNat_natCast, hd]
  refine ⟨?_, by rw [ht, hq], by rw [ht, hents]⟩
  unfold okB
  rw [ht, hq, hents, Bool.and_eq_true, Bool.and_eq_true, decide_eq_true_eq, decide_eq_true_eq]
  refine ⟨⟨rfl, ?_⟩, rfl⟩
  unfold headD
  rw [hq, hn, Int.toNat_natCast, Bool.and_eq_true, Bool.and_eq_true, decide_eq_true_eq, decide_eq_true_eq, goodD_valid, hd]
  exact ⟨⟨h1, by omega⟩, hv⟩
/-! ### Sectors of a card -/
theorem sec_set_same {xs ys : List UInt8} {i : Nat} (h : xs.length = 512) (hi : i ≤ 15) (hy : ys.length = 32) : secOf (setSec xs i ys) i = ys := by
  rw [secOf, setSec, List.drop_left' (by rw [List.length_take]; omega), List.take_left' hy]
theorem sec_set_other {xs ys : List UInt8} {i j : Nat} (h : xs.length = 512) (hi : i ≤ 15) (hj : j ≤ 15) (hy : ys.length = 32) (hne : i ≠ j) : secOf (setSec xs i ys) j = secOf xs j := by
  unfold secOf setSec
  apply List.ext_getElem?
  intro k
  rw [List.getElem?_take, List.getElem?_take]
  split
  · rename_i hk
    rw [List.getElem?_drop, List.getElem?_drop]
    rcases Nat.lt_or_ge (32 * j + k) (32 * i) with h1 | h1
    · rw [List.getElem?_append_left (by rw [List.length_take]; omega), List.getElem?_take, if_pos h1]
    · have : i < j := by omega
      rw [List.getElem?_append_right (by rw [List.length_take]; omega), List.getElem?_append_right (by rw [List.length_take]; omega), List.getElem?_drop, List.length_take, hy]
      congr 1
      omega
  · rfl
/-- What a card's best copy is. -/
theorem bestF_is (xs : List UInt8) : (bestF xs 2 = (0, 0, []) ∧ ∀ i, 1 ≤ i → i ≤ 2 → okB (secOf xs i) = false) ∨ ∃ t : Nat, (t = 1 ∨ t = 2) ∧ okB (secOf xs t) = true ∧ bestF xs 2 = (by2 ((secOf xs t).take 30) 0, (t : Int), entsD ((secOf xs t).take 30)) := by
  have hp : ∀ i, okB (secOf xs i) = true → 1 ≤ by2 ((secOf xs i).take 30) 0 := fun i h => by
    simp only [okB, headD, Bool.and_eq_true, decide_eq_true_eq] at h
    exact h.1.2.1.1
  have e1 : bestF xs 1 = if okB (secOf xs 1) = true ∧ 0 < by2 ((secOf xs 1).take 30) 0 then (by2 ((secOf xs 1).take 30) 0, ((1 : Nat) : Int), entsD ((secOf xs 1).take 30)) else (0, 0, []) := rfl
  have e2 : bestF xs 2 = if okB (secOf xs 2) = true ∧ (bestF xs 1).1 < by2 ((secOf xs 2).take 30) 0 then (by2 ((secOf xs 2).take 30) 0, ((2 : Nat) : Int), entsD ((secOf xs 2).take 30)) else bestF xs 1 := rfl
  by_cases h2 : okB (secOf xs 2) = true ∧ (bestF xs 1).1 < by2 ((secOf xs 2).take 30) 0
  · right
    exact ⟨2, .inr rfl, h2.1, by rw [e2, if_pos h2]⟩
  · rw [if_neg h2] at e2
    by_cases h1 : okB (secOf xs 1) = true
    · right
      refine ⟨1, .inl rfl, h1, ?_⟩
      rw [e2, e1, if_pos ⟨h1, by have := hp 1 h1; omega⟩]
    · left
      rw [if_neg (fun h => h1 h.1)] at e1
      rw [e1] at e2 h2
      refine ⟨e2, fun i a b => ?_⟩
      obtain rfl | rfl : i = 1 ∨ i = 2 := by omega
      · simpa using h1
      · cases h3 : okB (secOf xs 2) with
        | false => rfl
        | true => exact absurd ⟨h3, by have := hp 2 h3; dsimp only; omega⟩ h2
/-- A card that says something: its number of changes, its copy, its entries. -/
structure Says (xs : List UInt8) (q : Int) (t : Nat) (es : List En) : Prop where
  len : xs.length = 512
  sld : sealed ((secOf xs 0).take (32 - 2)) = secOf xs 0
  face : faceOk (secOf xs 0)
  best : bestF xs 2 = (q, (t : Int), es)
  copy : t = 1 ∨ t = 2
theorem Says.facts {xs : List UInt8} {q : Int} {t : Nat} {es : List En} (h : Says xs q t es) : 1 ≤ q ∧ q ≤ 65535 ∧ es.length ≤ 5 ∧ validE es ∧ okB (secOf xs t) = true ∧ by2 ((secOf xs t).take 30) 0 = q ∧ entsD ((secOf xs t).take 30) = es := by
  have ht := h.copy
  rcases bestF_is xs with ⟨h1, _⟩ | ⟨t2, ht2, hok, h1⟩
  · have := h.best
    rw [h1] at this
    simp only [Prod.mk.injEq] at this
    omega
  · have hb := h.best
    rw [h1] at hb
    simp only [Prod.mk.injEq] at hb
    obtain ⟨h2, h3, h4⟩ := hb
    obtain rfl : t2 = t := by omega
    have hok2 := hok
    simp only [okB, headD, Bool.and_eq_true, decide_eq_true_eq] at hok2
    obtain ⟨⟨_, ⟨h5, h6⟩, h7⟩, _⟩ := hok2
    have h8 := by1_nat ((secOf xs t2).take 30) 2
    rw [goodD_valid] at h7
    refine ⟨by omega, ?_, ?_, ?_, hok, h2, h4⟩
    · rw [← h2, by2]
      have h1 := (((secOf xs t2).take 30).getD 0 0).toNat_lt
      have h2 := (((secOf xs t2).take 30).getD (0 + 1) 0).toNat_lt
      omega
    · rw [← h4, entsD, dirD_len]; omega
    · rw [← h4]; exact h7
theorem bestF_congr {xs ys : List UInt8} (h1 : secOf xs 1 = secOf ys 1) (h2 : secOf xs 2 = secOf ys 2) : bestF xs 2 = bestF ys 2 := by
  have e1 : ∀ zs : List UInt8, bestF zs 2 = if okB (secOf zs 2) = true ∧ (bestF zs 1).1 < by2 ((secOf zs 2).take 30) 0 then (by2 ((secOf zs 2).take 30) 0, ((2 : Nat) : Int), entsD ((secOf zs 2).take 30)) else bestF zs 1 := fun _ => rfl
  have e2 : ∀ zs : List UInt8, bestF zs 1 = if okB (secOf zs 1) = true ∧ 0 < by2 ((secOf zs 1).take 30) 0 then (by2 ((secOf zs 1).take 30) 0, ((1 : Nat) : Int), entsD ((secOf zs 1).take 30)) else (0, 0, []) := fun _ => rfl
  rw [e1, e1, e2, e2, h1, h2]
theorem bestF_two (zs : List UInt8) : bestF zs 2 = if okB (secOf zs 2) = true ∧ (bestF zs 1).1 < by2 ((secOf zs 2).take 30) 0 then (by2 ((secOf zs 2).take 30) 0, ((2 : Nat) : Int), entsD ((secOf zs 2).take 30)) else bestF zs 1 := rfl
theorem bestF_one (zs : List UInt8) : bestF zs 1 = if okB (secOf zs 1) = true ∧ 0 < by2 ((secOf zs 1).take 30) 0 then (by2 ((secOf zs 1).take 30) 0, ((1 : Nat) : Int), entsD ((secOf zs 1).take 30)) else (0, 0, []) := rfl
/-- The other copy is written. -/
theorem Says.put {xs : List UInt8} {q : Int} {t u : Nat} {es es2 : List En} (h : Says xs q t es) (hu : 3 - (t : Int) = (u : Int)) (hq : q + 1 ≤ 65535) (h5 : es2.length ≤ 5) (hv : validE es2) : Says (setSec xs u (sectB (listB (q + 1) es2))) (q + 1) u es2 := by
  obtain ⟨f1, f2, f3, f4, f5, f6, f7⟩ := h.facts
  obtain ⟨l1, l2, l3⟩ := laid_ok (q := q + 1) (es := es2) (by omega) hq h5 hv
  have hsl : (sectB (listB (q + 1) es2)).length = 32 := by rw [sectB, sealed_length, pad_len (by rw [listB_len]; omega)]
  have ht := h.copy
  have hl := h.len
  have h0 : secOf (setSec xs u (sectB (listB (q + 1) es2))) 0 = secOf xs 0 := sec_set_other hl (by omega) (by omega) hsl (by omega)
  have hs : secOf (setSec xs u (sectB (listB (q + 1) es2))) u = sectB (listB (q + 1) es2) := sec_set_same hl (by omega) hsl
  have ho : secOf (setSec xs u (sectB (listB (q + 1) es2))) t = secOf xs t := sec_set_other hl (by omega) (by omega) hsl (by omega)
  refine ⟨setSec_len hl (by omega) hsl, by rw [h0]; exact h.sld, by rw [h0]; exact h.face, ?_, by omega⟩
  rcases ht with rfl | rfl
  · obtain rfl : u = 2 := by omega
    rw [bestF_two, bestF_one, hs, ho, f5, f6, f7, l1, l2, l3, if_pos (⟨rfl, by omega⟩ : true = true ∧ 0 < q)]
    exact if_pos ⟨rfl, by dsimp only; omega⟩
  · obtain rfl : u = 1 := by omega
    rw [bestF_two, bestF_one, hs, ho, f5, f6, f7, l1, l2, l3, if_pos (⟨rfl, by omega⟩ : true = true ∧ 0 < q + 1)]
    exact if_neg (fun h => by have := h.2; dsimp only at this; omega)
/-- Another sector is written. -/
theorem Says.slot {xs : List UInt8} {q : Int} {t u : Nat} {es : List En} (h : Says xs q t es) (h1 : 3 ≤ u) (h2 : u ≤ 15) {b : List UInt8} (hb : b.length = 32) : Says (setSec xs u b) q t es := by
  have hl := h.len
  have e : ∀ j, j ≤ 2 → secOf (setSec xs u b) j = secOf xs j := fun j hj => sec_set_other hl h2 (by omega) hb (by omega)
  exact ⟨setSec_len hl h2 hb, by rw [e 0 (by omega)]; exact h.sld, by rw [e 0 (by omega)]; exact h.face, by rw [bestF_congr (e 1 (by omega)) (e 2 (by omega))]; exact h.best, h.copy⟩
end Go.Proofs.Yteopadjihklkmaa
end

section
namespace Go.Proofs.Yteopadjihklkmaa
open Go Go.Proofs
set_option maxRecDepth 100000
set_option maxHeartbeats 4000000
set_option linter.unusedSimpArgs false
set_option linter.unusedVariables false
section
variable {w0 : World} {A : Asn} {u : Value} {m : Nat} {bs : List UInt8}
end
section
variable {w0 : World} {A : Asn} {a b c d o i : Int} {ad : Option Addr} {m cap : Nat} {es : List En}
theorem s46 (rd : Rd w0 A (.slice ad m cap) 4 m (Fl encT111 es)) : Spec Try.prog w0 46 [.agg #[.int .i64 a, .int .i64 b, .int .i64 c, .int .i64 d, .slice ad m cap], .int .i64 o, .int .i64 i] A (fun v' A' => ∃ J, v' = .int .i64 (atE o i es) ∧ A' = A * J) := by
  have hl := rd.lenFl (fun _ => rfl) (by decide)
  subst hl
  have hmx := rd.max
  refine Spec.of_run [(0, .agg #[.int .i64 a, .int .i64 b, .int .i64 c, .int .i64 d, .slice ad es.length cap]), (1, .int .i64 o), (2, .int .i64 i)] Try.func46 rfl (Nat.le_of_ble_eq_true rfl) (by repeat (first | exact trivial | refine ⟨rfl, ?_⟩)) ?_
  refine Run.seq ?_
  refine Run.region ?_
  refine RunL.box rfl rfl (fun bx1 => ?_)
  refine RunL.ok (OpOk.assign rfl) rfl ?_
  refine RunL.nil ?_
  refine Run.seq ?_
  refine Run.seq ?_
  refine Run.region ?_
  refine RunL.ok (OpOk.assign rfl) rfl ?_
  refine RunL.nil ?_
  refine Run.block ?_
  refine Run.jump ((Run.loopJ (X := Nat) (fun x => [(7, .int .i64 (x : Int)), (3, .pointer (some ⟨bx1, 0, none⟩)), (1, .int .i64 o), (2, .int .i64 i)]) (fun x => A * pts bx1 (.cells (Value.agg #[.int .i64 a, .int .i64 b, .int .i64 c, .int .i64 d, .slice ad es.length cap]).cells 89 (0, 0))) (fun x => x ≤ es.length ∧ atE o i es = idxE (fun e => decide (e.2.1 = o ∧ e.2.2.1 = i)) x (es.drop x)) (fun x => es.length - x) 0 ⟨Nat.zero_le _, rfl⟩ (fun x hx ih => ?_))) ⟨rfl, rfl, rfl, rfl, trivial⟩ ((Grew.refl _))
  obtain ⟨hi, hd⟩ := hx
  rcases Nat.lt_or_ge x es.length with hlt | hge
  · rw [drop_next hlt, idxE] at hd
    obtain ⟨e, hoe⟩ : ∃ e, es.getD x default = e := ⟨_, rfl⟩
    rw [hoe] at hd
    obtain ⟨k, o2, i2, s⟩ := e
    dsimp only at hd
    by_cases h1 : o2 = o
    · by_cases h2 : i2 = i
      · rw [if_pos (by rw [decide_eq_true_eq]; exact ⟨h1, h2⟩)] at hd
        rw [hd]
        refine Run.seq ?_
        refine Run.seq ?_
        refine Run.region ?_
        refine RunL.ok (OpOk.move rfl) rfl ?_
        refine RunL.ok (OpOk.fieldAddr fld89_4 rfl) rfl ?_
        refine RunL.ok (OpOk.load rfl rfl rfl (Blk.out Blk.pts _ _ (by first | rfl | assumption))) rfl ?_
        refine RunL.ok (OpOk.lenV rfl rfl rfl) rfl ?_
        refine RunL.ok (OpOk.asT (OpOk.lss rfl rfl) (by omega)) rfl ?_
        refine RunL.nil ?_
        refine Run.condT rfl ?_
        refine Run.skip ?_
        refine Run.seq ?_
        refine Run.block ?_
        refine Run.seq ?_
        refine Run.region ?_
        refine RunL.ok (OpOk.fieldAddr fld89_4 rfl) rfl ?_
        refine RunL.ok (OpOk.load rfl rfl rfl (Blk.out Blk.pts _ _ (by first | rfl | assumption))) rfl ?_
        refine RunL.ok (OpOk.move rfl) rfl ?_
        refine RunL.ok (OpOk.idxN rfl ti111 rfl rd.left rfl (by omega)) rfl ?_
        refine RunL.ok (OpOk.fieldAddrA fld111_1 rfl) rfl ?_
        refine RunL.ok (OpOk.loadFl1E hoe rfl rfl rfl rd.left (fun _ => rfl) rfl (by omega) rfl) rfl ?_
        refine RunL.ok (OpOk.move rfl) rfl ?_
        refine RunL.ok (OpOk.asT (OpOk.eql rfl rfl) (by omega)) rfl ?_
        refine RunL.ok (OpOk.move rfl) rfl ?_
        refine RunL.on rfl rfl ?_
        refine RunL.ok (OpOk.fieldAddr fld89_4 rfl) rfl ?_
        refine RunL.on rfl rfl ?_
        refine RunL.ok (OpOk.load rfl rfl rfl (Blk.out Blk.pts _ _ (by first | rfl | assumption))) rfl ?_
        refine RunL.on rfl rfl ?_
        refine RunL.ok (OpOk.move rfl) rfl ?_
        refine RunL.on rfl rfl ?_
        refine RunL.ok (OpOk.idxN rfl ti111 rfl rd.left rfl (by omega)) rfl ?_
        refine RunL.on rfl rfl ?_
        refine RunL.ok (OpOk.fieldAddrA fld111_2 rfl) rfl ?_
        refine RunL.on rfl rfl ?_
        refine RunL.ok (OpOk.loadFl1E hoe rfl rfl rfl rd.left (fun _ => rfl) rfl (by omega) rfl) rfl ?_
        refine RunL.on rfl rfl ?_
        refine RunL.ok (OpOk.move rfl) rfl ?_
        refine RunL.on rfl rfl ?_
        refine RunL.ok (OpOk.asT (OpOk.eql rfl rfl) (by omega)) rfl ?_
        refine RunL.ok (OpOk.pickT rfl rfl) rfl ?_
        refine RunL.nil ?_
        refine Run.condT rfl ?_
        refine Run.seq ?_
        refine Run.region ?_
        refine RunL.ok (OpOk.move rfl) rfl ?_
        refine RunL.ok (OpOk.assign rfl) rfl ?_
        refine RunL.nil ?_
        refine Run.ret1 Try.func46 rfl rfl ?_
        exact ⟨_, rfl, as1⟩
      · rw [if_neg (by rw [decide_eq_true_eq]; exact fun h => h2 h.2)] at hd
        refine Run.seq ?_
        refine Run.seq ?_
        refine Run.region ?_
        refine RunL.ok (OpOk.move rfl) rfl ?_
        refine RunL.ok (OpOk.fieldAddr fld89_4 rfl) rfl ?_
        refine RunL.ok (OpOk.load rfl rfl rfl (Blk.out Blk.pts _ _ (by first | rfl | assumption))) rfl ?_
        refine RunL.ok (OpOk.lenV rfl rfl rfl) rfl ?_
        refine RunL.ok (OpOk.asT (OpOk.lss rfl rfl) (by omega)) rfl ?_
        refine RunL.nil ?_
        refine Run.condT rfl ?_
        refine Run.skip ?_
        refine Run.seq ?_
        refine Run.block ?_
        refine Run.seq ?_
        refine Run.region ?_
        refine RunL.ok (OpOk.fieldAddr fld89_4 rfl) rfl ?_
        refine RunL.ok (OpOk.load rfl rfl rfl (Blk.out Blk.pts _ _ (by first | rfl | assumption))) rfl ?_
        refine RunL.ok (OpOk.move rfl) rfl ?_
        refine RunL.ok (OpOk.idxN rfl ti111 rfl rd.left rfl (by omega)) rfl ?_
        refine RunL.ok (OpOk.fieldAddrA fld111_1 rfl) rfl ?_
        refine RunL.ok (OpOk.loadFl1E hoe rfl rfl rfl rd.left (fun _ => rfl) rfl (by omega) rfl) rfl ?_
        refine RunL.ok (OpOk.move rfl) rfl ?_
        refine RunL.ok (OpOk.asT (OpOk.eql rfl rfl) (by omega)) rfl ?_
        refine RunL.ok (OpOk.move rfl) rfl ?_
        refine RunL.on rfl rfl ?_
        refine RunL.ok (OpOk.fieldAddr fld89_4 rfl) rfl ?_
        refine RunL.on rfl rfl ?_
        refine RunL.ok (OpOk.load rfl rfl rfl (Blk.out Blk.pts _ _ (by first | rfl | assumption))) rfl ?_
        refine RunL.on rfl rfl ?_
        refine RunL.ok (OpOk.move rfl) rfl ?_
        refine RunL.on rfl rfl ?_
        refine RunL.ok (OpOk.idxN rfl ti111 rfl rd.left rfl (by omega)) rfl ?_
        refine RunL.on rfl rfl ?_
        refine RunL.ok (OpOk.fieldAddrA fld111_2 rfl) rfl ?_
        refine RunL.on rfl rfl ?_
        refine RunL.ok (OpOk.loadFl1E hoe rfl rfl rfl rd.left (fun _ => rfl) rfl (by omega) rfl) rfl ?_
        refine RunL.on rfl rfl ?_
        refine RunL.ok (OpOk.move rfl) rfl ?_
        refine RunL.on rfl rfl ?_
        refine RunL.ok (OpOk.asF (OpOk.eql rfl rfl) (by omega)) rfl ?_
        refine RunL.ok (OpOk.pickT rfl rfl) rfl ?_
        refine RunL.nil ?_
        refine Run.condF rfl ?_
        refine Run.skip ?_
        refine Run.inBlock ?_
        refine Run.region ?_
        refine RunL.ok (OpOk.move rfl) rfl ?_
        refine RunL.ok (OpOk.addN _ 1 rfl rfl rfl rfl (by omega)) rfl ?_
        refine RunL.ok (OpOk.assign rfl) rfl ?_
        refine RunL.nil ?_
        refine Run.jump ((ih (x + 1) ⟨by omega, hd⟩ (by omega))) ⟨rfl, rfl, rfl, rfl, trivial⟩ ((Grew.refl _))
    · rw [if_neg (by rw [decide_eq_true_eq]; exact fun h => h1 h.1)] at hd
      refine Run.seq ?_
      refine Run.seq ?_
      refine Run.region ?_
      refine RunL.ok (OpOk.move rfl) rfl ?_
      refine RunL.ok (OpOk.fieldAddr fld89_4 rfl) rfl ?_
      refine RunL.ok (OpOk.load rfl rfl rfl (Blk.out Blk.pts _ _ (by first | rfl | assumption))) rfl ?_
      refine RunL.ok (OpOk.lenV rfl rfl rfl) rfl ?_
      refine RunL.ok (OpOk.asT (OpOk.lss rfl rfl) (by omega)) rfl ?_
      refine RunL.nil ?_
      refine Run.condT rfl ?_
      refine Run.skip ?_
      refine Run.seq ?_
      refine Run.block ?_
      refine Run.seq ?_
      refine Run.region ?_
      refine RunL.ok (OpOk.fieldAddr fld89_4 rfl) rfl ?_
      refine RunL.ok (OpOk.load rfl rfl rfl (Blk.out Blk.pts _ _ (by first | rfl | assumption))) rfl ?_
      refine RunL.ok (OpOk.move rfl) rfl ?_
      refine RunL.ok (OpOk.idxN rfl ti111 rfl rd.left rfl (by omega)) rfl ?_
      refine RunL.ok (OpOk.fieldAddrA fld111_1 rfl) rfl ?_
      refine RunL.ok (OpOk.loadFl1E hoe rfl rfl rfl rd.left (fun _ => rfl) rfl (by omega) rfl) rfl ?_
      refine RunL.ok (OpOk.move rfl) rfl ?_
      refine RunL.ok (OpOk.asF (OpOk.eql rfl rfl) (by omega)) rfl ?_
      refine RunL.ok (OpOk.move rfl) rfl ?_
      refine RunL.off rfl rfl rfl rfl ?_
      refine RunL.off rfl rfl rfl rfl ?_
      refine RunL.off rfl rfl rfl rfl ?_
      refine RunL.off rfl rfl rfl rfl ?_
      refine RunL.off rfl rfl rfl rfl ?_
      refine RunL.off rfl rfl rfl rfl ?_
      refine RunL.off rfl rfl rfl rfl ?_
      refine RunL.off rfl rfl rfl rfl ?_
      refine RunL.ok (OpOk.pickF rfl rfl) rfl ?_
      refine RunL.nil ?_
      refine Run.condF rfl ?_
      refine Run.skip ?_
      refine Run.inBlock ?_
      refine Run.region ?_
      refine RunL.ok (OpOk.move rfl) rfl ?_
      refine RunL.ok (OpOk.addN _ 1 rfl rfl rfl rfl (by omega)) rfl ?_
      refine RunL.ok (OpOk.assign rfl) rfl ?_
      refine RunL.nil ?_
      refine Run.jump ((ih (x + 1) ⟨by omega, hd⟩ (by omega))) ⟨rfl, rfl, rfl, rfl, trivial⟩ ((Grew.refl _))
  · obtain rfl : x = es.length := by omega
    clear ih
    rw [List.drop_length, idxE] at hd
    rw [hd]
    refine Run.seq ?_
    refine Run.seq ?_
    refine Run.region ?_
    refine RunL.ok (OpOk.move rfl) rfl ?_
    refine RunL.ok (OpOk.fieldAddr fld89_4 rfl) rfl ?_
    refine RunL.ok (OpOk.load rfl rfl rfl (Blk.out Blk.pts _ _ (by first | rfl | assumption))) rfl ?_
    refine RunL.ok (OpOk.lenV rfl rfl rfl) rfl ?_
    refine RunL.ok (OpOk.asF (OpOk.lss rfl rfl) (by omega)) rfl ?_
    refine RunL.nil ?_
    refine Run.condF rfl ?_
    refine Run.exit rfl ?_
    refine Run.seq ?_
    refine Run.region ?_
    refine RunL.ok (OpOk.assign rfl) rfl ?_
    refine RunL.nil ?_
    refine Run.ret1 Try.func46 rfl rfl ?_
    exact ⟨_, rfl, as1⟩
theorem s48 (rd : Rd w0 A (.slice ad m cap) 4 m (Fl encT111 es)) : Spec Try.prog w0 48 [.agg #[.int .i64 a, .int .i64 b, .int .i64 c, .int .i64 d, .slice ad m cap]] A (fun v' A' => ∃ J, v' = .int .i64 (freeE es) ∧ A' = A * J) := by
  have hl := rd.lenFl (fun _ => rfl) (by decide)
  subst hl
  have hmx := rd.max
  refine Spec.of_run [(0, .agg #[.int .i64 a, .int .i64 b, .int .i64 c, .int .i64 d, .slice ad es.length cap])] Try.func48 rfl (Nat.le_of_ble_eq_true rfl) (by repeat (first | exact trivial | refine ⟨rfl, ?_⟩)) ?_
  refine Run.seq ?_
  refine Run.region ?_
  refine RunL.box rfl rfl (fun bx1 => ?_)
  refine RunL.ok (OpOk.assign rfl) rfl ?_
  refine RunL.nil ?_
  refine Run.seq ?_
  refine Run.seq ?_
  refine Run.region ?_
  refine RunL.ok (OpOk.assign rfl) rfl ?_
  refine RunL.nil ?_
  refine Run.block ?_
  refine Run.jump ((Run.loopJ (X := Nat) (fun x => [(3, .int .i64 (x : Int)), (1, .pointer (some ⟨bx1, 0, none⟩))]) (fun x => A * pts bx1 (.cells (Value.agg #[.int .i64 a, .int .i64 b, .int .i64 c, .int .i64 d, .slice ad es.length cap]).cells 89 (0, 0))) (fun x => x ≤ 6 ∧ freeE es = freeN es (6 - x) (x : Int)) (fun x => 6 - x) 0 ⟨Nat.zero_le _, rfl⟩ (fun x hx ih => ?_))) ⟨rfl, rfl, trivial⟩ ((Grew.refl _))
  obtain ⟨hi, hf⟩ := hx
  rcases Nat.lt_or_ge x 6 with hlt | hge
  · rw [show 6 - x = (6 - (x + 1)) + 1 by omega, freeN] at hf
    refine Run.seq ?_
    refine Run.seq ?_
    refine Run.region ?_
    refine RunL.ok (OpOk.move rfl) rfl ?_
    refine RunL.ok (OpOk.asT (OpOk.lss rfl rfl) (by omega)) rfl ?_
    refine RunL.nil ?_
    refine Run.condT rfl ?_
    refine Run.skip ?_
    refine Run.seq ?_
    refine Run.block ?_
    refine Run.seq ?_
    refine Run.region ?_
    refine RunL.ok (OpOk.assign rfl) rfl ?_
    refine RunL.nil ?_
    refine Run.seq ?_
    refine Run.seq ?_
    refine Run.region ?_
    refine RunL.ok (OpOk.assign rfl) rfl ?_
    refine RunL.nil ?_
    refine Run.block ?_
    refine Run.jump ((Run.loopJ (X := Nat) (fun j => [(5, .int .i64 (j : Int)), (4, .bool (!(takenE (es.take j) (x : Int)))), (3, .int .i64 (x : Int)), (1, .pointer (some ⟨bx1, 0, none⟩))]) (fun j => A * pts bx1 (.cells (Value.agg #[.int .i64 a, .int .i64 b, .int .i64 c, .int .i64 d, .slice ad es.length cap]).cells 89 (0, 0))) (fun j => j ≤ es.length) (fun j => es.length - j) 0 (Nat.zero_le _) (fun j hj ih2 => ?_))) ⟨rfl, rfl, rfl, rfl, trivial⟩ ((Grew.refl _))
    rcases Nat.lt_or_ge j es.length with hjl | hjg
    · have htk : takenE (es.take (j + 1)) (x : Int) = (takenE (es.take j) (x : Int) || decide ((es.getD j default).2.2.2 = (x : Int))) := by
        rw [take_next hjl, takenE, takenE, List.any_append]
        simp
      obtain ⟨e, hoe⟩ : ∃ e, es.getD j default = e := ⟨_, rfl⟩
      rw [hoe] at htk
      obtain ⟨k, o2, i2, s⟩ := e
      dsimp only at htk
      have ih3 := ih2 (j + 1) (by omega) (by omega)
      rw [htk] at ih3
      cases ht : takenE (es.take j) (x : Int) with
      | true =>
        rw [ht] at ih3
        refine Run.seq ?_
        refine Run.seq ?_
        refine Run.region ?_
        refine RunL.ok (OpOk.move rfl) rfl ?_
        refine RunL.ok (OpOk.fieldAddr fld89_4 rfl) rfl ?_
        refine RunL.ok (OpOk.load rfl rfl rfl (Blk.out Blk.pts _ _ (by first | rfl | assumption))) rfl ?_
        refine RunL.ok (OpOk.lenV rfl rfl rfl) rfl ?_
        refine RunL.ok (OpOk.asT (OpOk.lss rfl rfl) (by omega)) rfl ?_
        refine RunL.nil ?_
        refine Run.condT rfl ?_
        refine Run.skip ?_
        refine Run.seq ?_
        refine Run.block ?_
        refine Run.region ?_
        refine RunL.ok (OpOk.move rfl) rfl ?_
        refine RunL.ok (OpOk.move rfl) rfl ?_
        refine RunL.off rfl rfl rfl rfl ?_
        refine RunL.off rfl rfl rfl rfl ?_
        refine RunL.off rfl rfl rfl rfl ?_
        refine RunL.off rfl rfl rfl rfl ?_
        refine RunL.off rfl rfl rfl rfl ?_
        refine RunL.off rfl rfl rfl rfl ?_
        refine RunL.off rfl rfl rfl rfl ?_
        refine RunL.off rfl rfl rfl rfl ?_
        refine RunL.ok (OpOk.pickF rfl rfl) rfl ?_
        refine RunL.ok (OpOk.assign rfl) rfl ?_
        refine RunL.nil ?_
        refine Run.inBlock ?_
        refine Run.region ?_
        refine RunL.ok (OpOk.move rfl) rfl ?_
        refine RunL.ok (OpOk.addN _ 1 rfl rfl rfl rfl (by omega)) rfl ?_
        refine RunL.ok (OpOk.assign rfl) rfl ?_
        refine RunL.nil ?_
        refine Run.jump (ih3) ⟨rfl, rfl, rfl, rfl, trivial⟩ ((Grew.refl _))
      | false =>
        rw [ht] at ih3
        refine Run.seq ?_
        refine Run.seq ?_
        refine Run.region ?_
        refine RunL.ok (OpOk.move rfl) rfl ?_
        refine RunL.ok (OpOk.fieldAddr fld89_4 rfl) rfl ?_
        refine RunL.ok (OpOk.load rfl rfl rfl (Blk.out Blk.pts _ _ (by first | rfl | assumption))) rfl ?_
        refine RunL.ok (OpOk.lenV rfl rfl rfl) rfl ?_
        refine RunL.ok (OpOk.asT (OpOk.lss rfl rfl) (by omega)) rfl ?_
        refine RunL.nil ?_
        refine Run.condT rfl ?_
        refine Run.skip ?_
        refine Run.seq ?_
        refine Run.block ?_
        refine Run.region ?_
        refine RunL.ok (OpOk.move rfl) rfl ?_
        refine RunL.ok (OpOk.move rfl) rfl ?_
        refine RunL.on rfl rfl ?_
        refine RunL.ok (OpOk.fieldAddr fld89_4 rfl) rfl ?_
        refine RunL.on rfl rfl ?_
        refine RunL.ok (OpOk.load rfl rfl rfl (Blk.out Blk.pts _ _ (by first | rfl | assumption))) rfl ?_
        refine RunL.on rfl rfl ?_
        refine RunL.ok (OpOk.move rfl) rfl ?_
        refine RunL.on rfl rfl ?_
        refine RunL.ok (OpOk.idxN rfl ti111 rfl rd.left rfl (by omega)) rfl ?_
        refine RunL.on rfl rfl ?_
        refine RunL.ok (OpOk.fieldAddrA fld111_3 rfl) rfl ?_
        refine RunL.on rfl rfl ?_
        refine RunL.ok (OpOk.loadFl1E hoe rfl rfl rfl rd.left (fun _ => rfl) rfl (by omega) rfl) rfl ?_
        refine RunL.on rfl rfl ?_
        refine RunL.ok (OpOk.move rfl) rfl ?_
        refine RunL.on rfl rfl ?_
        refine RunL.ok (OpOk.neq rfl rfl) rfl ?_
        refine RunL.ok (OpOk.pickT rfl rfl) rfl ?_
        refine RunL.ok (OpOk.assign rfl) rfl ?_
        refine RunL.nil ?_
        refine Run.inBlock ?_
        refine Run.region ?_
        refine RunL.ok (OpOk.move rfl) rfl ?_
        refine RunL.ok (OpOk.addN _ 1 rfl rfl rfl rfl (by omega)) rfl ?_
        refine RunL.ok (OpOk.assign rfl) rfl ?_
        refine RunL.nil ?_
        refine Run.jump (ih3) ⟨rfl, rfl, rfl, rfl, trivial⟩ ((Grew.refl _))
    · obtain rfl : j = es.length := by omega
      clear ih2
      rw [List.take_length]
      cases ht : takenE es (x : Int) with
      | false =>
        rw [if_pos ht] at hf
        rw [hf]
        refine Run.seq ?_
        refine Run.seq ?_
        refine Run.region ?_
        refine RunL.ok (OpOk.move rfl) rfl ?_
        refine RunL.ok (OpOk.fieldAddr fld89_4 rfl) rfl ?_
        refine RunL.ok (OpOk.load rfl rfl rfl (Blk.out Blk.pts _ _ (by first | rfl | assumption))) rfl ?_
        refine RunL.ok (OpOk.lenV rfl rfl rfl) rfl ?_
        refine RunL.ok (OpOk.asF (OpOk.lss rfl rfl) (by omega)) rfl ?_
        refine RunL.nil ?_
        refine Run.condF rfl ?_
        refine Run.exit rfl ?_
        refine Run.seq ?_
        refine Run.region ?_
        refine RunL.ok (OpOk.move rfl) rfl ?_
        refine RunL.nil ?_
        refine Run.condT rfl ?_
        refine Run.seq ?_
        refine Run.region ?_
        refine RunL.ok (OpOk.move rfl) rfl ?_
        refine RunL.ok (OpOk.assign rfl) rfl ?_
        refine RunL.nil ?_
        refine Run.ret1 Try.func48 rfl rfl ?_
        exact ⟨_, rfl, as1⟩
      | true =>
        rw [if_neg (by rw [ht]; decide)] at hf
        refine Run.seq ?_
        refine Run.seq ?_
        refine Run.region ?_
        refine RunL.ok (OpOk.move rfl) rfl ?_
        refine RunL.ok (OpOk.fieldAddr fld89_4 rfl) rfl ?_
        refine RunL.ok (OpOk.load rfl rfl rfl (Blk.out Blk.pts _ _ (by first | rfl | assumption))) rfl ?_
        refine RunL.ok (OpOk.lenV rfl rfl rfl) rfl ?_
        refine RunL.ok (OpOk.asF (OpOk.lss rfl rfl) (by omega)) rfl ?_
        refine RunL.nil ?_
        refine Run.condF rfl ?_
        refine Run.exit rfl ?_
        refine Run.seq ?_
        refine Run.region ?_
        refine RunL.ok (OpOk.move rfl) rfl ?_
        refine RunL.nil ?_
        refine Run.condF rfl ?_
        refine Run.skip ?_
        refine Run.inBlock ?_
        refine Run.region ?_
        refine RunL.ok (OpOk.move rfl) rfl ?_
        refine RunL.ok (OpOk.addN _ 1 rfl rfl rfl rfl (by omega)) rfl ?_
        refine RunL.ok (OpOk.assign rfl) rfl ?_
        refine RunL.nil ?_
        refine Run.jump ((ih (x + 1) ⟨by omega, hf⟩ (by omega))) ⟨rfl, rfl, trivial⟩ ((Grew.refl _))
  · obtain rfl : x = 6 := by omega
    clear ih
    rw [Nat.sub_self, freeN] at hf
    rw [hf]
    refine Run.seq ?_
    refine Run.seq ?_
    refine Run.region ?_
    refine RunL.ok (OpOk.move rfl) rfl ?_
    refine RunL.ok (OpOk.asF (OpOk.lss rfl rfl) (by omega)) rfl ?_
    refine RunL.nil ?_
    refine Run.condF rfl ?_
    refine Run.exit rfl ?_
    refine Run.seq ?_
    refine Run.region ?_
    refine RunL.ok (OpOk.assign rfl) rfl ?_
    refine RunL.nil ?_
    refine Run.ret1 Try.func48 rfl rfl ?_
    exact ⟨_, rfl, as1⟩
end
end Go.Proofs.Yteopadjihklkmaa
end

section
namespace Go.Proofs.Yteopadjihklkmaa
open Go Go.Proofs
abbrev K4 := Int × Int × Int × Int
def k4 (p : K4) : Value := .agg #[.int .i64 p.1, .int .i64 p.2.1, .int .i64 p.2.2.1, .int .i64 p.2.2.2]
section
variable {P : Program} {w : World} {d : Nat} {f : Field} {fs : List Field} {xs ys : Array Value}
theorem step_int {a b : Int} (hn : (f.name == "_") = false) (h : P.underlying f.type = some (.int .i64)) (hx : xs[f.offset]? = some (.int .i64 a)) (hy : ys[f.offset]? = some (.int .i64 b)) :
    (Op.eqFields (d + 1) xs ys (f :: fs)).run P w = if a = b then (Op.eqFields (d + 1) xs ys fs).run P w else .ok false w := by
  have hn' : f.name ≠ "_" := by simpa using hn
  have p0 : (part f.type xs f.offset).run P w = .ok (.int .i64 a) w := run_part_int w h hx
  have p1 : (part f.type ys f.offset).run P w = .ok (.int .i64 b) w := run_part_int w h hy
  have q0 : (Op.equalIn (d + 1) f.type (.int .i64 a) (.int .i64 b)).run P w = .ok (a == b) w := run_equalIn_int _ d _ _ _ _ _ h
  simp only [Op.eqFields, if_pos hn', Sem.run_bind, p0, p1, q0, Result.andThen_ok]
  by_cases e : a = b
  · simp [e]
  · simp [e]
end
structure Four (P : Program) (t : TypeId) : Prop where
  out : ∃ f0 f1 f2 f3 : Field, P.underlying t = some (.struct #[f0, f1, f2, f3]) ∧ P.stoodInHeld t = false ∧ P.eqGuardType P.depth t = false ∧ P.cellsOf t = 4 ∧
    ((f0.name == "_") = false ∧ (f1.name == "_") = false ∧ (f2.name == "_") = false ∧ (f3.name == "_") = false) ∧ (f0.offset = 0 ∧ f1.offset = 1 ∧ f2.offset = 2 ∧ f3.offset = 3) ∧
    P.underlying f0.type = some (.int .i64) ∧ P.underlying f1.type = some (.int .i64) ∧ P.underlying f2.type = some (.int .i64) ∧ P.underlying f3.type = some (.int .i64)
section
variable {P : Program} {n : Nat} {w0 w : World} {E : Env} {A : Asn} {ty t : TypeId}
theorem run_equal_four {d : Nat} (h : Four P t) (p q : K4) : (Op.equalIn (d + 2) t (k4 p) (k4 q)).run P w = .ok (decide (p = q)) w := by
  obtain ⟨f0, f1, f2, f3, hu, hp, _, _, ⟨n0, n1, n2, n3⟩, ⟨o0, o1, o2, o3⟩, h0, h1, h2, h3⟩ := h.out
  have hf : P.fieldsOf t = #[f0, f1, f2, f3] := by simp [Program.fieldsOf, hu]
  obtain ⟨a, b, c, e⟩ := p
  obtain ⟨a', b', c', e'⟩ := q
  unfold k4
  rw [run_equalIn_struct (P := P) w (d + 1) t _ _ (by rw [hf]; exact hu) hp, hf]
  show (Op.eqFields (d + 1) _ _ [f0, f1, f2, f3]).run P w = _
  rw [step_int (a := a) (b := a') n0 h0 (by rw [o0]; rfl) (by rw [o0]; rfl), step_int (a := b) (b := b') n1 h1 (by rw [o1]; rfl) (by rw [o1]; rfl), step_int (a := c) (b := c') n2 h2 (by rw [o2]; rfl) (by rw [o2]; rfl), step_int (a := e) (b := e') n3 h3 (by rw [o3]; rfl) (by rw [o3]; rfl)]
  by_cases e0 : a = a'
  · by_cases e1 : b = b'
    · by_cases e2 : c = c'
      · by_cases e3 : e = e'
        · simp [e0, e1, e2, e3, Op.eqFields]
        · simp [e0, e1, e2, e3]
      · simp [e0, e1, e2]
    · simp [e0, e1]
  · simp [e0]
theorem OpOk.neqK4 {u : TypeId} {x y : Operand} {p q : K4} (h : Four P t) (hx : ev E x = some (k4 p)) (hy : ev E y = some (k4 q)) : OpOk P n w0 (.binOp .neq t x y u) ty E A (.bool (!decide (p = q))) :=
  .pure fun w' w _ _ _ _ he => by
    obtain ⟨f0, f1, f2, f3, hu, hp, hg, _⟩ := h.out
    have e1 := run_equal_four (w := w) (d := 9998) h p q
    have e2 := run_eqGuard_agg (P := P) (w := w) .neq t x y #[.int .i64 p.1, .int .i64 p.2.1, .int .i64 p.2.2.1, .int .i64 p.2.2.2] #[.int .i64 q.1, .int .i64 q.2.1, .int .i64 q.2.2.1, .int .i64 q.2.2.2] hg
    have e3 := run_neq_struct (P := P) (w := w) t #[.int .i64 p.1, .int .i64 p.2.1, .int .i64 p.2.2.1, .int .i64 p.2.2.2] #[.int .i64 q.1, .int .i64 q.2.1, .int .i64 q.2.2.1, .int .i64 q.2.2.2]
    unfold k4 at e1 hx hy
    rw [e1] at e3
    simp only [execOp, he.eval hx, he.eval hy, Sem.run_bind, e2, e3, Result.andThen_ok]
    rfl
end
end Go.Proofs.Yteopadjihklkmaa
end

section
namespace Go.Proofs.Yteopadjihklkmaa
open Go Go.Proofs
set_option maxRecDepth 100000
set_option maxHeartbeats 4000000
set_option linter.unusedSimpArgs false
set_option linter.unusedVariables false
theorem four111 : Four Try.prog 111 := ⟨_, _, _, _, Try.underlying111, by kernel_rfl, by kernel_rfl, by rfl, ⟨by rfl, by rfl, by rfl, by rfl⟩, ⟨by rfl, by rfl, by rfl, by rfl⟩, by rfl, by rfl, by rfl, by rfl⟩
theorem u8a {n : Nat} (h : n < 256) : ((n : Nat) : Int) = (((UInt8.ofNat n).toNat : Nat) : Int) := by rw [UInt8.toNat_ofNat']; omega
theorem u8b (n : Nat) : ((n : Nat) : Int) % 256 = (((UInt8.ofNat n).toNat : Nat) : Int) := by rw [UInt8.toNat_ofNat']; omega
theorem B_head {Q n : Nat} (hq : Q ≤ 65535) (hn : n ≤ 255) : [Value.int .u8 ((Q / 256 : Nat) : Int), Value.int .u8 ((Q : Int) % 256), Value.int .u8 (n : Int)] = B (listP (Q : Int) n []) := by
  rw [u8a (n := Q / 256) (by omega), u8b, u8a (n := n) (by omega)]
  rfl
theorem B_ent {k o d s : Nat} (hk : k ≤ 255) (ho : o ≤ 255) (hd : d ≤ 65535) (hs : s ≤ 255) : [Value.int .u8 (k : Int), Value.int .u8 (o : Int), Value.int .u8 ((d / 256 : Nat) : Int), Value.int .u8 ((d : Int) % 256), Value.int .u8 (s : Int)] = B (entB ((k : Int), (o : Int), (d : Int), (s : Int))) := by
  have e : B (entB ((k : Int), (o : Int), (d : Int), (s : Int))) = [Value.int .u8 (((UInt8.ofNat k).toNat : Nat) : Int), Value.int .u8 (((UInt8.ofNat o).toNat : Nat) : Int), Value.int .u8 (((UInt8.ofNat (d / 256)).toNat : Nat) : Int), Value.int .u8 (((UInt8.ofNat d).toNat : Nat) : Int), Value.int .u8 (((UInt8.ofNat s).toNat : Nat) : Int)] := rfl
  rw [e, ← u8a (n := k) (by omega), ← u8a (n := o) (by omega), ← u8a (n := d / 256) (by omega), ← u8b, ← u8a (n := s) (by omega)]
theorem B_sealed (l : List UInt8) : B l ++ [Value.int .u8 (((sum l).toNat / 256 : Nat) : Int), Value.int .u8 (((sum l).toNat : Int) % 256)] = B (sealed l) := by
  have h := sum_lt l
  have e1 : (hiB l).toNat = (sum l).toNat / 256 := by
    simp only [hiB, UInt8.toNat_ofNat']
    omega
  have e2 : (((loB l).toNat : Nat) : Int) = ((sum l).toNat : Int) % 256 := by
    simp only [loB, UInt8.toNat_ofNat']
    omega
  have e3 : B (sealed l) = B l ++ [Value.int .u8 (((hiB l).toNat : Nat) : Int), Value.int .u8 (((loB l).toNat : Nat) : Int)] := by simp [sealed, B]
  rw [e3, e1, e2]
section
variable {w0 : World} {A : Asn} {u : Value} {m : Nat} {bs xs : List UInt8}
theorem s52 (rd : Rd w0 A u 1 m (B bs)) (hm : m ≤ 30) : Spec Try.prog w0 52 [u] A (fun v' A' => ∃ J, A' = A * J * own 5 1 v' 32 (B (sectB bs))) := by
  have hl := rd.lenB
  subst hl
  have hmx := rd.max
  have hpl := pad_len hm
  have asBytes : True := trivial
  refine Spec.of_run [(0, u)] Try.func52 rfl (Nat.le_of_ble_eq_true rfl) (by repeat (first | exact trivial | refine ⟨rfl, ?_⟩)) ?_
  refine Run.seq ?_
  refine Run.region ?_
  refine RunL.ok (OpOk.assign rfl) rfl ?_
  refine RunL.nil ?_
  refine Run.seq ?_
  refine Run.region ?_
  refine RunL.makeB (m := 30) rfl ti5 rfl rfl (by omega) rfl (fun vx1 rdx1 => ?_)
  refine RunL.ok (OpOk.assign rfl) rfl ?_
  refine RunL.nil ?_
  refine Run.seq ?_
  refine Run.seq ?_
  refine Run.region ?_
  refine RunL.ok (OpOk.assign rfl) rfl ?_
  refine RunL.nil ?_
  refine Run.block ?_
  refine Run.jump ((Run.loopJ (X := Nat) (fun x => [(4, .int .i64 (x : Int)), (3, vx1), (0, u)]) (fun x => A * own 5 1 vx1 30 (B (bs.take x ++ List.replicate (30 - x) 0))) (fun x => x ≤ bs.length) (fun x => bs.length - x) 0 (Nat.zero_le _) (fun x hx ih => ?_))) ⟨rfl, rfl, rfl, trivial⟩ (Grew.of (frc rfl rfl) (Grew.refl _))
  rcases Nat.lt_or_ge x bs.length with hlt | hge
  · have hst : (bs.take x ++ List.replicate (30 - x) 0).set x (bs.getD x 0) = bs.take (x + 1) ++ List.replicate (30 - (x + 1)) 0 := by
      rw [List.set_append_right _ _ (by rw [List.length_take]; omega), List.length_take, show x - min x bs.length = 0 by omega, take_next hlt, show 30 - x = (30 - (x + 1)) + 1 by omega, List.replicate_succ, List.set_cons_zero, List.append_assoc]
      rfl
    refine Run.seq ?_
    refine Run.seq ?_
    refine Run.region ?_
    refine RunL.ok (OpOk.move rfl) rfl ?_
    refine RunL.ok (OpOk.move rfl) rfl ?_
    refine RunL.ok (OpOk.lenR rfl rfl rd.left rfl) rfl ?_
    refine RunL.ok (OpOk.asT (OpOk.lss rfl rfl) (by omega)) rfl ?_
    refine RunL.nil ?_
    refine Run.condT rfl ?_
    refine Run.skip ?_
    refine Run.seq ?_
    refine Run.block ?_
    refine Run.region ?_
    refine RunL.ok (OpOk.move rfl) rfl ?_
    refine RunL.ok (OpOk.move rfl) rfl ?_
    refine RunL.ok (OpOk.move rfl) rfl ?_
    refine RunL.ok (OpOk.move rfl) rfl ?_
    refine RunL.ok (OpOk.idx1N rfl ti5 rfl rd.left rfl (by omega)) rfl ?_
    refine RunL.ok (OpOk.load rfl rfl rfl (Rd.getB rd.left (by omega))) rfl ?_
    refine RunL.know (fun w s => (s.conv rfl).ownRd0) (fun rdy1 => ?_)
    refine RunL.ok (OpOk.idx1N rfl ti5 rfl (Rd.right rdy1) rfl (by omega)) rfl ?_
    refine RunL.storeB _ ti5 rfl rfl rfl rfl (by omega) ?_
    refine RunL.nil ?_
    refine Run.inBlock ?_
    refine Run.region ?_
    refine RunL.ok (OpOk.move rfl) rfl ?_
    refine RunL.ok (OpOk.addN _ 1 rfl rfl rfl rfl (by omega)) rfl ?_
    refine RunL.ok (OpOk.assign rfl) rfl ?_
    refine RunL.nil ?_
    rw [hst]
    refine Run.jump ((ih (x + 1) (by omega) (by omega))) ⟨rfl, rfl, rfl, trivial⟩ ((Grew.refl _))
  · obtain rfl : x = bs.length := by omega
    clear ih
    rw [List.take_length, ← pad]
    refine Run.seq ?_
    refine Run.seq ?_
    refine Run.region ?_
    refine RunL.ok (OpOk.move rfl) rfl ?_
    refine RunL.ok (OpOk.move rfl) rfl ?_
    refine RunL.ok (OpOk.lenR rfl rfl rd.left rfl) rfl ?_
    refine RunL.ok (OpOk.asF (OpOk.lss rfl rfl) (by omega)) rfl ?_
    refine RunL.nil ?_
    refine Run.condF rfl ?_
    refine Run.exit rfl ?_
    refine Run.seq ?_
    refine Run.region ?_
    refine RunL.ok (OpOk.move rfl) rfl ?_
    refine RunL.know (fun w s => (s.conv rfl).ownRd0) (fun rdy1 => ?_)
    refine RunL.call cal79 rfl (s79 (Rd.right rdy1)) rfl (fun vy2 Ay2 hy2 => ?_)
    obtain ⟨rfl, rfl⟩ := hy2
    refine RunL.ok (OpOk.assign rfl) rfl ?_
    refine RunL.nil ?_
    refine Run.seq ?_
    refine Run.region ?_
    refine RunL.ok (OpOk.move rfl) rfl ?_
    refine RunL.ok (OpOk.move rfl) rfl ?_
    refine RunL.ok (OpOk.quoN _ 256 rfl rfl rfl rfl (by omega) (by omega)) rfl ?_
    refine RunL.ok (OpOk.convInt rfl rfl rfl (wrapU8 (by omega) (by omega))) rfl ?_
    refine RunL.ok (OpOk.move rfl) rfl ?_
    refine RunL.ok (OpOk.convInt rfl rfl rfl (wrapU8m _)) rfl ?_
    refine RunL.lits rfl ti5 rfl rfl rfl (by simp [Value.cells]) (by decide) rfl (fun vy3 rdy3 => ?_)
    refine RunL.know (fun w s => (s.conv rfl).ownRd0) (fun rdy5 => ?_)
    refine RunL.append rfl ti5 rfl rfl rfl (frl rfl) (Rd.right rdy5) (by first | assumption | simp [Value.oneCell']) rfl (by decide) (by omega) (by simp only [maxLen]; omega) rfl (fun vy4 rdy4 => ?_)
    refine RunL.ok (OpOk.assign rfl) rfl ?_
    refine RunL.nil ?_
    refine Run.ret1 Try.func52 rfl rfl ?_
    rw [B_sealed, ← sectB, show 30 + 2 = 32 from rfl]
    exact out_of (by repeat (first | exact Grew.refl _ | refine Grew.mul ?_ _))
theorem s53 {q : Int} {es : List En} (rd : Rd w0 A u 4 m (Fl encT111 es)) (hq : 0 ≤ q) (hq2 : q ≤ 65535) (hm : m ≤ 255) (hes : ∀ e ∈ es, okE e) : Spec Try.prog w0 53 [.int .i64 q, u] A (fun v' A' => ∃ J, A' = A * J * own 5 1 v' (3 + 5 * m) (B (listB q es))) := by
  have hl := rd.lenFl (fun _ => rfl) (by decide)
  subst hl
  have hmx := rd.max
  have asBytes : True := trivial
  obtain ⟨Q, rfl⟩ := Int.eq_ofNat_of_zero_le hq
  refine Spec.of_run [(0, .int .i64 (Q : Int)), (1, u)] Try.func53 rfl (Nat.le_of_ble_eq_true rfl) (by repeat (first | exact trivial | refine ⟨rfl, ?_⟩)) ?_
  refine Run.seq ?_
  refine Run.region ?_
  refine RunL.ok (OpOk.assign rfl) rfl ?_
  refine RunL.nil ?_
  refine Run.seq ?_
  refine Run.region ?_
  refine RunL.ok (OpOk.move rfl) rfl ?_
  refine RunL.ok (OpOk.quoN _ 256 rfl rfl rfl rfl (by omega) (by omega)) rfl ?_
  refine RunL.ok (OpOk.convInt rfl rfl rfl (wrapU8 (by omega) (by omega))) rfl ?_
  refine RunL.ok (OpOk.move rfl) rfl ?_
  refine RunL.ok (OpOk.convInt rfl rfl rfl (wrapU8m _)) rfl ?_
  refine RunL.ok (OpOk.move rfl) rfl ?_
  refine RunL.ok (OpOk.lenR rfl rfl rd rfl) rfl ?_
  refine RunL.ok (OpOk.convInt rfl rfl rfl (wrapU8 (by omega) (by omega))) rfl ?_
  refine RunL.lits rfl ti5 rfl rfl rfl (by simp [Value.cells]) (by decide) rfl (fun vx1 rdx1 => ?_)
  refine RunL.ok (OpOk.assign rfl) rfl ?_
  refine RunL.nil ?_
  refine Run.seq ?_
  refine Run.seq ?_
  refine Run.region ?_
  refine RunL.ok (OpOk.assign rfl) rfl ?_
  refine RunL.nil ?_
  refine Run.block ?_
  rw [B_head (by omega) (by omega)]
  refine Run.mem (A' := A * emp * own 5 1 vx1 3 (B (listP (Q : Int) es.length []))) (by rw [sep_emp]) ?_
  refine Run.jump ((Run.loopJ (X := Nat × Asn × Value) (fun x => [(6, .int .i64 (x.1 : Int)), (5, x.2.2), (1, u)]) (fun x => A * x.2.1 * own 5 1 x.2.2 (3 + 5 * x.1) (B (listP (Q : Int) es.length (es.take x.1)))) (fun x => x.1 ≤ es.length) (fun x => es.length - x.1) (0, emp, vx1) (Nat.zero_le _) (fun x hx ih => ?_))) ⟨rfl, rfl, rfl, trivial⟩ (Grew.of (frc rfl rfl) (Grew.refl _))
  obtain ⟨i, J, v⟩ := x
  simp only at hx ih ⊢
  rcases Nat.lt_or_ge i es.length with hlt | hge
  · have hoke := hes _ (getD_mem hlt)
    have htk : listP (Q : Int) es.length (es.take i) ++ entB (es.getD i default) = listP (Q : Int) es.length (es.take (i + 1)) := by
      rw [listP, listP, take_next hlt, List.flatMap_append, List.append_assoc]; simp
    obtain ⟨e, hoe⟩ : ∃ e, es.getD i default = e := ⟨_, rfl⟩
    rw [hoe] at hoke htk
    obtain ⟨k, o, d, s⟩ := e
    obtain ⟨a1, a2, a3, a4, a5, a6, a7, a8⟩ := hoke
    dsimp only at a1 a2 a3 a4 a5 a6 a7 a8
    obtain ⟨k, rfl⟩ := Int.eq_ofNat_of_zero_le a1
    obtain ⟨o, rfl⟩ := Int.eq_ofNat_of_zero_le a3
    obtain ⟨d, rfl⟩ := Int.eq_ofNat_of_zero_le a5
    obtain ⟨s, rfl⟩ := Int.eq_ofNat_of_zero_le a7
    refine Run.seq ?_
    refine Run.seq ?_
    refine Run.region ?_
    refine RunL.ok (OpOk.move rfl) rfl ?_
    refine RunL.ok (OpOk.move rfl) rfl ?_
    refine RunL.ok (OpOk.lenR rfl rfl rd.left.left rfl) rfl ?_
    refine RunL.ok (OpOk.asT (OpOk.lss rfl rfl) (by omega)) rfl ?_
    refine RunL.nil ?_
    refine Run.condT rfl ?_
    refine Run.skip ?_
    refine Run.seq ?_
    refine Run.block ?_
    refine Run.know (fun w s => (s.conv rfl).ownRd0) (fun rdy1 => ?_)
    (apply Run.drawD [34] (by rfl) (Eq.trans rfl rfl); case hchk => kernel_rfl)
    refine Sd.quiet 0 _ _ rfl rfl rfl rfl rfl (QOp.ok (fun X => OpOk.move rfl)) ?_
    refine Sd.quiet 1 _ _ rfl rfl rfl rfl rfl (QOp.ok (fun X => OpOk.move rfl)) ?_
    refine Sd.quiet 2 _ _ rfl rfl rfl rfl rfl (QOp.ok (fun X => OpOk.move rfl)) ?_
    refine Sd.quiet 3 _ _ rfl rfl rfl rfl rfl (QOp.ok (fun X => OpOk.idxN rfl ti111 rfl rd.left.left.left rfl (by omega))) ?_
    refine Sd.quiet 4 _ _ rfl rfl rfl rfl rfl (QOp.ok (fun X => OpOk.fieldAddrA fld111_0 rfl)) ?_
    refine Sd.quiet 5 _ _ rfl rfl rfl rfl rfl (QOp.ok (fun X => OpOk.loadFl1E hoe rfl rfl rfl rd.left.left.left (fun _ => rfl) rfl (by omega) rfl)) ?_
    refine Sd.quiet 6 _ _ rfl rfl rfl rfl rfl (QOp.ok (fun X => OpOk.convInt rfl rfl rfl (wrapU8 (by omega) (by omega)))) ?_
    refine Sd.quiet 7 _ _ rfl rfl rfl rfl rfl (QOp.ok (fun X => OpOk.move rfl)) ?_
    refine Sd.quiet 8 _ _ rfl rfl rfl rfl rfl (QOp.ok (fun X => OpOk.move rfl)) ?_
    refine Sd.quiet 9 _ _ rfl rfl rfl rfl rfl (QOp.ok (fun X => OpOk.idxN rfl ti111 rfl rd.left.left.left rfl (by omega))) ?_
    refine Sd.quiet 10 _ _ rfl rfl rfl rfl rfl (QOp.ok (fun X => OpOk.fieldAddrA fld111_1 rfl)) ?_
    refine Sd.quiet 11 _ _ rfl rfl rfl rfl rfl (QOp.ok (fun X => OpOk.loadFl1E hoe rfl rfl rfl rd.left.left.left (fun _ => rfl) rfl (by omega) rfl)) ?_
    refine Sd.quiet 12 _ _ rfl rfl rfl rfl rfl (QOp.ok (fun X => OpOk.convInt rfl rfl rfl (wrapU8 (by omega) (by omega)))) ?_
    refine Sd.quiet 13 _ _ rfl rfl rfl rfl rfl (QOp.ok (fun X => OpOk.move rfl)) ?_
    refine Sd.quiet 14 _ _ rfl rfl rfl rfl rfl (QOp.ok (fun X => OpOk.move rfl)) ?_
    refine Sd.quiet 15 _ _ rfl rfl rfl rfl rfl (QOp.ok (fun X => OpOk.idxN rfl ti111 rfl rd.left.left.left rfl (by omega))) ?_
    refine Sd.quiet 16 _ _ rfl rfl rfl rfl rfl (QOp.ok (fun X => OpOk.fieldAddrA fld111_2 rfl)) ?_
    refine Sd.quiet 17 _ _ rfl rfl rfl rfl rfl (QOp.ok (fun X => OpOk.loadFl1E hoe rfl rfl rfl rd.left.left.left (fun _ => rfl) rfl (by omega) rfl)) ?_
    refine Sd.quiet 18 _ _ rfl rfl rfl rfl rfl (QOp.ok (fun X => OpOk.quoN _ 256 rfl rfl rfl rfl (by omega) (by omega))) ?_
    refine Sd.quiet 19 _ _ rfl rfl rfl rfl rfl (QOp.ok (fun X => OpOk.convInt rfl rfl rfl (wrapU8 (by omega) (by omega)))) ?_
    refine Sd.quiet 20 _ _ rfl rfl rfl rfl rfl (QOp.ok (fun X => OpOk.move rfl)) ?_
    refine Sd.quiet 21 _ _ rfl rfl rfl rfl rfl (QOp.ok (fun X => OpOk.move rfl)) ?_
    refine Sd.quiet 22 _ _ rfl rfl rfl rfl rfl (QOp.ok (fun X => OpOk.idxN rfl ti111 rfl rd.left.left.left rfl (by omega))) ?_
    refine Sd.quiet 23 _ _ rfl rfl rfl rfl rfl (QOp.ok (fun X => OpOk.fieldAddrA fld111_2 rfl)) ?_
    refine Sd.quiet 24 _ _ rfl rfl rfl rfl rfl (QOp.ok (fun X => OpOk.loadFl1E hoe rfl rfl rfl rd.left.left.left (fun _ => rfl) rfl (by omega) rfl)) ?_
    refine Sd.quiet 25 _ _ rfl rfl rfl rfl rfl (QOp.ok (fun X => OpOk.convInt rfl rfl rfl (wrapU8m _))) ?_
    refine Sd.quiet 26 _ _ rfl rfl rfl rfl rfl (QOp.ok (fun X => OpOk.move rfl)) ?_
    refine Sd.quiet 27 _ _ rfl rfl rfl rfl rfl (QOp.ok (fun X => OpOk.move rfl)) ?_
    refine Sd.quiet 28 _ _ rfl rfl rfl rfl rfl (QOp.ok (fun X => OpOk.idxN rfl ti111 rfl rd.left.left.left rfl (by omega))) ?_
    refine Sd.quiet 29 _ _ rfl rfl rfl rfl rfl (QOp.ok (fun X => OpOk.fieldAddrA fld111_3 rfl)) ?_
    refine Sd.quiet 30 _ _ rfl rfl rfl rfl rfl (QOp.ok (fun X => OpOk.loadFl1E hoe rfl rfl rfl rd.left.left.left (fun _ => rfl) rfl (by omega) rfl)) ?_
    refine Sd.quiet 31 _ _ rfl rfl rfl rfl rfl (QOp.ok (fun X => OpOk.convInt rfl rfl rfl (wrapU8 (by omega) (by omega)))) ?_
    (refine Sd.exec 32 rfl rfl rfl rfl rfl ?hrest (by rfl) (fun Xy2 Ky2 hKy2 => ?_); case hrest => kernel_rfl)
    refine RunL.mem (fl2 (sep_emp _) rfl) ?_
    refine RunL.lits rfl ti5 rfl rfl rfl (by simp [Value.cells]) (by decide) rfl (fun vy3 rdy3 => ?_)
    refine RunL.know (fun w s => (s.conv rfl).ownRd0) (fun rdy4 => ?_)
    refine Sd.ret hKy2 (Eq.trans (frc (frl rfl) rfl) (gp2 rfl rfl)) ⟨_, (emp_sep _).symm⟩ ?_
    (refine Sd.exec 33 rfl rfl rfl rfl rfl ?hrest (by rfl) (fun Xy5 Ky5 hKy5 => ?_); case hrest => kernel_rfl)
    refine RunL.mem (fl2 rfl rfl) ?_
    refine RunL.append rfl ti5 rfl rfl rfl rfl (Rd.right rdy4).left (by first | assumption | simp [Value.oneCell']) rfl (by decide) (by omega) (by simp only [maxLen]; omega) rfl (fun vy6 rdy6 => ?_)
    refine RunL.know (fun w s => (s.conv rfl).ownRd0) (fun rdy7 => ?_)
    refine Sd.ret hKy5 (Eq.trans rfl (gp2 (sep_emp _).symm (asg rfl))) ⟨_, rfl⟩ ?_
    (apply Sd.tail; case hall => kernel_rfl)
    refine RunL.mem (fl2 (flS rfl) (sep_emp _)) ?_
    refine RunL.ok (OpOk.assign rfl) rfl ?_
    refine RunL.nil ?_
    refine Run.inBlock ?_
    refine Run.region ?_
    refine RunL.ok (OpOk.move rfl) rfl ?_
    refine RunL.ok (OpOk.addN _ 1 rfl rfl rfl rfl (by omega)) rfl ?_
    refine RunL.ok (OpOk.assign rfl) rfl ?_
    refine RunL.nil ?_
    rw [B_ent (by omega) (by omega) (by omega) (by omega), ← B_append, htk, show 3 + 5 * i + 5 = 3 + 5 * (i + 1) by omega]
    refine Run.jump ((ih (i + 1, _, vy6) (by dsimp only; omega) (by dsimp only; omega))) ⟨rfl, rfl, rfl, trivial⟩ (Grew.of (congrArg (· * _) (asg as1)) (Grew.refl _))
  · obtain rfl : i = es.length := by omega
    clear ih
    rw [List.take_length]
    refine Run.seq ?_
    refine Run.seq ?_
    refine Run.region ?_
    refine RunL.ok (OpOk.move rfl) rfl ?_
    refine RunL.ok (OpOk.move rfl) rfl ?_
    refine RunL.ok (OpOk.lenR rfl rfl rd.left.left rfl) rfl ?_
    refine RunL.ok (OpOk.asF (OpOk.lss rfl rfl) (by omega)) rfl ?_
    refine RunL.nil ?_
    refine Run.condF rfl ?_
    refine Run.exit rfl ?_
    refine Run.seq ?_
    refine Run.region ?_
    refine RunL.ok (OpOk.move rfl) rfl ?_
    refine RunL.ok (OpOk.assign rfl) rfl ?_
    refine RunL.nil ?_
    refine Run.ret1 Try.func53 rfl rfl ?_
    exact ⟨_, (congrArg (· * _) as1)⟩
end
end Go.Proofs.Yteopadjihklkmaa
end

section
namespace Go.Proofs.Yteopadjihklkmaa
open Go Go.Proofs
set_option maxRecDepth 100000
set_option maxHeartbeats 4000000
set_option linter.unusedSimpArgs false
set_option linter.unusedVariables false
section
variable {w0 : World} {A : Asn} {u : Value} {m m2 cap cap2 : Nat} {bs xs : List UInt8} {a b c d : Int} {ad ad2 : Option Addr} {es : List En}
theorem s43 (rd : Rd w0 A (.slice ad m cap) 4 m (Fl encT111 es)) (rd2 : Rd w0 A (.slice ad2 m2 cap2) 4 m2 (Fl encT111 es)) : Spec Try.prog w0 43 [.agg #[.int .i64 a, .int .i64 b, .int .i64 c, .int .i64 d, .slice ad m cap], .agg #[.int .i64 a, .int .i64 b, .int .i64 c, .int .i64 d, .slice ad2 m2 cap2]] A (fun v' A' => ∃ J, v' = .bool true ∧ A' = A * J) := by
  have hl := rd.lenFl (fun _ => rfl) (by decide)
  subst hl
  have hl2 := rd2.lenFl (fun _ => rfl) (by decide)
  subst hl2
  have hmx := rd.max
  refine Spec.of_run [(0, .agg #[.int .i64 a, .int .i64 b, .int .i64 c, .int .i64 d, .slice ad es.length cap]), (1, .agg #[.int .i64 a, .int .i64 b, .int .i64 c, .int .i64 d, .slice ad2 es.length cap2])] Try.func43 rfl (Nat.le_of_ble_eq_true rfl) (by repeat (first | exact trivial | refine ⟨rfl, ?_⟩)) ?_
  refine Run.seq ?_
  refine Run.region ?_
  refine RunL.box rfl rfl (fun bx1 => ?_)
  refine RunL.box rfl rfl (fun bx2 => ?_)
  refine RunL.ok (OpOk.assign rfl) rfl ?_
  refine RunL.nil ?_
  refine Run.seq ?_
  refine Run.seq ?_
  refine Run.region ?_
  refine RunL.ok (OpOk.fieldAddr fld89_0 rfl) rfl ?_
  refine RunL.ok (OpOk.load rfl rfl rfl (Blk.out Blk.pts.left _ _ (by first | rfl | assumption))) rfl ?_
  refine RunL.ok (OpOk.fieldAddr fld89_0 rfl) rfl ?_
  refine RunL.ok (OpOk.load rfl rfl rfl (Blk.out Blk.pts _ _ (by first | rfl | assumption))) rfl ?_
  refine RunL.ok (OpOk.as (c := false) (OpOk.neq rfl rfl) (by rw [decide_eq_true (by omega)]; rfl)) rfl ?_
  refine RunL.ok (OpOk.move rfl) rfl ?_
  refine RunL.on rfl rfl ?_
  refine RunL.ok (OpOk.fieldAddr fld89_1 rfl) rfl ?_
  refine RunL.on rfl rfl ?_
  refine RunL.ok (OpOk.load rfl rfl rfl (Blk.out Blk.pts.left _ _ (by first | rfl | assumption))) rfl ?_
  refine RunL.on rfl rfl ?_
  refine RunL.ok (OpOk.fieldAddr fld89_1 rfl) rfl ?_
  refine RunL.on rfl rfl ?_
  refine RunL.ok (OpOk.load rfl rfl rfl (Blk.out Blk.pts _ _ (by first | rfl | assumption))) rfl ?_
  refine RunL.on rfl rfl ?_
  refine RunL.ok (OpOk.as (c := false) (OpOk.neq rfl rfl) (by rw [decide_eq_true (by omega)]; rfl)) rfl ?_
  refine RunL.ok (OpOk.pickF rfl rfl) rfl ?_
  refine RunL.ok (OpOk.move rfl) rfl ?_
  refine RunL.on rfl rfl ?_
  refine RunL.ok (OpOk.fieldAddr fld89_2 rfl) rfl ?_
  refine RunL.on rfl rfl ?_
  refine RunL.ok (OpOk.load rfl rfl rfl (Blk.out Blk.pts.left _ _ (by first | rfl | assumption))) rfl ?_
  refine RunL.on rfl rfl ?_
  refine RunL.ok (OpOk.fieldAddr fld89_2 rfl) rfl ?_
  refine RunL.on rfl rfl ?_
  refine RunL.ok (OpOk.load rfl rfl rfl (Blk.out Blk.pts _ _ (by first | rfl | assumption))) rfl ?_
  refine RunL.on rfl rfl ?_
  refine RunL.ok (OpOk.as (c := false) (OpOk.neq rfl rfl) (by rw [decide_eq_true (by omega)]; rfl)) rfl ?_
  refine RunL.ok (OpOk.pickF rfl rfl) rfl ?_
  refine RunL.ok (OpOk.move rfl) rfl ?_
  refine RunL.on rfl rfl ?_
  refine RunL.ok (OpOk.fieldAddr fld89_3 rfl) rfl ?_
  refine RunL.on rfl rfl ?_
  refine RunL.ok (OpOk.load rfl rfl rfl (Blk.out Blk.pts.left _ _ (by first | rfl | assumption))) rfl ?_
  refine RunL.on rfl rfl ?_
  refine RunL.ok (OpOk.fieldAddr fld89_3 rfl) rfl ?_
  refine RunL.on rfl rfl ?_
  refine RunL.ok (OpOk.load rfl rfl rfl (Blk.out Blk.pts _ _ (by first | rfl | assumption))) rfl ?_
  refine RunL.on rfl rfl ?_
  refine RunL.ok (OpOk.as (c := false) (OpOk.neq rfl rfl) (by rw [decide_eq_true (by omega)]; rfl)) rfl ?_
  refine RunL.ok (OpOk.pickF rfl rfl) rfl ?_
  refine RunL.ok (OpOk.move rfl) rfl ?_
  refine RunL.on rfl rfl ?_
  refine RunL.ok (OpOk.fieldAddr fld89_4 rfl) rfl ?_
  refine RunL.on rfl rfl ?_
  refine RunL.ok (OpOk.load rfl rfl rfl (Blk.out Blk.pts.left _ _ (by first | rfl | assumption))) rfl ?_
  refine RunL.on rfl rfl ?_
  refine RunL.ok (OpOk.lenV rfl rfl rfl) rfl ?_
  refine RunL.on rfl rfl ?_
  refine RunL.ok (OpOk.fieldAddr fld89_4 rfl) rfl ?_
  refine RunL.on rfl rfl ?_
  refine RunL.ok (OpOk.load rfl rfl rfl (Blk.out Blk.pts _ _ (by first | rfl | assumption))) rfl ?_
  refine RunL.on rfl rfl ?_
  refine RunL.ok (OpOk.lenV rfl rfl rfl) rfl ?_
  refine RunL.on rfl rfl ?_
  refine RunL.ok (OpOk.as (c := false) (OpOk.neq rfl rfl) (by rw [decide_eq_true (by omega)]; rfl)) rfl ?_
  refine RunL.ok (OpOk.pickF rfl rfl) rfl ?_
  refine RunL.nil ?_
  refine Run.condF rfl ?_
  refine Run.skip ?_
  refine Run.seq ?_
  refine Run.seq ?_
  refine Run.region ?_
  refine RunL.ok (OpOk.assign rfl) rfl ?_
  refine RunL.nil ?_
  refine Run.block ?_
  refine Run.jump ((Run.loopJ (X := Nat) (fun x => [(5, .int .i64 (x : Int)), (3, .pointer (some ⟨bx2, 0, none⟩)), (2, .pointer (some ⟨bx1, 0, none⟩))]) (fun x => A * pts bx1 (.cells (Value.agg #[.int .i64 a, .int .i64 b, .int .i64 c, .int .i64 d, .slice ad es.length cap]).cells 89 (0, 0)) * pts bx2 (.cells (Value.agg #[.int .i64 a, .int .i64 b, .int .i64 c, .int .i64 d, .slice ad2 es.length cap2]).cells 89 (0, 0))) (fun x => x ≤ es.length) (fun x => es.length - x) 0 (Nat.zero_le _) (fun x hx ih => ?_))) ⟨rfl, rfl, rfl, trivial⟩ ((Grew.refl _))
  rcases Nat.lt_or_ge x es.length with hlt | hge
  · obtain ⟨e, hoe⟩ : ∃ e, es.getD x default = e := ⟨_, rfl⟩
    obtain ⟨k, o, i, s⟩ := e
    refine Run.seq ?_
    refine Run.seq ?_
    refine Run.region ?_
    refine RunL.ok (OpOk.move rfl) rfl ?_
    refine RunL.ok (OpOk.fieldAddr fld89_4 rfl) rfl ?_
    refine RunL.ok (OpOk.load rfl rfl rfl (Blk.out Blk.pts.left _ _ (by first | rfl | assumption))) rfl ?_
    refine RunL.ok (OpOk.lenV rfl rfl rfl) rfl ?_
    refine RunL.ok (OpOk.asT (OpOk.lss rfl rfl) (by omega)) rfl ?_
    refine RunL.nil ?_
    refine Run.condT rfl ?_
    refine Run.skip ?_
    refine Run.seq ?_
    refine Run.block ?_
    refine Run.seq ?_
    (apply Run.drawD [] (by rfl) (sep_emp _).symm; case hchk => kernel_rfl)
    refine Sd.quiet 0 _ _ rfl rfl rfl rfl rfl (QOp.ok (fun X => OpOk.fieldAddr fld89_4 rfl)) ?_
    refine Sd.quiet 1 _ _ rfl rfl rfl rfl rfl (QOp.ok (fun X => OpOk.load rfl rfl rfl (Blk.out Blk.pts.left.left.left _ _ (by first | rfl | assumption)))) ?_
    refine Sd.quiet 2 _ _ rfl rfl rfl rfl rfl (QOp.ok (fun X => OpOk.move rfl)) ?_
    refine Sd.quiet 3 _ _ rfl rfl rfl rfl rfl (QOp.ok (fun X => OpOk.idxN rfl ti111 rfl rd.left.left.left.left rfl (by omega))) ?_
    refine Sd.quiet 4 _ _ rfl rfl rfl rfl rfl (QOp.ok (fun X => OpOk.loadFlE (by assumption) rfl rfl ti111 rfl rd.left.left.left.left (fun _ => rfl) rfl (by omega))) ?_
    refine Sd.quiet 5 _ _ rfl rfl rfl rfl rfl (QOp.ok (fun X => OpOk.fieldAddr fld89_4 rfl)) ?_
    refine Sd.quiet 6 _ _ rfl rfl rfl rfl rfl (QOp.ok (fun X => OpOk.load rfl rfl rfl (Blk.out Blk.pts.left.left _ _ (by first | rfl | assumption)))) ?_
    refine Sd.quiet 7 _ _ rfl rfl rfl rfl rfl (QOp.ok (fun X => OpOk.move rfl)) ?_
    refine Sd.quiet 8 _ _ rfl rfl rfl rfl rfl (QOp.ok (fun X => OpOk.idxN rfl ti111 rfl rd2.left.left.left.left rfl (by omega))) ?_
    refine Sd.quiet 9 _ _ rfl rfl rfl rfl rfl (QOp.ok (fun X => OpOk.loadFlE (by assumption) rfl rfl ti111 rfl rd2.left.left.left.left (fun _ => rfl) rfl (by omega))) ?_
    refine Sd.quiet 10 _ _ rfl rfl rfl rfl rfl (QOp.ok (fun X => OpOk.neqK4 (p := (k, o, i, s)) (q := (k, o, i, s)) four111 rfl rfl)) ?_
    (apply Sd.tail; case hall => kernel_rfl)
    refine RunL.mem (fl2 (sep_emp _) (sep_emp _)) ?_
    refine RunL.nil ?_
    refine Run.condNF rfl (by first | omega | with_reducible rfl | assumption) ?_
    refine Run.skip ?_
    refine Run.inBlock ?_
    refine Run.region ?_
    refine RunL.ok (OpOk.move rfl) rfl ?_
    refine RunL.ok (OpOk.addN _ 1 rfl rfl rfl rfl (by omega)) rfl ?_
    refine RunL.ok (OpOk.assign rfl) rfl ?_
    refine RunL.nil ?_
    refine Run.jump ((ih (x + 1) (by omega) (by omega))) ⟨rfl, rfl, rfl, trivial⟩ ((Grew.refl _))
  · obtain rfl : x = es.length := by omega
    clear ih
    refine Run.seq ?_
    refine Run.seq ?_
    refine Run.region ?_
    refine RunL.ok (OpOk.move rfl) rfl ?_
    refine RunL.ok (OpOk.fieldAddr fld89_4 rfl) rfl ?_
    refine RunL.ok (OpOk.load rfl rfl rfl (Blk.out Blk.pts.left _ _ (by first | rfl | assumption))) rfl ?_
    refine RunL.ok (OpOk.lenV rfl rfl rfl) rfl ?_
    refine RunL.ok (OpOk.asF (OpOk.lss rfl rfl) (by omega)) rfl ?_
    refine RunL.nil ?_
    refine Run.condF rfl ?_
    refine Run.exit rfl ?_
    refine Run.seq ?_
    refine Run.region ?_
    refine RunL.ok (OpOk.assign rfl) rfl ?_
    refine RunL.nil ?_
    refine Run.ret1 Try.func43 rfl rfl ?_
    exact ⟨_, rfl, (asg as1)⟩
theorem view_spec (rd : Rd w0 A (.slice ad m cap) 4 m (Fl encT111 es)) (hm : m ≤ 1048576) : Spec Try.prog w0 44 [.agg #[.int .i64 a, .int .i64 b, .int .i64 c, .int .i64 d, .slice ad m cap]] A (fun v' A' => ∃ v J, v' = .agg #[.int .i64 a, .int .i64 b, .int .i64 c, .int .i64 d, v] ∧ A' = A * J * own 111 4 v m (Fl encT111 es)) := by
  refine Spec.of_run [(0, .agg #[.int .i64 a, .int .i64 b, .int .i64 c, .int .i64 d, .slice ad m cap])] Try.func44 rfl (Nat.le_of_ble_eq_true rfl) (by repeat (first | exact trivial | refine ⟨rfl, ?_⟩)) ?_
  refine Run.seq ?_
  refine Run.region ?_
  refine RunL.box rfl rfl (fun bx1 => ?_)
  refine RunL.alloc ti89 rfl (fun bx2 => ?_)
  refine RunL.nil ?_
  refine Run.seq ?_
  (apply Run.drawD [13] (by rfl) (sep_emp _).symm; case hchk => kernel_rfl)
  refine Sd.quiet 0 _ _ rfl rfl rfl rfl rfl (QOp.ok (fun X => OpOk.fieldAddr fld86_0 rfl)) ?_
  refine Sd.quiet 1 _ _ rfl rfl rfl rfl rfl (QOp.ok (fun X => OpOk.load rfl rfl rfl (Blk.out Blk.pts.left.left.left _ _ (by first | rfl | assumption)))) ?_
  refine Sd.quiet 2 _ _ rfl rfl rfl rfl rfl (QOp.ok (fun X => OpOk.fieldAddr fld86_1 rfl)) ?_
  refine Sd.quiet 3 _ _ rfl rfl rfl rfl rfl (QOp.ok (fun X => OpOk.load rfl rfl rfl (Blk.out Blk.pts.left.left.left _ _ (by first | rfl | assumption)))) ?_
  refine Sd.quiet 4 _ _ rfl rfl rfl rfl rfl (QOp.ok (fun X => OpOk.fieldAddr fld86_2 rfl)) ?_
  refine Sd.quiet 5 _ _ rfl rfl rfl rfl rfl (QOp.ok (fun X => OpOk.load rfl rfl rfl (Blk.out Blk.pts.left.left.left _ _ (by first | rfl | assumption)))) ?_
  refine Sd.quiet 6 _ _ rfl rfl rfl rfl rfl (QOp.ok (fun X => OpOk.fieldAddr fld86_3 rfl)) ?_
  refine Sd.quiet 7 _ _ rfl rfl rfl rfl rfl (QOp.ok (fun X => OpOk.load rfl rfl rfl (Blk.out Blk.pts.left.left.left _ _ (by first | rfl | assumption)))) ?_
  refine Sd.quiet 9 _ _ rfl rfl rfl rfl rfl (QOp.ok (fun X => OpOk.fieldAddr fld86_4 rfl)) ?_
  refine Sd.quiet 10 _ _ rfl rfl rfl rfl rfl (QOp.ok (fun X => OpOk.load rfl rfl rfl (Blk.out Blk.pts.left.left.left _ _ (by first | rfl | assumption)))) ?_
  (refine Sd.exec 8 rfl rfl rfl rfl rfl ?hrest (by rfl) (fun Xx3 Kx3 hKx3 => ?_); case hrest => kernel_rfl)
  refine RunL.mem (fl2 (sep_emp _) (sep_emp _)) ?_
  refine RunL.lit0 rfl ti111 rfl (fun vx4 rdx4 => ?_)
  refine RunL.know (fun w s => (s.conv rfl).ownRd0) (fun rdx5 => ?_)
  refine Sd.ret hKx3 (Eq.trans rfl (gp2 rfl (sep_emp _).symm)) ⟨emp, (sep_emp _).symm⟩ ?_
  (refine Sd.exec 11 rfl rfl rfl rfl rfl ?hrest (by rfl) (fun Xx6 Kx6 hKx6 => ?_); case hrest => kernel_rfl)
  refine RunL.mem (fl2 (sep_emp _) rfl) ?_
  refine RunL.appendF0 rfl ti111 rfl rfl rfl rfl rd.left.left.left.left rfl (by decide) (by omega) (by simp only [maxLen]; omega) rfl (fun vx7 rdx7 => ?_)
  refine RunL.know (fun w s => (s.conv rfl).ownRd0) (fun rdx8 => ?_)
  refine Sd.ret hKx6 (Eq.trans rfl (gp2 (sep_emp _).symm rfl)) ⟨_, (emp_sep _).symm⟩ ?_
  (refine Sd.exec 12 rfl rfl rfl rfl rfl ?hrest (by rfl) (fun Xx9 Kx9 hKx9 => ?_); case hrest => kernel_rfl)
  refine RunL.mem (fl2 rfl (sep_emp _)) ?_
  obtain ⟨adx10, capx10, rfl, hcapx10, hadx10⟩ := (rdx8).form
  refine RunL.ok (OpOk.build (cells := #[.int (IntKind.i64) (a), .int (IntKind.i64) (b), .int (IntKind.i64) (c), .int (IntKind.i64) (d), .slice (adx10) (m) (capx10)]) rfl (fun w => run_build w 89 _ _ (by rfl))) rfl ?_
  refine Sd.ret hKx9 (Eq.trans rfl (gp2 (sep_emp _).symm rfl)) ⟨emp, (sep_emp _).symm⟩ ?_
  (apply Sd.tail; case hall => kernel_rfl)
  refine RunL.mem (fl2 rfl (sep_emp _)) ?_
  refine RunL.storeAll ti89 rfl rfl rfl (ones rfl) (frl rfl) rfl ?_
  refine RunL.nil ?_
  refine Run.retC (A' := _) Try.func44 rfl rfl rfl ti89 rfl Blk.pts rfl (Grew.refl _) ?_
  exact ⟨_, _, rfl, (Eq.trans (frc (frl rfl) rfl) (congrArg (· * _) (asg as1)))⟩
theorem s44 (rd : Rd w0 A (.slice ad m cap) 4 m (Fl encT111 es)) (hm : m ≤ 1048576) : Spec Try.prog w0 44 [.agg #[.int .i64 a, .int .i64 b, .int .i64 c, .int .i64 d, .slice ad m cap]] A (fun v' A' => ∃ ad2 cap2 J, v' = .agg #[.int .i64 a, .int .i64 b, .int .i64 c, .int .i64 d, .slice ad2 m cap2] ∧ A' = A * J * own 111 4 (.slice ad2 m cap2) m (Fl encT111 es)) := by
  refine Spec.learn2 (view_spec rd hm) ?_
  rintro v' A' w ⟨v, J, rfl, rfl⟩ hs
  obtain ⟨ad2, cap2, rfl, _, _⟩ := hs.ownRd0.form
  exact ⟨ad2, cap2, J, rfl, rfl⟩
end
end Go.Proofs.Yteopadjihklkmaa
end
