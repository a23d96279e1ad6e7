/- Part 12 of the proof of ShellFormats. -/
import Derived.Test.YteopadjihklkmaaMShellFormats11
section
namespace Go.Proofs.Yteopadjihklkmaa
open Go Go.Proofs
set_option maxRecDepth 100000
set_option maxHeartbeats 4000000
set_option linter.unusedSimpArgs false
set_option linter.unusedVariables false
theorem atE_range (o i : Int) (es : List En) : atE o i es = -1 ∨ 0 ≤ atE o i es ∧ atE o i es < es.length := by
  have h := (idxE_any (fun e => decide (e.2.1 = o ∧ e.2.2.1 = i)) es 0).2
  have : atE o i es = idxE (fun e => decide (e.2.1 = o ∧ e.2.2.1 = i)) 0 es := rfl
  omega
theorem freeN_range (es : List En) : ∀ (n : Nat) (s : Int), 0 ≤ s → freeN es n s = -1 ∨ s ≤ freeN es n s ∧ freeN es n s < s + n
  | 0, s, h => .inl rfl
  | n + 1, s, h => by
    rw [freeN]
    split
    · right; omega
    · have := freeN_range es n (s + 1) (by omega)
      omega
theorem freeE_range (es : List En) : freeE es = -1 ∨ 0 ≤ freeE es ∧ freeE es < 6 := by
  have := freeN_range es 6 0 (by omega)
  have e : freeE es = freeN es 6 0 := rfl
  omega
section
variable {w0 : World} {A : Asn} {p : Nat} {a b q c k o i s : Int} {ad : Option Addr} {m cap n : Nat} {es : List En} {u : Value} {bs : List UInt8}
theorem s57a (rd : Rd w0 A (.slice ad m cap) 4 m (Fl encT111 es)) (hr : ¬ rightP (k, o, i, freeE es)) :
    Spec Try.prog w0 57 [.pointer (some ⟨p, 0, none⟩), .agg #[.int .i64 a, .int .i64 b, .int .i64 q, .int .i64 c, .slice ad m cap], .agg #[.int .i64 k, .int .i64 o, .int .i64 i, .int .i64 s], u] A (fun v' A' => ∃ J, v' = .tuple #[.agg #[.int .i64 0, .int .i64 0, .int .i64 0, .int .i64 0, .slice none 0 0], .int .i64 2] ∧ A' = A * J) := by
  refine Spec.of_run [(0, .pointer (some ⟨p, 0, none⟩)), (1, .agg #[.int .i64 a, .int .i64 b, .int .i64 q, .int .i64 c, .slice ad m cap]), (2, .agg #[.int .i64 k, .int .i64 o, .int .i64 i, .int .i64 s]), (3, u)] Try.func57 rfl (Nat.le_of_ble_eq_true rfl) (by repeat (first | exact trivial | refine ⟨rfl, ?_⟩)) ?_
  refine Run.seq ?_
  refine Run.region ?_
  refine RunL.box rfl rfl (fun bx1 => ?_)
  refine RunL.box rfl rfl (fun bx2 => ?_)
  refine RunL.alloc ti86 rfl (fun bx3 => ?_)
  refine RunL.ok (OpOk.assign rfl) rfl ?_
  refine RunL.nil ?_
  refine Run.seq ?_
  refine Run.region ?_
  refine RunL.ok (OpOk.loadS rfl rfl ti86 rfl Blk.pts.left.left rfl) rfl ?_
  refine RunL.ok (OpOk.fieldAddr fld111_1 rfl) rfl ?_
  refine RunL.ok (OpOk.load rfl rfl rfl (Blk.out Blk.pts.left _ _ (by first | rfl | assumption))) rfl ?_
  refine RunL.ok (OpOk.fieldAddr fld111_2 rfl) rfl ?_
  refine RunL.ok (OpOk.load rfl rfl rfl (Blk.out Blk.pts.left _ _ (by first | rfl | assumption))) rfl ?_
  refine RunL.call cal45 rfl (s45 rd.left.left.left) rfl (fun vx4 Ax4 hx4 => ?_)
  obtain ⟨x5, ⟨rfl, rfl⟩⟩ := hx4
  refine RunL.ok (OpOk.assign rfl) rfl ?_
  refine RunL.nil ?_
  refine Run.seq ?_
  refine Run.region ?_
  refine RunL.ok (OpOk.loadS rfl rfl ti86 rfl Blk.pts.left.left.left rfl) rfl ?_
  refine RunL.call cal47 rfl (s47 rd.left.left.left.left) rfl (fun vx6 Ax6 hx6 => ?_)
  obtain ⟨x7, ⟨rfl, rfl⟩⟩ := hx6
  refine RunL.ok (OpOk.fieldAddr fld111_3 rfl) rfl ?_
  refine RunL.store ti3 rfl rfl rfl (frl (frl (frl rfl))) (by exact Nat.le_of_ble_eq_true rfl) (.inl rfl) ?_
  refine RunL.nil ?_
  refine Run.seq ?_
  refine Run.block ?_
  refine Run.seq ?_
  refine Run.region ?_
  refine RunL.ok (OpOk.move rfl) rfl ?_
  refine RunL.ok (OpOk.eqlPN rfl rfl) rfl ?_
  refine RunL.ok (OpOk.move rfl) rfl ?_
  refine RunL.on rfl rfl ?_
  refine RunL.ok (OpOk.loadS rfl rfl ti111 rfl Blk.pts rfl) rfl ?_
  refine RunL.on rfl rfl ?_
  refine RunL.call cal103 rfl (s103) rfl (fun vx8 Ax8 hx8 => ?_)
  obtain ⟨x9, ⟨rfl, rfl⟩⟩ := hx8
  refine RunL.on rfl rfl ?_
  refine RunL.ok (OpOk.not rfl) rfl ?_
  refine RunL.ok (OpOk.pickF rfl rfl) rfl ?_
  refine RunL.ok (OpOk.assign rfl) rfl ?_
  refine RunL.nil ?_
  refine Run.condNT rfl (by first | omega | assumption) ?_
  refine Run.seq ?_
  refine Run.region ?_
  refine RunL.ok (OpOk.build rfl (fun w => run_build w 86 _ _ (by rfl))) rfl ?_
  refine RunL.storeAll ti86 rfl rfl rfl (ones rfl) (frl (frl (frl (frl rfl)))) rfl ?_
  refine RunL.ok (OpOk.assign rfl) rfl ?_
  refine RunL.nil ?_
  refine Run.retC2 (A' := _) Try.func57 rfl rfl rfl ti86 rfl rfl Blk.pts rfl (Grew.refl _) ?_
  exact ⟨_, rfl, (asg (asg (asg (asg (asg as1)))))⟩
theorem s57b (rd : Rd w0 A (.slice ad m cap) 4 m (Fl encT111 es)) (rdb : Rd w0 A u 1 n (B bs)) (hr : rightP (k, o, i, freeE es)) (hn : 64 < n) :
    Spec Try.prog w0 57 [.pointer (some ⟨p, 0, none⟩), .agg #[.int .i64 a, .int .i64 b, .int .i64 q, .int .i64 c, .slice ad m cap], .agg #[.int .i64 k, .int .i64 o, .int .i64 i, .int .i64 s], u] A (fun v' A' => ∃ J, v' = .tuple #[.agg #[.int .i64 0, .int .i64 0, .int .i64 0, .int .i64 0, .slice none 0 0], .int .i64 11] ∧ A' = A * J) := by
  refine Spec.of_run [(0, .pointer (some ⟨p, 0, none⟩)), (1, .agg #[.int .i64 a, .int .i64 b, .int .i64 q, .int .i64 c, .slice ad m cap]), (2, .agg #[.int .i64 k, .int .i64 o, .int .i64 i, .int .i64 s]), (3, u)] Try.func57 rfl (Nat.le_of_ble_eq_true rfl) (by repeat (first | exact trivial | refine ⟨rfl, ?_⟩)) ?_
  refine Run.seq ?_
  refine Run.region ?_
  refine RunL.box rfl rfl (fun bx1 => ?_)
  refine RunL.box rfl rfl (fun bx2 => ?_)
  refine RunL.alloc ti86 rfl (fun bx3 => ?_)
  refine RunL.ok (OpOk.assign rfl) rfl ?_
  refine RunL.nil ?_
  refine Run.seq ?_
  refine Run.region ?_
  refine RunL.ok (OpOk.loadS rfl rfl ti86 rfl Blk.pts.left.left rfl) rfl ?_
  refine RunL.ok (OpOk.fieldAddr fld111_1 rfl) rfl ?_
  refine RunL.ok (OpOk.load rfl rfl rfl (Blk.out Blk.pts.left _ _ (by first | rfl | assumption))) rfl ?_
  refine RunL.ok (OpOk.fieldAddr fld111_2 rfl) rfl ?_
  refine RunL.ok (OpOk.load rfl rfl rfl (Blk.out Blk.pts.left _ _ (by first | rfl | assumption))) rfl ?_
  refine RunL.call cal45 rfl (s45 rd.left.left.left) rfl (fun vx4 Ax4 hx4 => ?_)
  obtain ⟨x5, ⟨rfl, rfl⟩⟩ := hx4
  refine RunL.ok (OpOk.assign rfl) rfl ?_
  refine RunL.nil ?_
  refine Run.seq ?_
  refine Run.region ?_
  refine RunL.ok (OpOk.loadS rfl rfl ti86 rfl Blk.pts.left.left.left rfl) rfl ?_
  refine RunL.call cal47 rfl (s47 rd.left.left.left.left) rfl (fun vx6 Ax6 hx6 => ?_)
  obtain ⟨x7, ⟨rfl, rfl⟩⟩ := hx6
  refine RunL.ok (OpOk.fieldAddr fld111_3 rfl) rfl ?_
  refine RunL.store ti3 rfl rfl rfl (frl (frl (frl rfl))) (by exact Nat.le_of_ble_eq_true rfl) (.inl rfl) ?_
  refine RunL.nil ?_
  refine Run.seq ?_
  refine Run.block ?_
  refine Run.seq ?_
  refine Run.region ?_
  refine RunL.ok (OpOk.move rfl) rfl ?_
  refine RunL.ok (OpOk.eqlPN rfl rfl) rfl ?_
  refine RunL.ok (OpOk.move rfl) rfl ?_
  refine RunL.on rfl rfl ?_
  refine RunL.ok (OpOk.loadS rfl rfl ti111 rfl Blk.pts rfl) rfl ?_
  refine RunL.on rfl rfl ?_
  refine RunL.call cal103 rfl (s103) rfl (fun vx8 Ax8 hx8 => ?_)
  obtain ⟨x9, ⟨rfl, rfl⟩⟩ := hx8
  refine RunL.on rfl rfl ?_
  refine RunL.ok (OpOk.not rfl) rfl ?_
  refine RunL.ok (OpOk.pickF rfl rfl) rfl ?_
  refine RunL.ok (OpOk.assign rfl) rfl ?_
  refine RunL.nil ?_
  refine Run.condNF rfl (by first | omega | with_reducible rfl | assumption) ?_
  refine Run.seq ?_
  refine Run.region ?_
  refine RunL.ok (OpOk.move rfl) rfl ?_
  refine RunL.ok (OpOk.lenR rfl rfl rdb.left.left.left.left.left.left rfl) rfl ?_
  refine RunL.ok (OpOk.asT (OpOk.gtr rfl rfl) (by omega)) rfl ?_
  refine RunL.ok (OpOk.assign rfl) rfl ?_
  refine RunL.nil ?_
  refine Run.condT rfl ?_
  refine Run.seq ?_
  refine Run.region ?_
  refine RunL.ok (OpOk.build rfl (fun w => run_build w 86 _ _ (by rfl))) rfl ?_
  refine RunL.storeAll ti86 rfl rfl rfl (ones rfl) (frl (frl (frl (frl rfl)))) rfl ?_
  refine RunL.ok (OpOk.assign rfl) rfl ?_
  refine RunL.nil ?_
  refine Run.retC2 (A' := _) Try.func57 rfl rfl rfl ti86 rfl rfl Blk.pts rfl (Grew.refl _) ?_
  exact ⟨_, rfl, (asg (asg (asg (asg (asg as1)))))⟩
theorem s57c (rd : Rd w0 A (.slice ad m cap) 4 m (Fl encT111 es)) (rdb : Rd w0 A u 1 n (B bs)) (hr : rightP (k, o, i, freeE es)) (hn : n ≤ 64) (hat : atE o i es < 0) (hm : 5 ≤ m) :
    Spec Try.prog w0 57 [.pointer (some ⟨p, 0, none⟩), .agg #[.int .i64 a, .int .i64 b, .int .i64 q, .int .i64 c, .slice ad m cap], .agg #[.int .i64 k, .int .i64 o, .int .i64 i, .int .i64 s], u] A (fun v' A' => ∃ J, v' = .tuple #[.agg #[.int .i64 0, .int .i64 0, .int .i64 0, .int .i64 0, .slice none 0 0], .int .i64 20] ∧ A' = A * J) := by
  refine Spec.of_run [(0, .pointer (some ⟨p, 0, none⟩)), (1, .agg #[.int .i64 a, .int .i64 b, .int .i64 q, .int .i64 c, .slice ad m cap]), (2, .agg #[.int .i64 k, .int .i64 o, .int .i64 i, .int .i64 s]), (3, u)] Try.func57 rfl (Nat.le_of_ble_eq_true rfl) (by repeat (first | exact trivial | refine ⟨rfl, ?_⟩)) ?_
  refine Run.seq ?_
  refine Run.region ?_
  refine RunL.box rfl rfl (fun bx1 => ?_)
  refine RunL.box rfl rfl (fun bx2 => ?_)
  refine RunL.alloc ti86 rfl (fun bx3 => ?_)
  refine RunL.ok (OpOk.assign rfl) rfl ?_
  refine RunL.nil ?_
  refine Run.seq ?_
  refine Run.region ?_
  refine RunL.ok (OpOk.loadS rfl rfl ti86 rfl Blk.pts.left.left rfl) rfl ?_
  refine RunL.ok (OpOk.fieldAddr fld111_1 rfl) rfl ?_
  refine RunL.ok (OpOk.load rfl rfl rfl (Blk.out Blk.pts.left _ _ (by first | rfl | assumption))) rfl ?_
  refine RunL.ok (OpOk.fieldAddr fld111_2 rfl) rfl ?_
  refine RunL.ok (OpOk.load rfl rfl rfl (Blk.out Blk.pts.left _ _ (by first | rfl | assumption))) rfl ?_
  refine RunL.call cal45 rfl (s45 rd.left.left.left) rfl (fun vx4 Ax4 hx4 => ?_)
  obtain ⟨x5, ⟨rfl, rfl⟩⟩ := hx4
  refine RunL.ok (OpOk.assign rfl) rfl ?_
  refine RunL.nil ?_
  refine Run.seq ?_
  refine Run.region ?_
  refine RunL.ok (OpOk.loadS rfl rfl ti86 rfl Blk.pts.left.left.left rfl) rfl ?_
  refine RunL.call cal47 rfl (s47 rd.left.left.left.left) rfl (fun vx6 Ax6 hx6 => ?_)
  obtain ⟨x7, ⟨rfl, rfl⟩⟩ := hx6
  refine RunL.ok (OpOk.fieldAddr fld111_3 rfl) rfl ?_
  refine RunL.store ti3 rfl rfl rfl (frl (frl (frl rfl))) (by exact Nat.le_of_ble_eq_true rfl) (.inl rfl) ?_
  refine RunL.nil ?_
  refine Run.seq ?_
  refine Run.block ?_
  refine Run.seq ?_
  refine Run.region ?_
  refine RunL.ok (OpOk.move rfl) rfl ?_
  refine RunL.ok (OpOk.eqlPN rfl rfl) rfl ?_
  refine RunL.ok (OpOk.move rfl) rfl ?_
  refine RunL.on rfl rfl ?_
  refine RunL.ok (OpOk.loadS rfl rfl ti111 rfl Blk.pts rfl) rfl ?_
  refine RunL.on rfl rfl ?_
  refine RunL.call cal103 rfl (s103) rfl (fun vx8 Ax8 hx8 => ?_)
  obtain ⟨x9, ⟨rfl, rfl⟩⟩ := hx8
  refine RunL.on rfl rfl ?_
  refine RunL.ok (OpOk.not rfl) rfl ?_
  refine RunL.ok (OpOk.pickF rfl rfl) rfl ?_
  refine RunL.ok (OpOk.assign rfl) rfl ?_
  refine RunL.nil ?_
  refine Run.condNF rfl (by first | omega | with_reducible rfl | assumption) ?_
  refine Run.seq ?_
  refine Run.region ?_
  refine RunL.ok (OpOk.move rfl) rfl ?_
  refine RunL.ok (OpOk.lenR rfl rfl rdb.left.left.left.left.left.left rfl) rfl ?_
  refine RunL.ok (OpOk.asF (OpOk.gtr rfl rfl) (by omega)) rfl ?_
  refine RunL.ok (OpOk.assign rfl) rfl ?_
  refine RunL.nil ?_
  refine Run.condF rfl ?_
  refine Run.seq ?_
  refine Run.region ?_
  refine RunL.ok (OpOk.move rfl) rfl ?_
  refine RunL.ok (OpOk.asT (OpOk.lss rfl rfl) (by omega)) rfl ?_
  refine RunL.ok (OpOk.move rfl) rfl ?_
  refine RunL.on rfl rfl ?_
  refine RunL.ok (OpOk.fieldAddr fld86_4 rfl) rfl ?_
  refine RunL.on rfl rfl ?_
  refine RunL.ok (OpOk.load rfl rfl rfl (Blk.out Blk.pts.left.left.left.left.left _ _ (by first | rfl | assumption))) rfl ?_
  refine RunL.on rfl rfl ?_
  refine RunL.ok (OpOk.lenV rfl rfl rfl) rfl ?_
  refine RunL.on rfl rfl ?_
  refine RunL.ok (OpOk.asT (OpOk.geq rfl rfl) (by omega)) rfl ?_
  refine RunL.ok (OpOk.pickT rfl rfl) rfl ?_
  refine RunL.ok (OpOk.assign rfl) rfl ?_
  refine RunL.nil ?_
  refine Run.condT rfl ?_
  refine Run.seq ?_
  refine Run.region ?_
  refine RunL.ok (OpOk.build rfl (fun w => run_build w 86 _ _ (by rfl))) rfl ?_
  refine RunL.storeAll ti86 rfl rfl rfl (ones rfl) (frl (frl (frl (frl rfl)))) rfl ?_
  refine RunL.ok (OpOk.assign rfl) rfl ?_
  refine RunL.nil ?_
  refine Run.retC2 (A' := _) Try.func57 rfl rfl rfl ti86 rfl rfl Blk.pts rfl (Grew.refl _) ?_
  exact ⟨_, rfl, (asg (asg (asg (asg (asg as1)))))⟩
/-- There's room: the product is there, or less than five are. -/
def roomP (o i : Int) (es : List En) : Prop := 0 ≤ atE o i es ∨ es.length < 5
theorem s57d (rd : Rd w0 A (.slice ad m cap) 4 m (Fl encT111 es)) (rdb : Rd w0 A u 1 n (B bs)) (hr : rightP (k, o, i, freeE es)) (hn : n ≤ 64) (hroom : roomP o i es) (hq : 65535 ≤ q) :
    Spec Try.prog w0 57 [.pointer (some ⟨p, 0, none⟩), .agg #[.int .i64 a, .int .i64 b, .int .i64 q, .int .i64 c, .slice ad m cap], .agg #[.int .i64 k, .int .i64 o, .int .i64 i, .int .i64 s], u] A (fun v' A' => ∃ J, v' = .tuple #[.agg #[.int .i64 0, .int .i64 0, .int .i64 0, .int .i64 0, .slice none 0 0], .int .i64 29] ∧ A' = A * J) := by
  have hl0 := rd.lenFl (fun _ => rfl) (by decide)
  subst hl0
  refine Spec.of_run [(0, .pointer (some ⟨p, 0, none⟩)), (1, .agg #[.int .i64 a, .int .i64 b, .int .i64 q, .int .i64 c, .slice ad es.length cap]), (2, .agg #[.int .i64 k, .int .i64 o, .int .i64 i, .int .i64 s]), (3, u)] Try.func57 rfl (Nat.le_of_ble_eq_true rfl) (by repeat (first | exact trivial | refine ⟨rfl, ?_⟩)) ?_
  rcases hroom with hroom | hroom
  · refine Run.seq ?_
    refine Run.region ?_
    refine RunL.box rfl rfl (fun bx1 => ?_)
    refine RunL.box rfl rfl (fun bx2 => ?_)
    refine RunL.alloc ti86 rfl (fun bx3 => ?_)
    refine RunL.ok (OpOk.assign rfl) rfl ?_
    refine RunL.nil ?_
    refine Run.seq ?_
    refine Run.region ?_
    refine RunL.ok (OpOk.loadS rfl rfl ti86 rfl Blk.pts.left.left rfl) rfl ?_
    refine RunL.ok (OpOk.fieldAddr fld111_1 rfl) rfl ?_
    refine RunL.ok (OpOk.load rfl rfl rfl (Blk.out Blk.pts.left _ _ (by first | rfl | assumption))) rfl ?_
    refine RunL.ok (OpOk.fieldAddr fld111_2 rfl) rfl ?_
    refine RunL.ok (OpOk.load rfl rfl rfl (Blk.out Blk.pts.left _ _ (by first | rfl | assumption))) rfl ?_
    refine RunL.call cal45 rfl (s45 rd.left.left.left) rfl (fun vx4 Ax4 hx4 => ?_)
    obtain ⟨x5, ⟨rfl, rfl⟩⟩ := hx4
    refine RunL.ok (OpOk.assign rfl) rfl ?_
    refine RunL.nil ?_
    refine Run.seq ?_
    refine Run.region ?_
    refine RunL.ok (OpOk.loadS rfl rfl ti86 rfl Blk.pts.left.left.left rfl) rfl ?_
    refine RunL.call cal47 rfl (s47 rd.left.left.left.left) rfl (fun vx6 Ax6 hx6 => ?_)
    obtain ⟨x7, ⟨rfl, rfl⟩⟩ := hx6
    refine RunL.ok (OpOk.fieldAddr fld111_3 rfl) rfl ?_
    refine RunL.store ti3 rfl rfl rfl (frl (frl (frl rfl))) (by exact Nat.le_of_ble_eq_true rfl) (.inl rfl) ?_
    refine RunL.nil ?_
    refine Run.seq ?_
    refine Run.block ?_
    refine Run.seq ?_
    refine Run.region ?_
    refine RunL.ok (OpOk.move rfl) rfl ?_
    refine RunL.ok (OpOk.eqlPN rfl rfl) rfl ?_
    refine RunL.ok (OpOk.move rfl) rfl ?_
    refine RunL.on rfl rfl ?_
    refine RunL.ok (OpOk.loadS rfl rfl ti111 rfl Blk.pts rfl) rfl ?_
    refine RunL.on rfl rfl ?_
    refine RunL.call cal103 rfl (s103) rfl (fun vx8 Ax8 hx8 => ?_)
    obtain ⟨x9, ⟨rfl, rfl⟩⟩ := hx8
    refine RunL.on rfl rfl ?_
    refine RunL.ok (OpOk.not rfl) rfl ?_
    refine RunL.ok (OpOk.pickF rfl rfl) rfl ?_
    refine RunL.ok (OpOk.assign rfl) rfl ?_
    refine RunL.nil ?_
    refine Run.condNF rfl (by first | omega | with_reducible rfl | assumption) ?_
    refine Run.seq ?_
    refine Run.region ?_
    refine RunL.ok (OpOk.move rfl) rfl ?_
    refine RunL.ok (OpOk.lenR rfl rfl rdb.left.left.left.left.left.left rfl) rfl ?_
    refine RunL.ok (OpOk.asF (OpOk.gtr rfl rfl) (by omega)) rfl ?_
    refine RunL.ok (OpOk.assign rfl) rfl ?_
    refine RunL.nil ?_
    refine Run.condF rfl ?_
    refine Run.seq ?_
    refine Run.region ?_
    refine RunL.ok (OpOk.move rfl) rfl ?_
    refine RunL.ok (OpOk.asF (OpOk.lss rfl rfl) (by omega)) rfl ?_
    refine RunL.ok (OpOk.move rfl) rfl ?_
    refine RunL.off rfl rfl rfl rfl ?_
    refine RunL.off rfl rfl rfl rfl ?_
    refine RunL.off rfl rfl rfl rfl ?_
    refine RunL.off rfl rfl rfl rfl ?_
    refine RunL.ok (OpOk.pickF rfl rfl) rfl ?_
    refine RunL.ok (OpOk.assign rfl) rfl ?_
    refine RunL.nil ?_
    refine Run.condF rfl ?_
    refine Run.seq ?_
    refine Run.region ?_
    refine RunL.ok (OpOk.fieldAddr fld86_2 rfl) rfl ?_
    refine RunL.ok (OpOk.load rfl rfl rfl (Blk.out Blk.pts.left.left.left.left.left _ _ (by first | rfl | assumption))) rfl ?_
    refine RunL.ok (OpOk.asT (OpOk.geq rfl rfl) (by omega)) rfl ?_
    refine RunL.ok (OpOk.assign rfl) rfl ?_
    refine RunL.nil ?_
    refine Run.condT rfl ?_
    refine Run.seq ?_
    refine Run.region ?_
    refine RunL.ok (OpOk.build rfl (fun w => run_build w 86 _ _ (by rfl))) rfl ?_
    refine RunL.storeAll ti86 rfl rfl rfl (ones rfl) (frl (frl (frl (frl rfl)))) rfl ?_
    refine RunL.ok (OpOk.assign rfl) rfl ?_
    refine RunL.nil ?_
    refine Run.retC2 (A' := _) Try.func57 rfl rfl rfl ti86 rfl rfl Blk.pts rfl (Grew.refl _) ?_
    exact ⟨_, rfl, (asg (asg (asg (asg (asg as1)))))⟩
  · rcases Int.lt_or_le (atE o i es) 0 with hat | hat
    · refine Run.seq ?_
      refine Run.region ?_
      refine RunL.box rfl rfl (fun bx1 => ?_)
      refine RunL.box rfl rfl (fun bx2 => ?_)
      refine RunL.alloc ti86 rfl (fun bx3 => ?_)
      refine RunL.ok (OpOk.assign rfl) rfl ?_
      refine RunL.nil ?_
      refine Run.seq ?_
      refine Run.region ?_
      refine RunL.ok (OpOk.loadS rfl rfl ti86 rfl Blk.pts.left.left rfl) rfl ?_
      refine RunL.ok (OpOk.fieldAddr fld111_1 rfl) rfl ?_
      refine RunL.ok (OpOk.load rfl rfl rfl (Blk.out Blk.pts.left _ _ (by first | rfl | assumption))) rfl ?_
      refine RunL.ok (OpOk.fieldAddr fld111_2 rfl) rfl ?_
      refine RunL.ok (OpOk.load rfl rfl rfl (Blk.out Blk.pts.left _ _ (by first | rfl | assumption))) rfl ?_
      refine RunL.call cal45 rfl (s45 rd.left.left.left) rfl (fun vx4 Ax4 hx4 => ?_)
      obtain ⟨x5, ⟨rfl, rfl⟩⟩ := hx4
      refine RunL.ok (OpOk.assign rfl) rfl ?_
      refine RunL.nil ?_
      refine Run.seq ?_
      refine Run.region ?_
      refine RunL.ok (OpOk.loadS rfl rfl ti86 rfl Blk.pts.left.left.left rfl) rfl ?_
      refine RunL.call cal47 rfl (s47 rd.left.left.left.left) rfl (fun vx6 Ax6 hx6 => ?_)
      obtain ⟨x7, ⟨rfl, rfl⟩⟩ := hx6
      refine RunL.ok (OpOk.fieldAddr fld111_3 rfl) rfl ?_
      refine RunL.store ti3 rfl rfl rfl (frl (frl (frl rfl))) (by exact Nat.le_of_ble_eq_true rfl) (.inl rfl) ?_
      refine RunL.nil ?_
      refine Run.seq ?_
      refine Run.block ?_
      refine Run.seq ?_
      refine Run.region ?_
      refine RunL.ok (OpOk.move rfl) rfl ?_
      refine RunL.ok (OpOk.eqlPN rfl rfl) rfl ?_
      refine RunL.ok (OpOk.move rfl) rfl ?_
      refine RunL.on rfl rfl ?_
      refine RunL.ok (OpOk.loadS rfl rfl ti111 rfl Blk.pts rfl) rfl ?_
      refine RunL.on rfl rfl ?_
      refine RunL.call cal103 rfl (s103) rfl (fun vx8 Ax8 hx8 => ?_)
      obtain ⟨x9, ⟨rfl, rfl⟩⟩ := hx8
      refine RunL.on rfl rfl ?_
      refine RunL.ok (OpOk.not rfl) rfl ?_
      refine RunL.ok (OpOk.pickF rfl rfl) rfl ?_
      refine RunL.ok (OpOk.assign rfl) rfl ?_
      refine RunL.nil ?_
      refine Run.condNF rfl (by first | omega | with_reducible rfl | assumption) ?_
      refine Run.seq ?_
      refine Run.region ?_
      refine RunL.ok (OpOk.move rfl) rfl ?_
      refine RunL.ok (OpOk.lenR rfl rfl rdb.left.left.left.left.left.left rfl) rfl ?_
      refine RunL.ok (OpOk.asF (OpOk.gtr rfl rfl) (by omega)) rfl ?_
      refine RunL.ok (OpOk.assign rfl) rfl ?_
      refine RunL.nil ?_
      refine Run.condF rfl ?_
      refine Run.seq ?_
      refine Run.region ?_
      refine RunL.ok (OpOk.move rfl) rfl ?_
      refine RunL.ok (OpOk.asT (OpOk.lss rfl rfl) (by omega)) rfl ?_
      refine RunL.ok (OpOk.move rfl) rfl ?_
      refine RunL.on rfl rfl ?_
      refine RunL.ok (OpOk.fieldAddr fld86_4 rfl) rfl ?_
      refine RunL.on rfl rfl ?_
      refine RunL.ok (OpOk.load rfl rfl rfl (Blk.out Blk.pts.left.left.left.left.left _ _ (by first | rfl | assumption))) rfl ?_
      refine RunL.on rfl rfl ?_
      refine RunL.ok (OpOk.lenV rfl rfl rfl) rfl ?_
      refine RunL.on rfl rfl ?_
      refine RunL.ok (OpOk.asF (OpOk.geq rfl rfl) (by omega)) rfl ?_
      refine RunL.ok (OpOk.pickT rfl rfl) rfl ?_
      refine RunL.ok (OpOk.assign rfl) rfl ?_
      refine RunL.nil ?_
      refine Run.condF rfl ?_
      refine Run.seq ?_
      refine Run.region ?_
      refine RunL.ok (OpOk.fieldAddr fld86_2 rfl) rfl ?_
      refine RunL.ok (OpOk.load rfl rfl rfl (Blk.out Blk.pts.left.left.left.left.left _ _ (by first | rfl | assumption))) rfl ?_
      refine RunL.ok (OpOk.asT (OpOk.geq rfl rfl) (by omega)) rfl ?_
      refine RunL.ok (OpOk.assign rfl) rfl ?_
      refine RunL.nil ?_
      refine Run.condT rfl ?_
      refine Run.seq ?_
      refine Run.region ?_
      refine RunL.ok (OpOk.build rfl (fun w => run_build w 86 _ _ (by rfl))) rfl ?_
      refine RunL.storeAll ti86 rfl rfl rfl (ones rfl) (frl (frl (frl (frl rfl)))) rfl ?_
      refine RunL.ok (OpOk.assign rfl) rfl ?_
      refine RunL.nil ?_
      refine Run.retC2 (A' := _) Try.func57 rfl rfl rfl ti86 rfl rfl Blk.pts rfl (Grew.refl _) ?_
      exact ⟨_, rfl, (asg (asg (asg (asg (asg as1)))))⟩
    · refine Run.seq ?_
      refine Run.region ?_
      refine RunL.box rfl rfl (fun bx1 => ?_)
      refine RunL.box rfl rfl (fun bx2 => ?_)
      refine RunL.alloc ti86 rfl (fun bx3 => ?_)
      refine RunL.ok (OpOk.assign rfl) rfl ?_
      refine RunL.nil ?_
      refine Run.seq ?_
      refine Run.region ?_
      refine RunL.ok (OpOk.loadS rfl rfl ti86 rfl Blk.pts.left.left rfl) rfl ?_
      refine RunL.ok (OpOk.fieldAddr fld111_1 rfl) rfl ?_
      refine RunL.ok (OpOk.load rfl rfl rfl (Blk.out Blk.pts.left _ _ (by first | rfl | assumption))) rfl ?_
      refine RunL.ok (OpOk.fieldAddr fld111_2 rfl) rfl ?_
      refine RunL.ok (OpOk.load rfl rfl rfl (Blk.out Blk.pts.left _ _ (by first | rfl | assumption))) rfl ?_
      refine RunL.call cal45 rfl (s45 rd.left.left.left) rfl (fun vx4 Ax4 hx4 => ?_)
      obtain ⟨x5, ⟨rfl, rfl⟩⟩ := hx4
      refine RunL.ok (OpOk.assign rfl) rfl ?_
      refine RunL.nil ?_
      refine Run.seq ?_
      refine Run.region ?_
      refine RunL.ok (OpOk.loadS rfl rfl ti86 rfl Blk.pts.left.left.left rfl) rfl ?_
      refine RunL.call cal47 rfl (s47 rd.left.left.left.left) rfl (fun vx6 Ax6 hx6 => ?_)
      obtain ⟨x7, ⟨rfl, rfl⟩⟩ := hx6
      refine RunL.ok (OpOk.fieldAddr fld111_3 rfl) rfl ?_
      refine RunL.store ti3 rfl rfl rfl (frl (frl (frl rfl))) (by exact Nat.le_of_ble_eq_true rfl) (.inl rfl) ?_
      refine RunL.nil ?_
      refine Run.seq ?_
      refine Run.block ?_
      refine Run.seq ?_
      refine Run.region ?_
      refine RunL.ok (OpOk.move rfl) rfl ?_
      refine RunL.ok (OpOk.eqlPN rfl rfl) rfl ?_
      refine RunL.ok (OpOk.move rfl) rfl ?_
      refine RunL.on rfl rfl ?_
      refine RunL.ok (OpOk.loadS rfl rfl ti111 rfl Blk.pts rfl) rfl ?_
      refine RunL.on rfl rfl ?_
      refine RunL.call cal103 rfl (s103) rfl (fun vx8 Ax8 hx8 => ?_)
      obtain ⟨x9, ⟨rfl, rfl⟩⟩ := hx8
      refine RunL.on rfl rfl ?_
      refine RunL.ok (OpOk.not rfl) rfl ?_
      refine RunL.ok (OpOk.pickF rfl rfl) rfl ?_
      refine RunL.ok (OpOk.assign rfl) rfl ?_
      refine RunL.nil ?_
      refine Run.condNF rfl (by first | omega | with_reducible rfl | assumption) ?_
      refine Run.seq ?_
      refine Run.region ?_
      refine RunL.ok (OpOk.move rfl) rfl ?_
      refine RunL.ok (OpOk.lenR rfl rfl rdb.left.left.left.left.left.left rfl) rfl ?_
      refine RunL.ok (OpOk.asF (OpOk.gtr rfl rfl) (by omega)) rfl ?_
      refine RunL.ok (OpOk.assign rfl) rfl ?_
      refine RunL.nil ?_
      refine Run.condF rfl ?_
      refine Run.seq ?_
      refine Run.region ?_
      refine RunL.ok (OpOk.move rfl) rfl ?_
      refine RunL.ok (OpOk.asF (OpOk.lss rfl rfl) (by omega)) rfl ?_
      refine RunL.ok (OpOk.move rfl) rfl ?_
      refine RunL.off rfl rfl rfl rfl ?_
      refine RunL.off rfl rfl rfl rfl ?_
      refine RunL.off rfl rfl rfl rfl ?_
      refine RunL.off rfl rfl rfl rfl ?_
      refine RunL.ok (OpOk.pickF rfl rfl) rfl ?_
      refine RunL.ok (OpOk.assign rfl) rfl ?_
      refine RunL.nil ?_
      refine Run.condF rfl ?_
      refine Run.seq ?_
      refine Run.region ?_
      refine RunL.ok (OpOk.fieldAddr fld86_2 rfl) rfl ?_
      refine RunL.ok (OpOk.load rfl rfl rfl (Blk.out Blk.pts.left.left.left.left.left _ _ (by first | rfl | assumption))) rfl ?_
      refine RunL.ok (OpOk.asT (OpOk.geq rfl rfl) (by omega)) rfl ?_
      refine RunL.ok (OpOk.assign rfl) rfl ?_
      refine RunL.nil ?_
      refine Run.condT rfl ?_
      refine Run.seq ?_
      refine Run.region ?_
      refine RunL.ok (OpOk.build rfl (fun w => run_build w 86 _ _ (by rfl))) rfl ?_
      refine RunL.storeAll ti86 rfl rfl rfl (ones rfl) (frl (frl (frl (frl rfl)))) rfl ?_
      refine RunL.ok (OpOk.assign rfl) rfl ?_
      refine RunL.nil ?_
      refine Run.retC2 (A' := _) Try.func57 rfl rfl rfl ti86 rfl rfl Blk.pts rfl (Grew.refl _) ?_
      exact ⟨_, rfl, (asg (asg (asg (asg (asg as1)))))⟩
theorem s57e (rd : Rd w0 A (.slice ad m cap) 4 m (Fl encT111 es)) (rdb : Rd w0 A u 1 n (B bs)) (hr : rightP (k, o, i, freeE es)) (hn : n ≤ 64) (hroom : roomP o i es) (hq : q < 65535) (hf : freeE es < 0) :
    Spec Try.prog w0 57 [.pointer (some ⟨p, 0, none⟩), .agg #[.int .i64 a, .int .i64 b, .int .i64 q, .int .i64 c, .slice ad m cap], .agg #[.int .i64 k, .int .i64 o, .int .i64 i, .int .i64 s], u] A (fun v' A' => ∃ J, v' = .tuple #[.agg #[.int .i64 0, .int .i64 0, .int .i64 0, .int .i64 0, .slice none 0 0], .int .i64 21] ∧ A' = A * J) := by
  have hl0 := rd.lenFl (fun _ => rfl) (by decide)
  subst hl0
  refine Spec.of_run [(0, .pointer (some ⟨p, 0, none⟩)), (1, .agg #[.int .i64 a, .int .i64 b, .int .i64 q, .int .i64 c, .slice ad es.length cap]), (2, .agg #[.int .i64 k, .int .i64 o, .int .i64 i, .int .i64 s]), (3, u)] Try.func57 rfl (Nat.le_of_ble_eq_true rfl) (by repeat (first | exact trivial | refine ⟨rfl, ?_⟩)) ?_
  rcases hroom with hroom | hroom
  · refine Run.seq ?_
    refine Run.region ?_
    refine RunL.box rfl rfl (fun bx1 => ?_)
    refine RunL.box rfl rfl (fun bx2 => ?_)
    refine RunL.alloc ti86 rfl (fun bx3 => ?_)
    refine RunL.ok (OpOk.assign rfl) rfl ?_
    refine RunL.nil ?_
    refine Run.seq ?_
    refine Run.region ?_
    refine RunL.ok (OpOk.loadS rfl rfl ti86 rfl Blk.pts.left.left rfl) rfl ?_
    refine RunL.ok (OpOk.fieldAddr fld111_1 rfl) rfl ?_
    refine RunL.ok (OpOk.load rfl rfl rfl (Blk.out Blk.pts.left _ _ (by first | rfl | assumption))) rfl ?_
    refine RunL.ok (OpOk.fieldAddr fld111_2 rfl) rfl ?_
    refine RunL.ok (OpOk.load rfl rfl rfl (Blk.out Blk.pts.left _ _ (by first | rfl | assumption))) rfl ?_
    refine RunL.call cal45 rfl (s45 rd.left.left.left) rfl (fun vx4 Ax4 hx4 => ?_)
    obtain ⟨x5, ⟨rfl, rfl⟩⟩ := hx4
    refine RunL.ok (OpOk.assign rfl) rfl ?_
    refine RunL.nil ?_
    refine Run.seq ?_
    refine Run.region ?_
    refine RunL.ok (OpOk.loadS rfl rfl ti86 rfl Blk.pts.left.left.left rfl) rfl ?_
    refine RunL.call cal47 rfl (s47 rd.left.left.left.left) rfl (fun vx6 Ax6 hx6 => ?_)
    obtain ⟨x7, ⟨rfl, rfl⟩⟩ := hx6
    refine RunL.ok (OpOk.fieldAddr fld111_3 rfl) rfl ?_
    refine RunL.store ti3 rfl rfl rfl (frl (frl (frl rfl))) (by exact Nat.le_of_ble_eq_true rfl) (.inl rfl) ?_
    refine RunL.nil ?_
    refine Run.seq ?_
    refine Run.block ?_
    refine Run.seq ?_
    refine Run.region ?_
    refine RunL.ok (OpOk.move rfl) rfl ?_
    refine RunL.ok (OpOk.eqlPN rfl rfl) rfl ?_
    refine RunL.ok (OpOk.move rfl) rfl ?_
    refine RunL.on rfl rfl ?_
    refine RunL.ok (OpOk.loadS rfl rfl ti111 rfl Blk.pts rfl) rfl ?_
    refine RunL.on rfl rfl ?_
    refine RunL.call cal103 rfl (s103) rfl (fun vx8 Ax8 hx8 => ?_)
    obtain ⟨x9, ⟨rfl, rfl⟩⟩ := hx8
    refine RunL.on rfl rfl ?_
    refine RunL.ok (OpOk.not rfl) rfl ?_
    refine RunL.ok (OpOk.pickF rfl rfl) rfl ?_
    refine RunL.ok (OpOk.assign rfl) rfl ?_
    refine RunL.nil ?_
    refine Run.condNF rfl (by first | omega | with_reducible rfl | assumption) ?_
    refine Run.seq ?_
    refine Run.region ?_
    refine RunL.ok (OpOk.move rfl) rfl ?_
    refine RunL.ok (OpOk.lenR rfl rfl rdb.left.left.left.left.left.left rfl) rfl ?_
    refine RunL.ok (OpOk.asF (OpOk.gtr rfl rfl) (by omega)) rfl ?_
    refine RunL.ok (OpOk.assign rfl) rfl ?_
    refine RunL.nil ?_
    refine Run.condF rfl ?_
    refine Run.seq ?_
    refine Run.region ?_
    refine RunL.ok (OpOk.move rfl) rfl ?_
    refine RunL.ok (OpOk.asF (OpOk.lss rfl rfl) (by omega)) rfl ?_
    refine RunL.ok (OpOk.move rfl) rfl ?_
    refine RunL.off rfl rfl rfl rfl ?_
    refine RunL.off rfl rfl rfl rfl ?_
    refine RunL.off rfl rfl rfl rfl ?_
    refine RunL.off rfl rfl rfl rfl ?_
    refine RunL.ok (OpOk.pickF rfl rfl) rfl ?_
    refine RunL.ok (OpOk.assign rfl) rfl ?_
    refine RunL.nil ?_
    refine Run.condF rfl ?_
    refine Run.seq ?_
    refine Run.region ?_
    refine RunL.ok (OpOk.fieldAddr fld86_2 rfl) rfl ?_
    refine RunL.ok (OpOk.load rfl rfl rfl (Blk.out Blk.pts.left.left.left.left.left _ _ (by first | rfl | assumption))) rfl ?_
    refine RunL.ok (OpOk.asF (OpOk.geq rfl rfl) (by omega)) rfl ?_
    refine RunL.ok (OpOk.assign rfl) rfl ?_
    refine RunL.nil ?_
    refine Run.condF rfl ?_
    refine Run.seq ?_
    refine Run.region ?_
    refine RunL.ok (OpOk.fieldAddr fld111_3 rfl) rfl ?_
    refine RunL.ok (OpOk.load rfl rfl rfl (Blk.out Blk.pts.left _ _ (by first | rfl | assumption))) rfl ?_
    refine RunL.ok (OpOk.asT (OpOk.lss rfl rfl) (by omega)) rfl ?_
    refine RunL.ok (OpOk.assign rfl) rfl ?_
    refine RunL.nil ?_
    refine Run.condT rfl ?_
    refine Run.seq ?_
    refine Run.region ?_
    refine RunL.ok (OpOk.build rfl (fun w => run_build w 86 _ _ (by rfl))) rfl ?_
    refine RunL.storeAll ti86 rfl rfl rfl (ones rfl) (frl (frl (frl (frl rfl)))) rfl ?_
    refine RunL.ok (OpOk.assign rfl) rfl ?_
    refine RunL.nil ?_
    refine Run.retC2 (A' := _) Try.func57 rfl rfl rfl ti86 rfl rfl Blk.pts rfl (Grew.refl _) ?_
    exact ⟨_, rfl, (asg (asg (asg (asg (asg as1)))))⟩
  · rcases Int.lt_or_le (atE o i es) 0 with hat | hat
    · refine Run.seq ?_
      refine Run.region ?_
      refine RunL.box rfl rfl (fun bx1 => ?_)
      refine RunL.box rfl rfl (fun bx2 => ?_)
      refine RunL.alloc ti86 rfl (fun bx3 => ?_)
      refine RunL.ok (OpOk.assign rfl) rfl ?_
      refine RunL.nil ?_
      refine Run.seq ?_
      refine Run.region ?_
      refine RunL.ok (OpOk.loadS rfl rfl ti86 rfl Blk.pts.left.left rfl) rfl ?_
      refine RunL.ok (OpOk.fieldAddr fld111_1 rfl) rfl ?_
      refine RunL.ok (OpOk.load rfl rfl rfl (Blk.out Blk.pts.left _ _ (by first | rfl | assumption))) rfl ?_
      refine RunL.ok (OpOk.fieldAddr fld111_2 rfl) rfl ?_
      refine RunL.ok (OpOk.load rfl rfl rfl (Blk.out Blk.pts.left _ _ (by first | rfl | assumption))) rfl ?_
      refine RunL.call cal45 rfl (s45 rd.left.left.left) rfl (fun vx4 Ax4 hx4 => ?_)
      obtain ⟨x5, ⟨rfl, rfl⟩⟩ := hx4
      refine RunL.ok (OpOk.assign rfl) rfl ?_
      refine RunL.nil ?_
      refine Run.seq ?_
      refine Run.region ?_
      refine RunL.ok (OpOk.loadS rfl rfl ti86 rfl Blk.pts.left.left.left rfl) rfl ?_
      refine RunL.call cal47 rfl (s47 rd.left.left.left.left) rfl (fun vx6 Ax6 hx6 => ?_)
      obtain ⟨x7, ⟨rfl, rfl⟩⟩ := hx6
      refine RunL.ok (OpOk.fieldAddr fld111_3 rfl) rfl ?_
      refine RunL.store ti3 rfl rfl rfl (frl (frl (frl rfl))) (by exact Nat.le_of_ble_eq_true rfl) (.inl rfl) ?_
      refine RunL.nil ?_
      refine Run.seq ?_
      refine Run.block ?_
      refine Run.seq ?_
      refine Run.region ?_
      refine RunL.ok (OpOk.move rfl) rfl ?_
      refine RunL.ok (OpOk.eqlPN rfl rfl) rfl ?_
      refine RunL.ok (OpOk.move rfl) rfl ?_
      refine RunL.on rfl rfl ?_
      refine RunL.ok (OpOk.loadS rfl rfl ti111 rfl Blk.pts rfl) rfl ?_
      refine RunL.on rfl rfl ?_
      refine RunL.call cal103 rfl (s103) rfl (fun vx8 Ax8 hx8 => ?_)
      obtain ⟨x9, ⟨rfl, rfl⟩⟩ := hx8
      refine RunL.on rfl rfl ?_
      refine RunL.ok (OpOk.not rfl) rfl ?_
      refine RunL.ok (OpOk.pickF rfl rfl) rfl ?_
      refine RunL.ok (OpOk.assign rfl) rfl ?_
      refine RunL.nil ?_
      refine Run.condNF rfl (by first | omega | with_reducible rfl | assumption) ?_
      refine Run.seq ?_
      refine Run.region ?_
      refine RunL.ok (OpOk.move rfl) rfl ?_
      refine RunL.ok (OpOk.lenR rfl rfl rdb.left.left.left.left.left.left rfl) rfl ?_
      refine RunL.ok (OpOk.asF (OpOk.gtr rfl rfl) (by omega)) rfl ?_
      refine RunL.ok (OpOk.assign rfl) rfl ?_
      refine RunL.nil ?_
      refine Run.condF rfl ?_
      refine Run.seq ?_
      refine Run.region ?_
      refine RunL.ok (OpOk.move rfl) rfl ?_
      refine RunL.ok (OpOk.asT (OpOk.lss rfl rfl) (by omega)) rfl ?_
      refine RunL.ok (OpOk.move rfl) rfl ?_
      refine RunL.on rfl rfl ?_
      refine RunL.ok (OpOk.fieldAddr fld86_4 rfl) rfl ?_
      refine RunL.on rfl rfl ?_
      refine RunL.ok (OpOk.load rfl rfl rfl (Blk.out Blk.pts.left.left.left.left.left _ _ (by first | rfl | assumption))) rfl ?_
      refine RunL.on rfl rfl ?_
      refine RunL.ok (OpOk.lenV rfl rfl rfl) rfl ?_
      refine RunL.on rfl rfl ?_
      refine RunL.ok (OpOk.asF (OpOk.geq rfl rfl) (by omega)) rfl ?_
      refine RunL.ok (OpOk.pickT rfl rfl) rfl ?_
      refine RunL.ok (OpOk.assign rfl) rfl ?_
      refine RunL.nil ?_
      refine Run.condF rfl ?_
      refine Run.seq ?_
      refine Run.region ?_
      refine RunL.ok (OpOk.fieldAddr fld86_2 rfl) rfl ?_
      refine RunL.ok (OpOk.load rfl rfl rfl (Blk.out Blk.pts.left.left.left.left.left _ _ (by first | rfl | assumption))) rfl ?_
      refine RunL.ok (OpOk.asF (OpOk.geq rfl rfl) (by omega)) rfl ?_
      refine RunL.ok (OpOk.assign rfl) rfl ?_
      refine RunL.nil ?_
      refine Run.condF rfl ?_
      refine Run.seq ?_
      refine Run.region ?_
      refine RunL.ok (OpOk.fieldAddr fld111_3 rfl) rfl ?_
      refine RunL.ok (OpOk.load rfl rfl rfl (Blk.out Blk.pts.left _ _ (by first | rfl | assumption))) rfl ?_
      refine RunL.ok (OpOk.asT (OpOk.lss rfl rfl) (by omega)) rfl ?_
      refine RunL.ok (OpOk.assign rfl) rfl ?_
      refine RunL.nil ?_
      refine Run.condT rfl ?_
      refine Run.seq ?_
      refine Run.region ?_
      refine RunL.ok (OpOk.build rfl (fun w => run_build w 86 _ _ (by rfl))) rfl ?_
      refine RunL.storeAll ti86 rfl rfl rfl (ones rfl) (frl (frl (frl (frl rfl)))) rfl ?_
      refine RunL.ok (OpOk.assign rfl) rfl ?_
      refine RunL.nil ?_
      refine Run.retC2 (A' := _) Try.func57 rfl rfl rfl ti86 rfl rfl Blk.pts rfl (Grew.refl _) ?_
      exact ⟨_, rfl, (asg (asg (asg (asg (asg as1)))))⟩
    · refine Run.seq ?_
      refine Run.region ?_
      refine RunL.box rfl rfl (fun bx1 => ?_)
      refine RunL.box rfl rfl (fun bx2 => ?_)
      refine RunL.alloc ti86 rfl (fun bx3 => ?_)
      refine RunL.ok (OpOk.assign rfl) rfl ?_
      refine RunL.nil ?_
      refine Run.seq ?_
      refine Run.region ?_
      refine RunL.ok (OpOk.loadS rfl rfl ti86 rfl Blk.pts.left.left rfl) rfl ?_
      refine RunL.ok (OpOk.fieldAddr fld111_1 rfl) rfl ?_
      refine RunL.ok (OpOk.load rfl rfl rfl (Blk.out Blk.pts.left _ _ (by first | rfl | assumption))) rfl ?_
      refine RunL.ok (OpOk.fieldAddr fld111_2 rfl) rfl ?_
      refine RunL.ok (OpOk.load rfl rfl rfl (Blk.out Blk.pts.left _ _ (by first | rfl | assumption))) rfl ?_
      refine RunL.call cal45 rfl (s45 rd.left.left.left) rfl (fun vx4 Ax4 hx4 => ?_)
      obtain ⟨x5, ⟨rfl, rfl⟩⟩ := hx4
      refine RunL.ok (OpOk.assign rfl) rfl ?_
      refine RunL.nil ?_
      refine Run.seq ?_
      refine Run.region ?_
      refine RunL.ok (OpOk.loadS rfl rfl ti86 rfl Blk.pts.left.left.left rfl) rfl ?_
      refine RunL.call cal47 rfl (s47 rd.left.left.left.left) rfl (fun vx6 Ax6 hx6 => ?_)
      obtain ⟨x7, ⟨rfl, rfl⟩⟩ := hx6
      refine RunL.ok (OpOk.fieldAddr fld111_3 rfl) rfl ?_
      refine RunL.store ti3 rfl rfl rfl (frl (frl (frl rfl))) (by exact Nat.le_of_ble_eq_true rfl) (.inl rfl) ?_
      refine RunL.nil ?_
      refine Run.seq ?_
      refine Run.block ?_
      refine Run.seq ?_
      refine Run.region ?_
      refine RunL.ok (OpOk.move rfl) rfl ?_
      refine RunL.ok (OpOk.eqlPN rfl rfl) rfl ?_
      refine RunL.ok (OpOk.move rfl) rfl ?_
      refine RunL.on rfl rfl ?_
      refine RunL.ok (OpOk.loadS rfl rfl ti111 rfl Blk.pts rfl) rfl ?_
      refine RunL.on rfl rfl ?_
      refine RunL.call cal103 rfl (s103) rfl (fun vx8 Ax8 hx8 => ?_)
      obtain ⟨x9, ⟨rfl, rfl⟩⟩ := hx8
      refine RunL.on rfl rfl ?_
      refine RunL.ok (OpOk.not rfl) rfl ?_
      refine RunL.ok (OpOk.pickF rfl rfl) rfl ?_
      refine RunL.ok (OpOk.assign rfl) rfl ?_
      refine RunL.nil ?_
      refine Run.condNF rfl (by first | omega | with_reducible rfl | assumption) ?_
      refine Run.seq ?_
      refine Run.region ?_
      refine RunL.ok (OpOk.move rfl) rfl ?_
      refine RunL.ok (OpOk.lenR rfl rfl rdb.left.left.left.left.left.left rfl) rfl ?_
      refine RunL.ok (OpOk.asF (OpOk.gtr rfl rfl) (by omega)) rfl ?_
      refine RunL.ok (OpOk.assign rfl) rfl ?_
      refine RunL.nil ?_
      refine Run.condF rfl ?_
      refine Run.seq ?_
      refine Run.region ?_
      refine RunL.ok (OpOk.move rfl) rfl ?_
      refine RunL.ok (OpOk.asF (OpOk.lss rfl rfl) (by omega)) rfl ?_
      refine RunL.ok (OpOk.move rfl) rfl ?_
      refine RunL.off rfl rfl rfl rfl ?_
      refine RunL.off rfl rfl rfl rfl ?_
      refine RunL.off rfl rfl rfl rfl ?_
      refine RunL.off rfl rfl rfl rfl ?_
      refine RunL.ok (OpOk.pickF rfl rfl) rfl ?_
      refine RunL.ok (OpOk.assign rfl) rfl ?_
      refine RunL.nil ?_
      refine Run.condF rfl ?_
      refine Run.seq ?_
      refine Run.region ?_
      refine RunL.ok (OpOk.fieldAddr fld86_2 rfl) rfl ?_
      refine RunL.ok (OpOk.load rfl rfl rfl (Blk.out Blk.pts.left.left.left.left.left _ _ (by first | rfl | assumption))) rfl ?_
      refine RunL.ok (OpOk.asF (OpOk.geq rfl rfl) (by omega)) rfl ?_
      refine RunL.ok (OpOk.assign rfl) rfl ?_
      refine RunL.nil ?_
      refine Run.condF rfl ?_
      refine Run.seq ?_
      refine Run.region ?_
      refine RunL.ok (OpOk.fieldAddr fld111_3 rfl) rfl ?_
      refine RunL.ok (OpOk.load rfl rfl rfl (Blk.out Blk.pts.left _ _ (by first | rfl | assumption))) rfl ?_
      refine RunL.ok (OpOk.asT (OpOk.lss rfl rfl) (by omega)) rfl ?_
      refine RunL.ok (OpOk.assign rfl) rfl ?_
      refine RunL.nil ?_
      refine Run.condT rfl ?_
      refine Run.seq ?_
      refine Run.region ?_
      refine RunL.ok (OpOk.build rfl (fun w => run_build w 86 _ _ (by rfl))) rfl ?_
      refine RunL.storeAll ti86 rfl rfl rfl (ones rfl) (frl (frl (frl (frl rfl)))) rfl ?_
      refine RunL.ok (OpOk.assign rfl) rfl ?_
      refine RunL.nil ?_
      refine Run.retC2 (A' := _) Try.func57 rfl rfl rfl ti86 rfl rfl Blk.pts rfl (Grew.refl _) ?_
      exact ⟨_, rfl, (asg (asg (asg (asg (asg as1)))))⟩
end
end Go.Proofs.Yteopadjihklkmaa
end

section
namespace Go.Proofs.Yteopadjihklkmaa
open Go Go.Proofs
set_option maxRecDepth 100000
set_option maxHeartbeats 4000000
set_option linter.unusedSimpArgs false
set_option linter.unusedVariables false
def full64 (bs : List UInt8) : List UInt8 := bs ++ List.replicate (64 - bs.length) 0
theorem laid_full {bs : List UInt8} (h : bs.length ≤ 64) : laid bs (List.replicate 64 0) = full64 bs := by
  simp only [laid, full64, List.length_replicate]
  rw [show min bs.length 64 = bs.length by omega, List.take_of_length_le (by omega), List.drop_replicate]
theorem full64_len {bs : List UInt8} (h : bs.length ≤ 64) : (full64 bs).length = 64 := by rw [full64, List.length_append, List.length_replicate]; omega
section
variable {w0 : World} {A : Asn} {p : Nat} {a b q c k o i s w w2 : Int} {ad : Option Addr} {m cap n f : Nat} {es : List En} {u : Value} {bs xs ys : List UInt8}
theorem s57f (rd : Rd w0 A (.slice ad m cap) 4 m (Fl encT111 es)) (rdb : Rd w0 A u 1 n (B bs)) (hf : freeE es = (f : Int)) (hf6 : f < 6) (hr : rightP (k, o, i, (f : Int))) (hn : n ≤ 64) (hroom : roomP o i es) (hq : q < 65535) (hx : xs.length = 512) (hw : w ≤ 9223372036854775807) (hW : Wrote xs w (3 + 2 * f) [(full64 bs).take 32, (full64 bs).drop 32] ys w2 30) :
    Spec Try.prog w0 57 [.pointer (some ⟨p, 0, none⟩), .agg #[.int .i64 a, .int .i64 b, .int .i64 q, .int .i64 c, .slice ad m cap], .agg #[.int .i64 k, .int .i64 o, .int .i64 i, .int .i64 s], u] (A * pts p (.cells (B (xs) ++ [Value.int .i64 (w)]).toArray 177 (0, 0))) (fun v' A' => ∃ J, v' = .tuple #[.agg #[.int .i64 0, .int .i64 0, .int .i64 0, .int .i64 0, .slice none 0 0], .int .i64 30] ∧ A' = A * J * pts p (.cells (B (ys) ++ [Value.int .i64 (w2)]).toArray 177 (0, 0))) := by
  have hl0 := rd.lenFl (fun _ => rfl) (by decide)
  subst hl0
  have hl1 := rdb.lenB
  subst hl1
  have rw_f := hf
  have rw_s : 3 + 2 * (f : Int) = ((3 + 2 * f : Nat) : Int) := by omega
  have h32g : ∀ v v2 : Value, ∀ r ∈ [(v, (full64 bs).take 32), (v2, (full64 bs).drop 32)], r.2.length = 32 := fun v v2 r hr => by
    simp only [List.mem_cons, List.not_mem_nil, or_false] at hr
    rcases hr with rfl | rfl
    · show List.length (List.take 32 _) = 32
      rw [List.length_take, full64_len hn]; rfl
    · show List.length (List.drop 32 _) = 32
      rw [List.length_drop, full64_len hn]
  refine Spec.of_run [(0, .pointer (some ⟨p, 0, none⟩)), (1, .agg #[.int .i64 a, .int .i64 b, .int .i64 q, .int .i64 c, .slice ad es.length cap]), (2, .agg #[.int .i64 k, .int .i64 o, .int .i64 i, .int .i64 s]), (3, u)] Try.func57 rfl (Nat.le_of_ble_eq_true rfl) (by repeat (first | exact trivial | refine ⟨rfl, ?_⟩)) ?_
  rcases Int.lt_or_le (atE o i es) 0 with hat | hat
  · have hm5 : es.length < 5 := by
      rcases hroom with h | h
      · omega
      · exact h
    have drawStop : True := trivial
    refine Run.seq ?_
    refine Run.region ?_
    refine RunL.box rfl rfl (fun bx1 => ?_)
    refine RunL.box rfl rfl (fun bx2 => ?_)
    refine RunL.alloc ti86 rfl (fun bx3 => ?_)
    refine RunL.ok (OpOk.assign rfl) rfl ?_
    refine RunL.nil ?_
    refine Run.seq ?_
    refine Run.region ?_
    refine RunL.ok (OpOk.loadS rfl rfl ti86 rfl Blk.pts.left.left rfl) rfl ?_
    refine RunL.ok (OpOk.fieldAddr fld111_1 rfl) rfl ?_
    refine RunL.ok (OpOk.load rfl rfl rfl (Blk.out Blk.pts.left _ _ (by first | rfl | assumption))) rfl ?_
    refine RunL.ok (OpOk.fieldAddr fld111_2 rfl) rfl ?_
    refine RunL.ok (OpOk.load rfl rfl rfl (Blk.out Blk.pts.left _ _ (by first | rfl | assumption))) rfl ?_
    refine RunL.call cal45 rfl (s45 rd.left.left.left.left) rfl (fun vx4 Ax4 hx4 => ?_)
    obtain ⟨x5, ⟨rfl, rfl⟩⟩ := hx4
    refine RunL.ok (OpOk.assign rfl) rfl ?_
    refine RunL.nil ?_
    refine Run.seq ?_
    refine Run.region ?_
    refine RunL.ok (OpOk.loadS rfl rfl ti86 rfl Blk.pts.left.left.left rfl) rfl ?_
    refine RunL.call cal47 rfl (s47 rd.left.left.left.left.left) rfl (fun vx6 Ax6 hx6 => ?_)
    obtain ⟨x7, ⟨rfl, rfl⟩⟩ := hx6
    refine RunL.ok (OpOk.fieldAddr fld111_3 rfl) rfl ?_
    refine RunL.store ti3 rfl rfl rfl (frl (frl (frl rfl))) (by exact Nat.le_of_ble_eq_true rfl) (.inl rfl) ?_
    refine RunL.nil ?_
    refine Run.seq ?_
    refine Run.block ?_
    refine Run.seq ?_
    rw [rw_f]
    refine Run.region ?_
    refine RunL.ok (OpOk.move rfl) rfl ?_
    refine RunL.ok (OpOk.eqlPN rfl rfl) rfl ?_
    refine RunL.ok (OpOk.move rfl) rfl ?_
    refine RunL.on rfl rfl ?_
    refine RunL.ok (OpOk.loadS rfl rfl ti111 rfl Blk.pts rfl) rfl ?_
    refine RunL.on rfl rfl ?_
    refine RunL.call cal103 rfl (s103) rfl (fun vx8 Ax8 hx8 => ?_)
    obtain ⟨x9, ⟨rfl, rfl⟩⟩ := hx8
    refine RunL.on rfl rfl ?_
    refine RunL.ok (OpOk.not rfl) rfl ?_
    refine RunL.ok (OpOk.pickF rfl rfl) rfl ?_
    refine RunL.ok (OpOk.assign rfl) rfl ?_
    refine RunL.nil ?_
    refine Run.condNF rfl (by first | omega | with_reducible rfl | assumption) ?_
    refine Run.seq ?_
    refine Run.region ?_
    refine RunL.ok (OpOk.move rfl) rfl ?_
    refine RunL.ok (OpOk.lenR rfl rfl rdb.left.left.left.left.left.left.left rfl) rfl ?_
    refine RunL.ok (OpOk.asF (OpOk.gtr rfl rfl) (by omega)) rfl ?_
    refine RunL.ok (OpOk.assign rfl) rfl ?_
    refine RunL.nil ?_
    refine Run.condF rfl ?_
    refine Run.seq ?_
    refine Run.region ?_
    refine RunL.ok (OpOk.move rfl) rfl ?_
    refine RunL.ok (OpOk.asT (OpOk.lss rfl rfl) (by omega)) rfl ?_
    refine RunL.ok (OpOk.move rfl) rfl ?_
    refine RunL.on rfl rfl ?_
    refine RunL.ok (OpOk.fieldAddr fld86_4 rfl) rfl ?_
    refine RunL.on rfl rfl ?_
    refine RunL.ok (OpOk.load rfl rfl rfl (Blk.out Blk.pts.left.left.left.left.left _ _ (by first | rfl | assumption))) rfl ?_
    refine RunL.on rfl rfl ?_
    refine RunL.ok (OpOk.lenV rfl rfl rfl) rfl ?_
    refine RunL.on rfl rfl ?_
    refine RunL.ok (OpOk.asF (OpOk.geq rfl rfl) (by omega)) rfl ?_
    refine RunL.ok (OpOk.pickT rfl rfl) rfl ?_
    refine RunL.ok (OpOk.assign rfl) rfl ?_
    refine RunL.nil ?_
    refine Run.condF rfl ?_
    refine Run.seq ?_
    refine Run.region ?_
    refine RunL.ok (OpOk.fieldAddr fld86_2 rfl) rfl ?_
    refine RunL.ok (OpOk.load rfl rfl rfl (Blk.out Blk.pts.left.left.left.left.left _ _ (by first | rfl | assumption))) rfl ?_
    refine RunL.ok (OpOk.asF (OpOk.geq rfl rfl) (by omega)) rfl ?_
    refine RunL.ok (OpOk.assign rfl) rfl ?_
    refine RunL.nil ?_
    refine Run.condF rfl ?_
    refine Run.seq ?_
    refine Run.region ?_
    refine RunL.ok (OpOk.fieldAddr fld111_3 rfl) rfl ?_
    refine RunL.ok (OpOk.load rfl rfl rfl (Blk.out Blk.pts.left _ _ (by first | rfl | assumption))) rfl ?_
    refine RunL.ok (OpOk.asF (OpOk.lss rfl rfl) (by omega)) rfl ?_
    refine RunL.ok (OpOk.assign rfl) rfl ?_
    refine RunL.nil ?_
    refine Run.condF rfl ?_
    refine Run.skip ?_
    refine Run.inBlock ?_
    refine Run.seq ?_
    refine Run.region ?_
    refine RunL.makeB (m := 64) rfl ti5 rfl rfl (by omega) rfl (fun vx10 rdx10 => ?_)
    refine RunL.ok (OpOk.assign rfl) rfl ?_
    refine RunL.nil ?_
    refine Run.seq ?_
    refine Run.region ?_
    refine RunL.ok (OpOk.move rfl) rfl ?_
    refine RunL.ok (OpOk.move rfl) rfl ?_
    refine RunL.copyB rfl ti5 rfl rfl rfl rfl rdb.left.left.left.left.left.left.left.left rfl (fun rdx11 => ?_)
    refine RunL.nil ?_
    refine Run.seq ?_
    refine Run.seq ?_
    clear drawStop
    rw [laid_full hn]
    refine Run.know (fun w s => s.ownRd0) (fun rd3 => ?_)
    have rdc := rd3.cutB0 (j := 32) (by omega)
    have rdd   := rd3.cutB (i := 32) (j := 64) (by omega) (by omega)
    rw [List.take_of_length_le (by rw [List.length_drop, full64_len hn]; decide), show 64 - 32 = 32 from rfl] at rdd
    have h32 : ∀ r ∈ [(cutV vx10 0 32 1, (full64 bs).take 32), (cutV vx10 32 64 1, (full64 bs).drop 32)], r.2.length = 32 := h32g _ _
    (apply Run.drawD [] (by rfl) (Eq.trans (frc (frl (frl (frl (frl (frl (frl (frl rfl))))))) rfl) rfl); case hchk => kernel_rfl)
    refine Sd.quiet 0 _ _ rfl rfl rfl rfl rfl (QOp.ok (fun X => OpOk.move rfl)) ?_
    refine Sd.quiet 1 _ _ rfl rfl rfl rfl rfl (QOp.ok (fun X => OpOk.fieldAddr fld111_3 rfl)) ?_
    refine Sd.quiet 2 _ _ rfl rfl rfl rfl rfl (QOp.ok (fun X => OpOk.load rfl rfl rfl (Blk.out Blk.pts.left.left.left.left _ _ (by first | rfl | assumption)))) ?_
    refine Sd.quiet 3 _ _ rfl rfl rfl rfl rfl (QOp.ok (fun X => OpOk.mulN 2 _ rfl rfl rfl rfl (by omega))) ?_
    refine Sd.quiet 4 _ _ rfl rfl rfl rfl rfl (QOp.ok (fun X => OpOk.addN 3 _ rfl rfl rfl rfl (by omega))) ?_
    refine Sd.quiet 5 _ _ rfl rfl rfl rfl rfl (QOp.ok (fun X => OpOk.move rfl)) ?_
    refine Sd.quiet 6 _ _ rfl rfl rfl rfl rfl (QOp.ok (fun X => OpOk.cut (j := 32) rfl ti5 rfl (Rd.right rd3).left.left rfl ⟨_, rfl⟩ (by omega) (by omega))) ?_
    refine Sd.quiet 7 _ _ rfl rfl rfl rfl rfl (QOp.ok (fun X => OpOk.move rfl)) ?_
    refine Sd.quiet 8 _ _ rfl rfl rfl rfl rfl (QOp.ok (fun X => OpOk.cut (i := 32) rfl ti5 rfl (Rd.right rd3).left.left ⟨_, rfl⟩ rfl (by omega) (by omega))) ?_
    (refine Sd.exec 9 rfl rfl rfl rfl rfl ?hrest (by rfl) (fun Xy1 Ky1 hKy1 => ?_); case hrest => kernel_rfl)
    refine RunL.mem (fl2 (sep_emp _) rfl) ?_
    have aly2 : Alls (GB w0) _ [(cutV vx10 0 32 1, List.take 32 (full64 bs)), (cutV vx10 32 64 1, List.drop 32 (full64 bs))] := (Alls.cons (GB.of rdc) (Alls.cons (GB.of rdd) Alls.nil))
    refine RunL.litV (ls := [(cutV vx10 0 32 1, List.take 32 (full64 bs)), (cutV vx10 32 64 1, List.drop 32 (full64 bs))]) (Alls.right aly2).left.left rfl ti63 rfl rfl rfl (by decide) rfl (fun vy2 rdy2 => ?_)
    refine RunL.know (fun w s => (s.conv rfl).ownRd0) (fun rdy3 => ?_)
    refine Sd.ret hKy1 (Eq.trans (frc (frl rfl) rfl) (gp2 rfl rfl)) ⟨_, (emp_sep _).symm⟩ ?_
    (refine Sd.exec 10 rfl rfl rfl rfl rfl ?hrest (by rfl) (fun Xy4 Ky4 hKy4 => ?_); case hrest => kernel_rfl)
    refine RunL.mem (fl2 rfl rfl) ?_
    refine RunL.call cal98 rfl (s98 (Rd.right rdy3) (Alls.right aly2).left.left (by assumption) (by assumption) (by assumption) (by omega) (by assumption)) rfl (fun vy5 Ay5 hy5 => ?_)
    obtain ⟨rfl, rfl⟩ := hy5
    refine Sd.ret hKy4 (Eq.trans rfl (gp2 (sep_emp _).symm (asg rfl))) ⟨_, rfl⟩ ?_
    refine Sd.quiet 11 _ _ rfl rfl rfl rfl rfl (QOp.ok (fun X => OpOk.assign rfl)) ?_
    (apply Sd.tail; case hall => kernel_rfl)
    refine RunL.mem (fl2 (flS rfl) (sep_emp _)) ?_
    refine RunL.nil ?_
    refine Run.seq ?_
    refine Run.region ?_
    refine RunL.ok (OpOk.move rfl) rfl ?_
    refine RunL.ok (OpOk.as (c := true) (OpOk.neq rfl rfl) (by rw [decide_eq_false (by omega)]; rfl)) rfl ?_
    refine RunL.nil ?_
    refine Run.condT rfl ?_
    refine Run.seq ?_
    refine Run.region ?_
    refine RunL.ok (OpOk.build rfl (fun w => run_build w 86 _ _ (by rfl))) rfl ?_
    refine RunL.ok (OpOk.move rfl) rfl ?_
    refine RunL.storeAll ti86 rfl rfl rfl (ones rfl) (frl (frl (frl (frl (frl (frl (frl rfl))))))) rfl ?_
    refine RunL.ok (OpOk.assign rfl) rfl ?_
    refine RunL.nil ?_
    refine Run.retC2 (A' := _) Try.func57 rfl rfl rfl ti86 rfl rfl Blk.pts rfl (Grew.refl _) ?_
    exact ⟨_, rfl, (Eq.trans (frc (frl rfl) rfl) (congrArg (· * _) (asg (asg (asg (asg (asg (asg (asg as1)))))))))⟩
  · have drawStop : True := trivial
    refine Run.seq ?_
    refine Run.region ?_
    refine RunL.box rfl rfl (fun bx1 => ?_)
    refine RunL.box rfl rfl (fun bx2 => ?_)
    refine RunL.alloc ti86 rfl (fun bx3 => ?_)
    refine RunL.ok (OpOk.assign rfl) rfl ?_
    refine RunL.nil ?_
    refine Run.seq ?_
    refine Run.region ?_
    refine RunL.ok (OpOk.loadS rfl rfl ti86 rfl Blk.pts.left.left rfl) rfl ?_
    refine RunL.ok (OpOk.fieldAddr fld111_1 rfl) rfl ?_
    refine RunL.ok (OpOk.load rfl rfl rfl (Blk.out Blk.pts.left _ _ (by first | rfl | assumption))) rfl ?_
    refine RunL.ok (OpOk.fieldAddr fld111_2 rfl) rfl ?_
    refine RunL.ok (OpOk.load rfl rfl rfl (Blk.out Blk.pts.left _ _ (by first | rfl | assumption))) rfl ?_
    refine RunL.call cal45 rfl (s45 rd.left.left.left.left) rfl (fun vx4 Ax4 hx4 => ?_)
    obtain ⟨x5, ⟨rfl, rfl⟩⟩ := hx4
    refine RunL.ok (OpOk.assign rfl) rfl ?_
    refine RunL.nil ?_
    refine Run.seq ?_
    refine Run.region ?_
    refine RunL.ok (OpOk.loadS rfl rfl ti86 rfl Blk.pts.left.left.left rfl) rfl ?_
    refine RunL.call cal47 rfl (s47 rd.left.left.left.left.left) rfl (fun vx6 Ax6 hx6 => ?_)
    obtain ⟨x7, ⟨rfl, rfl⟩⟩ := hx6
    refine RunL.ok (OpOk.fieldAddr fld111_3 rfl) rfl ?_
    refine RunL.store ti3 rfl rfl rfl (frl (frl (frl rfl))) (by exact Nat.le_of_ble_eq_true rfl) (.inl rfl) ?_
    refine RunL.nil ?_
    refine Run.seq ?_
    refine Run.block ?_
    refine Run.seq ?_
    rw [rw_f]
    refine Run.region ?_
    refine RunL.ok (OpOk.move rfl) rfl ?_
    refine RunL.ok (OpOk.eqlPN rfl rfl) rfl ?_
    refine RunL.ok (OpOk.move rfl) rfl ?_
    refine RunL.on rfl rfl ?_
    refine RunL.ok (OpOk.loadS rfl rfl ti111 rfl Blk.pts rfl) rfl ?_
    refine RunL.on rfl rfl ?_
    refine RunL.call cal103 rfl (s103) rfl (fun vx8 Ax8 hx8 => ?_)
    obtain ⟨x9, ⟨rfl, rfl⟩⟩ := hx8
    refine RunL.on rfl rfl ?_
    refine RunL.ok (OpOk.not rfl) rfl ?_
    refine RunL.ok (OpOk.pickF rfl rfl) rfl ?_
    refine RunL.ok (OpOk.assign rfl) rfl ?_
    refine RunL.nil ?_
    refine Run.condNF rfl (by first | omega | with_reducible rfl | assumption) ?_
    refine Run.seq ?_
    refine Run.region ?_
    refine RunL.ok (OpOk.move rfl) rfl ?_
    refine RunL.ok (OpOk.lenR rfl rfl rdb.left.left.left.left.left.left.left rfl) rfl ?_
    refine RunL.ok (OpOk.asF (OpOk.gtr rfl rfl) (by omega)) rfl ?_
    refine RunL.ok (OpOk.assign rfl) rfl ?_
    refine RunL.nil ?_
    refine Run.condF rfl ?_
    refine Run.seq ?_
    refine Run.region ?_
    refine RunL.ok (OpOk.move rfl) rfl ?_
    refine RunL.ok (OpOk.asF (OpOk.lss rfl rfl) (by omega)) rfl ?_
    refine RunL.ok (OpOk.move rfl) rfl ?_
    refine RunL.off rfl rfl rfl rfl ?_
    refine RunL.off rfl rfl rfl rfl ?_
    refine RunL.off rfl rfl rfl rfl ?_
    refine RunL.off rfl rfl rfl rfl ?_
    refine RunL.ok (OpOk.pickF rfl rfl) rfl ?_
    refine RunL.ok (OpOk.assign rfl) rfl ?_
    refine RunL.nil ?_
    refine Run.condF rfl ?_
    refine Run.seq ?_
    refine Run.region ?_
    refine RunL.ok (OpOk.fieldAddr fld86_2 rfl) rfl ?_
    refine RunL.ok (OpOk.load rfl rfl rfl (Blk.out Blk.pts.left.left.left.left.left _ _ (by first | rfl | assumption))) rfl ?_
    refine RunL.ok (OpOk.asF (OpOk.geq rfl rfl) (by omega)) rfl ?_
    refine RunL.ok (OpOk.assign rfl) rfl ?_
    refine RunL.nil ?_
    refine Run.condF rfl ?_
    refine Run.seq ?_
    refine Run.region ?_
    refine RunL.ok (OpOk.fieldAddr fld111_3 rfl) rfl ?_
    refine RunL.ok (OpOk.load rfl rfl rfl (Blk.out Blk.pts.left _ _ (by first | rfl | assumption))) rfl ?_
    refine RunL.ok (OpOk.asF (OpOk.lss rfl rfl) (by omega)) rfl ?_
    refine RunL.ok (OpOk.assign rfl) rfl ?_
    refine RunL.nil ?_
    refine Run.condF rfl ?_
    refine Run.skip ?_
    refine Run.inBlock ?_
    refine Run.seq ?_
    refine Run.region ?_
    refine RunL.makeB (m := 64) rfl ti5 rfl rfl (by omega) rfl (fun vx10 rdx10 => ?_)
    refine RunL.ok (OpOk.assign rfl) rfl ?_
    refine RunL.nil ?_
    refine Run.seq ?_
    refine Run.region ?_
    refine RunL.ok (OpOk.move rfl) rfl ?_
    refine RunL.ok (OpOk.move rfl) rfl ?_
    refine RunL.copyB rfl ti5 rfl rfl rfl rfl rdb.left.left.left.left.left.left.left.left rfl (fun rdx11 => ?_)
    refine RunL.nil ?_
    refine Run.seq ?_
    refine Run.seq ?_
    clear drawStop
    rw [laid_full hn]
    refine Run.know (fun w s => s.ownRd0) (fun rd3 => ?_)
    have rdc := rd3.cutB0 (j := 32) (by omega)
    have rdd   := rd3.cutB (i := 32) (j := 64) (by omega) (by omega)
    rw [List.take_of_length_le (by rw [List.length_drop, full64_len hn]; decide), show 64 - 32 = 32 from rfl] at rdd
    have h32 : ∀ r ∈ [(cutV vx10 0 32 1, (full64 bs).take 32), (cutV vx10 32 64 1, (full64 bs).drop 32)], r.2.length = 32 := h32g _ _
    (apply Run.drawD [] (by rfl) (Eq.trans (frc (frl (frl (frl (frl (frl (frl (frl rfl))))))) rfl) rfl); case hchk => kernel_rfl)
    refine Sd.quiet 0 _ _ rfl rfl rfl rfl rfl (QOp.ok (fun X => OpOk.move rfl)) ?_
    refine Sd.quiet 1 _ _ rfl rfl rfl rfl rfl (QOp.ok (fun X => OpOk.fieldAddr fld111_3 rfl)) ?_
    refine Sd.quiet 2 _ _ rfl rfl rfl rfl rfl (QOp.ok (fun X => OpOk.load rfl rfl rfl (Blk.out Blk.pts.left.left.left.left _ _ (by first | rfl | assumption)))) ?_
    refine Sd.quiet 3 _ _ rfl rfl rfl rfl rfl (QOp.ok (fun X => OpOk.mulN 2 _ rfl rfl rfl rfl (by omega))) ?_
    refine Sd.quiet 4 _ _ rfl rfl rfl rfl rfl (QOp.ok (fun X => OpOk.addN 3 _ rfl rfl rfl rfl (by omega))) ?_
    refine Sd.quiet 5 _ _ rfl rfl rfl rfl rfl (QOp.ok (fun X => OpOk.move rfl)) ?_
    refine Sd.quiet 6 _ _ rfl rfl rfl rfl rfl (QOp.ok (fun X => OpOk.cut (j := 32) rfl ti5 rfl (Rd.right rd3).left.left rfl ⟨_, rfl⟩ (by omega) (by omega))) ?_
    refine Sd.quiet 7 _ _ rfl rfl rfl rfl rfl (QOp.ok (fun X => OpOk.move rfl)) ?_
    refine Sd.quiet 8 _ _ rfl rfl rfl rfl rfl (QOp.ok (fun X => OpOk.cut (i := 32) rfl ti5 rfl (Rd.right rd3).left.left ⟨_, rfl⟩ rfl (by omega) (by omega))) ?_
    (refine Sd.exec 9 rfl rfl rfl rfl rfl ?hrest (by rfl) (fun Xy1 Ky1 hKy1 => ?_); case hrest => kernel_rfl)
    refine RunL.mem (fl2 (sep_emp _) rfl) ?_
    have aly2 : Alls (GB w0) _ [(cutV vx10 0 32 1, List.take 32 (full64 bs)), (cutV vx10 32 64 1, List.drop 32 (full64 bs))] := (Alls.cons (GB.of rdc) (Alls.cons (GB.of rdd) Alls.nil))
    refine RunL.litV (ls := [(cutV vx10 0 32 1, List.take 32 (full64 bs)), (cutV vx10 32 64 1, List.drop 32 (full64 bs))]) (Alls.right aly2).left.left rfl ti63 rfl rfl rfl (by decide) rfl (fun vy2 rdy2 => ?_)
    refine RunL.know (fun w s => (s.conv rfl).ownRd0) (fun rdy3 => ?_)
    refine Sd.ret hKy1 (Eq.trans (frc (frl rfl) rfl) (gp2 rfl rfl)) ⟨_, (emp_sep _).symm⟩ ?_
    (refine Sd.exec 10 rfl rfl rfl rfl rfl ?hrest (by rfl) (fun Xy4 Ky4 hKy4 => ?_); case hrest => kernel_rfl)
    refine RunL.mem (fl2 rfl rfl) ?_
    refine RunL.call cal98 rfl (s98 (Rd.right rdy3) (Alls.right aly2).left.left (by assumption) (by assumption) (by assumption) (by omega) (by assumption)) rfl (fun vy5 Ay5 hy5 => ?_)
    obtain ⟨rfl, rfl⟩ := hy5
    refine Sd.ret hKy4 (Eq.trans rfl (gp2 (sep_emp _).symm (asg rfl))) ⟨_, rfl⟩ ?_
    refine Sd.quiet 11 _ _ rfl rfl rfl rfl rfl (QOp.ok (fun X => OpOk.assign rfl)) ?_
    (apply Sd.tail; case hall => kernel_rfl)
    refine RunL.mem (fl2 (flS rfl) (sep_emp _)) ?_
    refine RunL.nil ?_
    refine Run.seq ?_
    refine Run.region ?_
    refine RunL.ok (OpOk.move rfl) rfl ?_
    refine RunL.ok (OpOk.as (c := true) (OpOk.neq rfl rfl) (by rw [decide_eq_false (by omega)]; rfl)) rfl ?_
    refine RunL.nil ?_
    refine Run.condT rfl ?_
    refine Run.seq ?_
    refine Run.region ?_
    refine RunL.ok (OpOk.build rfl (fun w => run_build w 86 _ _ (by rfl))) rfl ?_
    refine RunL.ok (OpOk.move rfl) rfl ?_
    refine RunL.storeAll ti86 rfl rfl rfl (ones rfl) (frl (frl (frl (frl (frl (frl (frl rfl))))))) rfl ?_
    refine RunL.ok (OpOk.assign rfl) rfl ?_
    refine RunL.nil ?_
    refine Run.retC2 (A' := _) Try.func57 rfl rfl rfl ti86 rfl rfl Blk.pts rfl (Grew.refl _) ?_
    exact ⟨_, rfl, (Eq.trans (frc (frl rfl) rfl) (congrArg (· * _) (asg (asg (asg (asg (asg (asg (asg as1)))))))))⟩
end
end Go.Proofs.Yteopadjihklkmaa
end

section
namespace Go.Proofs.Yteopadjihklkmaa
open Go Go.Proofs
set_option maxRecDepth 100000
set_option maxHeartbeats 4000000
set_option linter.unusedSimpArgs false
set_option linter.unusedVariables false
theorem okE_of {k o i : Int} {f : Nat} (hr : rightP (k, o, i, (f : Int))) (hf : f < 6) : okE (k, o, i, (f : Int)) := by
  obtain ⟨h1, h2, h3, h4, h5, h6⟩ := hr
  dsimp only at h1 h2 h3 h4 h5 h6
  exact ⟨by dsimp only; omega, by dsimp only; omega, by dsimp only; omega, by dsimp only; omega, by dsimp only; omega, by dsimp only; omega, by dsimp only; omega, by dsimp only; omega⟩
theorem okE_snoc {k o i : Int} {f : Nat} {es : List En} (hes : ∀ e ∈ es, okE e) (hr : rightP (k, o, i, (f : Int))) (hf : f < 6) : ∀ e ∈ es ++ [(k, o, i, (f : Int))], okE e := fun e he => by
  rcases List.mem_append.1 he with h | h
  · exact hes e h
  · rw [List.mem_singleton.1 h]
    exact okE_of hr hf
theorem okE_set {k o i : Int} {f j : Nat} {es : List En} (hes : ∀ e ∈ es, okE e) (hr : rightP (k, o, i, (f : Int))) (hf : f < 6) : ∀ e ∈ es.set j (k, o, i, (f : Int)), okE e := fun e he => by
  rcases List.mem_or_eq_of_mem_set he with h | h
  · exact hes e h
  · rw [h]
    exact okE_of hr hf
section
variable {w0 : World} {A : Asn} {p : Nat} {a b q c k o i s w w2 : Int} {ad : Option Addr} {m cap n f : Nat} {es : List En} {u : Value} {bs xs ys : List UInt8}
theorem s57g {zs : List UInt8} {w3 : Int} {t j : Nat} (hat : atE o i es < 0) (hm : m < 5) (rd : Rd w0 A (.slice ad m cap) 4 m (Fl encT111 es)) (rdb : Rd w0 A u 1 n (B bs)) (hf : freeE es = (f : Int)) (hf6 : f < 6) (hr : rightP (k, o, i, (f : Int))) (hn : n ≤ 64) (hes : ∀ e ∈ es, okE e) (hq0 : 0 ≤ q) (hq : q < 65535) (hx : xs.length = 512) (hy : ys.length = 512) (hw : w ≤ 9223372036854775807) (hw2 : w2 ≤ 9223372036854775807) (hc : 3 - c = (t : Int)) (ht : t ≤ 2) (hW : Wrote xs w (3 + 2 * f) [(full64 bs).take 32, (full64 bs).drop 32] ys w2 0) (hW2 : Wrote ys w2 t [sectB (listB (q + 1) (es ++ [(k, o, i, (f : Int))]))] zs w3 30) :
    Spec Try.prog w0 57 [.pointer (some ⟨p, 0, none⟩), .agg #[.int .i64 a, .int .i64 b, .int .i64 q, .int .i64 c, .slice ad m cap], .agg #[.int .i64 k, .int .i64 o, .int .i64 i, .int .i64 s], u] (A * pts p (.cells (B (xs) ++ [Value.int .i64 (w)]).toArray 177 (0, 0))) (fun v' A' => ∃ J, v' = .tuple #[.agg #[.int .i64 0, .int .i64 0, .int .i64 0, .int .i64 0, .slice none 0 0], .int .i64 30] ∧ A' = A * J * pts p (.cells (B (zs) ++ [Value.int .i64 (w3)]).toArray 177 (0, 0))) := by
  have hl0 := rd.lenFl (fun _ => rfl) (by decide)
  subst hl0
  have hl1 := rdb.lenB
  subst hl1
  have rw_f := hf
  have rw_s : 3 + 2 * (f : Int) = ((3 + 2 * f : Nat) : Int) := by omega
  have hes2 : ∀ e ∈ es ++ [(k, o, i, (f : Int))], okE e := okE_snoc hes hr hf6
  have hm5 : es.length + 1 ≤ 5 := hm
  have h32g : ∀ v v2 : Value, ∀ r ∈ [(v, (full64 bs).take 32), (v2, (full64 bs).drop 32)], r.2.length = 32 := fun v v2 r hr => by
    simp only [List.mem_cons, List.not_mem_nil, or_false] at hr
    rcases hr with rfl | rfl
    · show List.length (List.take 32 _) = 32
      rw [List.length_take, full64_len hn]; rfl
    · show List.length (List.drop 32 _) = 32
      rw [List.length_drop, full64_len hn]
  refine Spec.of_run [(0, .pointer (some ⟨p, 0, none⟩)), (1, .agg #[.int .i64 a, .int .i64 b, .int .i64 q, .int .i64 c, .slice ad es.length cap]), (2, .agg #[.int .i64 k, .int .i64 o, .int .i64 i, .int .i64 s]), (3, u)] Try.func57 rfl (Nat.le_of_ble_eq_true rfl) (by repeat (first | exact trivial | refine ⟨rfl, ?_⟩)) ?_
  have drawStop : True := trivial
  refine Run.seq ?_
  refine Run.region ?_
  refine RunL.box rfl rfl (fun bx1 => ?_)
  refine RunL.box rfl rfl (fun bx2 => ?_)
  refine RunL.alloc ti86 rfl (fun bx3 => ?_)
  refine RunL.ok (OpOk.assign rfl) rfl ?_
  refine RunL.nil ?_
  refine Run.seq ?_
  refine Run.region ?_
  refine RunL.ok (OpOk.loadS rfl rfl ti86 rfl Blk.pts.left.left rfl) rfl ?_
  refine RunL.ok (OpOk.fieldAddr fld111_1 rfl) rfl ?_
  refine RunL.ok (OpOk.load rfl rfl rfl (Blk.out Blk.pts.left _ _ (by first | rfl | assumption))) rfl ?_
  refine RunL.ok (OpOk.fieldAddr fld111_2 rfl) rfl ?_
  refine RunL.ok (OpOk.load rfl rfl rfl (Blk.out Blk.pts.left _ _ (by first | rfl | assumption))) rfl ?_
  refine RunL.call cal45 rfl (s45 rd.left.left.left.left) rfl (fun vx4 Ax4 hx4 => ?_)
  obtain ⟨x5, ⟨rfl, rfl⟩⟩ := hx4
  refine RunL.ok (OpOk.assign rfl) rfl ?_
  refine RunL.nil ?_
  refine Run.seq ?_
  refine Run.region ?_
  refine RunL.ok (OpOk.loadS rfl rfl ti86 rfl Blk.pts.left.left.left rfl) rfl ?_
  refine RunL.call cal47 rfl (s47 rd.left.left.left.left.left) rfl (fun vx6 Ax6 hx6 => ?_)
  obtain ⟨x7, ⟨rfl, rfl⟩⟩ := hx6
  refine RunL.ok (OpOk.fieldAddr fld111_3 rfl) rfl ?_
  refine RunL.store ti3 rfl rfl rfl (frl (frl (frl rfl))) (by exact Nat.le_of_ble_eq_true rfl) (.inl rfl) ?_
  refine RunL.nil ?_
  refine Run.seq ?_
  refine Run.block ?_
  refine Run.seq ?_
  rw [rw_f]
  refine Run.region ?_
  refine RunL.ok (OpOk.move rfl) rfl ?_
  refine RunL.ok (OpOk.eqlPN rfl rfl) rfl ?_
  refine RunL.ok (OpOk.move rfl) rfl ?_
  refine RunL.on rfl rfl ?_
  refine RunL.ok (OpOk.loadS rfl rfl ti111 rfl Blk.pts rfl) rfl ?_
  refine RunL.on rfl rfl ?_
  refine RunL.call cal103 rfl (s103) rfl (fun vx8 Ax8 hx8 => ?_)
  obtain ⟨x9, ⟨rfl, rfl⟩⟩ := hx8
  refine RunL.on rfl rfl ?_
  refine RunL.ok (OpOk.not rfl) rfl ?_
  refine RunL.ok (OpOk.pickF rfl rfl) rfl ?_
  refine RunL.ok (OpOk.assign rfl) rfl ?_
  refine RunL.nil ?_
  refine Run.condNF rfl (by first | omega | with_reducible rfl | assumption) ?_
  refine Run.seq ?_
  refine Run.region ?_
  refine RunL.ok (OpOk.move rfl) rfl ?_
  refine RunL.ok (OpOk.lenR rfl rfl rdb.left.left.left.left.left.left.left rfl) rfl ?_
  refine RunL.ok (OpOk.asF (OpOk.gtr rfl rfl) (by omega)) rfl ?_
  refine RunL.ok (OpOk.assign rfl) rfl ?_
  refine RunL.nil ?_
  refine Run.condF rfl ?_
  refine Run.seq ?_
  refine Run.region ?_
  refine RunL.ok (OpOk.move rfl) rfl ?_
  refine RunL.ok (OpOk.asT (OpOk.lss rfl rfl) (by omega)) rfl ?_
  refine RunL.ok (OpOk.move rfl) rfl ?_
  refine RunL.on rfl rfl ?_
  refine RunL.ok (OpOk.fieldAddr fld86_4 rfl) rfl ?_
  refine RunL.on rfl rfl ?_
  refine RunL.ok (OpOk.load rfl rfl rfl (Blk.out Blk.pts.left.left.left.left.left _ _ (by first | rfl | assumption))) rfl ?_
  refine RunL.on rfl rfl ?_
  refine RunL.ok (OpOk.lenV rfl rfl rfl) rfl ?_
  refine RunL.on rfl rfl ?_
  refine RunL.ok (OpOk.asF (OpOk.geq rfl rfl) (by omega)) rfl ?_
  refine RunL.ok (OpOk.pickT rfl rfl) rfl ?_
  refine RunL.ok (OpOk.assign rfl) rfl ?_
  refine RunL.nil ?_
  refine Run.condF rfl ?_
  refine Run.seq ?_
  refine Run.region ?_
  refine RunL.ok (OpOk.fieldAddr fld86_2 rfl) rfl ?_
  refine RunL.ok (OpOk.load rfl rfl rfl (Blk.out Blk.pts.left.left.left.left.left _ _ (by first | rfl | assumption))) rfl ?_
  refine RunL.ok (OpOk.asF (OpOk.geq rfl rfl) (by omega)) rfl ?_
  refine RunL.ok (OpOk.assign rfl) rfl ?_
  refine RunL.nil ?_
  refine Run.condF rfl ?_
  refine Run.seq ?_
  refine Run.region ?_
  refine RunL.ok (OpOk.fieldAddr fld111_3 rfl) rfl ?_
  refine RunL.ok (OpOk.load rfl rfl rfl (Blk.out Blk.pts.left _ _ (by first | rfl | assumption))) rfl ?_
  refine RunL.ok (OpOk.asF (OpOk.lss rfl rfl) (by omega)) rfl ?_
  refine RunL.ok (OpOk.assign rfl) rfl ?_
  refine RunL.nil ?_
  refine Run.condF rfl ?_
  refine Run.skip ?_
  refine Run.inBlock ?_
  refine Run.seq ?_
  refine Run.region ?_
  refine RunL.makeB (m := 64) rfl ti5 rfl rfl (by omega) rfl (fun vx10 rdx10 => ?_)
  refine RunL.ok (OpOk.assign rfl) rfl ?_
  refine RunL.nil ?_
  refine Run.seq ?_
  refine Run.region ?_
  refine RunL.ok (OpOk.move rfl) rfl ?_
  refine RunL.ok (OpOk.move rfl) rfl ?_
  refine RunL.copyB rfl ti5 rfl rfl rfl rfl rdb.left.left.left.left.left.left.left.left rfl (fun rdx11 => ?_)
  refine RunL.nil ?_
  refine Run.seq ?_
  refine Run.seq ?_
  clear drawStop
  rw [laid_full hn]
  refine Run.know (fun w s => s.ownRd0) (fun rd3 => ?_)
  have rdc := rd3.cutB0 (j := 32) (by omega)
  have rdd := rd3.cutB (i := 32) (j := 64) (by omega) (by omega)
  rw [List.take_of_length_le (by rw [List.length_drop, full64_len hn]; decide), show 64 - 32 = 32 from rfl] at rdd
  have h32 : ∀ r ∈ [(cutV vx10 0 32 1, (full64 bs).take 32), (cutV vx10 32 64 1, (full64 bs).drop 32)], r.2.length = 32 := h32g _ _
  (apply Run.drawD [] (by rfl) (Eq.trans (frc (frl (frl (frl (frl (frl (frl (frl rfl))))))) rfl) rfl); case hchk => kernel_rfl)
  refine Sd.quiet 0 _ _ rfl rfl rfl rfl rfl (QOp.ok (fun X => OpOk.move rfl)) ?_
  refine Sd.quiet 1 _ _ rfl rfl rfl rfl rfl (QOp.ok (fun X => OpOk.fieldAddr fld111_3 rfl)) ?_
  refine Sd.quiet 2 _ _ rfl rfl rfl rfl rfl (QOp.ok (fun X => OpOk.load rfl rfl rfl (Blk.out Blk.pts.left.left.left.left _ _ (by first | rfl | assumption)))) ?_
  refine Sd.quiet 3 _ _ rfl rfl rfl rfl rfl (QOp.ok (fun X => OpOk.mulN 2 _ rfl rfl rfl rfl (by omega))) ?_
  refine Sd.quiet 4 _ _ rfl rfl rfl rfl rfl (QOp.ok (fun X => OpOk.addN 3 _ rfl rfl rfl rfl (by omega))) ?_
  refine Sd.quiet 5 _ _ rfl rfl rfl rfl rfl (QOp.ok (fun X => OpOk.move rfl)) ?_
  refine Sd.quiet 6 _ _ rfl rfl rfl rfl rfl (QOp.ok (fun X => OpOk.cut (j := 32) rfl ti5 rfl (Rd.right rd3).left.left rfl ⟨_, rfl⟩ (by omega) (by omega))) ?_
  refine Sd.quiet 7 _ _ rfl rfl rfl rfl rfl (QOp.ok (fun X => OpOk.move rfl)) ?_
  refine Sd.quiet 8 _ _ rfl rfl rfl rfl rfl (QOp.ok (fun X => OpOk.cut (i := 32) rfl ti5 rfl (Rd.right rd3).left.left ⟨_, rfl⟩ rfl (by omega) (by omega))) ?_
  (refine Sd.exec 9 rfl rfl rfl rfl rfl ?hrest (by rfl) (fun Xy1 Ky1 hKy1 => ?_); case hrest => kernel_rfl)
  refine RunL.mem (fl2 (sep_emp _) rfl) ?_
  have aly2 : Alls (GB w0) _ [(cutV vx10 0 32 1, List.take 32 (full64 bs)), (cutV vx10 32 64 1, List.drop 32 (full64 bs))] := (Alls.cons (GB.of rdc) (Alls.cons (GB.of rdd) Alls.nil))
  refine RunL.litV (ls := [(cutV vx10 0 32 1, List.take 32 (full64 bs)), (cutV vx10 32 64 1, List.drop 32 (full64 bs))]) (Alls.right aly2).left.left rfl ti63 rfl rfl rfl (by decide) rfl (fun vy2 rdy2 => ?_)
  refine RunL.know (fun w s => (s.conv rfl).ownRd0) (fun rdy3 => ?_)
  refine Sd.ret hKy1 (Eq.trans (frc (frl rfl) rfl) (gp2 rfl rfl)) ⟨_, (emp_sep _).symm⟩ ?_
  (refine Sd.exec 10 rfl rfl rfl rfl rfl ?hrest (by rfl) (fun Xy4 Ky4 hKy4 => ?_); case hrest => kernel_rfl)
  refine RunL.mem (fl2 rfl rfl) ?_
  refine RunL.call cal98 rfl (s98 (Rd.right rdy3) (Alls.right aly2).left.left (by assumption) (by assumption) (by assumption) (by omega) (by assumption)) rfl (fun vy5 Ay5 hy5 => ?_)
  obtain ⟨rfl, rfl⟩ := hy5
  refine Sd.ret hKy4 (Eq.trans rfl (gp2 (sep_emp _).symm (asg rfl))) ⟨_, rfl⟩ ?_
  refine Sd.quiet 11 _ _ rfl rfl rfl rfl rfl (QOp.ok (fun X => OpOk.assign rfl)) ?_
  (apply Sd.tail; case hall => kernel_rfl)
  refine RunL.mem (fl2 (flS rfl) (sep_emp _)) ?_
  refine RunL.nil ?_
  refine Run.seq ?_
  refine Run.region ?_
  refine RunL.ok (OpOk.move rfl) rfl ?_
  refine RunL.ok (OpOk.as (c := false) (OpOk.neq rfl rfl) (by rw [decide_eq_true (by omega)]; rfl)) rfl ?_
  refine RunL.nil ?_
  refine Run.condF rfl ?_
  refine Run.skip ?_
  refine Run.seq ?_
  refine Run.region ?_
  refine RunL.ok (OpOk.fieldAddr fld86_4 rfl) rfl ?_
  refine RunL.ok (OpOk.load rfl rfl rfl (Blk.out Blk.pts.left.left.left.left.left.left.left.left _ _ (by first | rfl | assumption))) rfl ?_
  refine RunL.call cal102 rfl (s102 rd.left.left.left.left.left.left.left.left.left (by omega)) rfl (fun vy6 Ay6 hy6 => ?_)
  obtain rfl := hy6
  refine RunL.ok (OpOk.assign rfl) rfl ?_
  refine RunL.nil ?_
  refine Run.seq ?_
  refine Run.seq ?_
  refine Run.region ?_
  refine RunL.ok (OpOk.move rfl) rfl ?_
  refine RunL.ok (OpOk.asT (OpOk.lss rfl rfl) (by omega)) rfl ?_
  refine RunL.nil ?_
  refine Run.condT rfl ?_
  refine Run.region ?_
  refine RunL.ok (OpOk.move rfl) rfl ?_
  refine RunL.ok (OpOk.loadS rfl rfl ti111 rfl Blk.pts.left.left.left.left.left rfl) rfl ?_
  refine RunL.litFl (enc := encT111) [(k, (o, (i, ↑f)))] rfl ti111 rfl (fun _ => rfl) rfl rfl (by decide) (by decide) rfl (fun vy7 rdy7 => ?_)
  refine RunL.know (fun w s => (s.conv rfl).ownRd0) (fun rdy9 => ?_)
  refine RunL.appendF rfl ti111 rfl rfl rfl (frl rfl) (Rd.right rdy9) rfl (by decide) (by omega) (by simp only [maxLen]; omega) rfl (fun vy8 rdy8 => ?_)
  refine RunL.ok (OpOk.assign rfl) rfl ?_
  refine RunL.nil ?_
  refine Run.seq ?_
  refine Run.region ?_
  refine RunL.ok (OpOk.loadS rfl rfl ti86 rfl Blk.pts.left.left.left.left.left.left.left.left.left.left rfl) rfl ?_
  refine RunL.ok (OpOk.move rfl) rfl ?_
  refine RunL.ok (OpOk.move rfl) rfl ?_
  refine RunL.know (fun w s => (s.conv rfl).ownRd0) (fun rdy10 => ?_)
  refine RunL.mem (frc (frl (frl rfl)) rfl) ?_
  obtain ⟨ad3, cap3, rfl, hcap3, had3⟩ := rdy10.form
  refine RunL.call cal100 rfl (s100b (Rd.right rdy10) (by assumption) (by assumption) (by assumption) (by assumption) (by assumption) (by assumption) (by assumption) (by assumption) (by assumption) rfl) rfl (fun vz2 Az2 hz2 => ?_)
  obtain ⟨z3, ⟨rfl, rfl⟩⟩ := hz2
  refine RunL.ok (OpOk.ext20 rfl) rfl ?_
  refine RunL.ok (OpOk.ext21 rfl) rfl ?_
  refine RunL.storeAll ti86 rfl rfl rfl (ones rfl) (frl (frl (frl (frl (frl (frl (frl (frl (frl (frl rfl)))))))))) rfl ?_
  refine RunL.ok (OpOk.assign rfl) rfl ?_
  refine RunL.nil ?_
  refine Run.retC2 (A' := _) Try.func57 rfl rfl rfl ti86 rfl rfl Blk.pts rfl (Grew.refl _) ?_
  exact ⟨_, rfl, (Eq.trans (frc (frl rfl) rfl) (congrArg (· * _) (asg (asg (asg (asg (asg (asg (asg (asg (asg (asg as1))))))))))))⟩
theorem s57h {zs : List UInt8} {w3 : Int} {t j : Nat} (hat : atE o i es < 0) (hm : m < 5) (rd : Rd w0 A (.slice ad m cap) 4 m (Fl encT111 es)) (rdb : Rd w0 A u 1 n (B bs)) (hf : freeE es = (f : Int)) (hf6 : f < 6) (hr : rightP (k, o, i, (f : Int))) (hn : n ≤ 64) (hes : ∀ e ∈ es, okE e) (hq0 : 0 ≤ q) (hq : q < 65535) (hx : xs.length = 512) (hy : ys.length = 512) (hw : w ≤ 9223372036854775807) (hw2 : w2 ≤ 9223372036854775807) (hc : 3 - c = (t : Int)) (ht : t ≤ 2) (hW : Wrote xs w (3 + 2 * f) [(full64 bs).take 32, (full64 bs).drop 32] ys w2 0) (hW2 : Wrote ys w2 t [sectB (listB (q + 1) (es ++ [(k, o, i, (f : Int))]))] zs w3 0) :
    Spec Try.prog w0 57 [.pointer (some ⟨p, 0, none⟩), .agg #[.int .i64 a, .int .i64 b, .int .i64 q, .int .i64 c, .slice ad m cap], .agg #[.int .i64 k, .int .i64 o, .int .i64 i, .int .i64 s], u] (A * pts p (.cells (B (xs) ++ [Value.int .i64 (w)]).toArray 177 (0, 0))) (fun v' A' => ∃ ad2 cap2 J, v' = .tuple #[.agg #[.int .i64 a, .int .i64 b, .int .i64 (q + 1), .int .i64 (t : Int), .slice ad2 (es.length + 1) cap2], .int .i64 0] ∧ A' = A * J * own 111 4 (.slice ad2 (es.length + 1) cap2) ((es.length + 1)) (Fl encT111 (es ++ [(k, o, i, (f : Int))])) * pts p (.cells (B (zs) ++ [Value.int .i64 (w3)]).toArray 177 (0, 0))) := by
  have hl0 := rd.lenFl (fun _ => rfl) (by decide)
  subst hl0
  have hl1 := rdb.lenB
  subst hl1
  have rw_f := hf
  have rw_s : 3 + 2 * (f : Int) = ((3 + 2 * f : Nat) : Int) := by omega
  have hes2 : ∀ e ∈ es ++ [(k, o, i, (f : Int))], okE e := okE_snoc hes hr hf6
  have hm5 : es.length + 1 ≤ 5 := hm
  have h32g : ∀ v v2 : Value, ∀ r ∈ [(v, (full64 bs).take 32), (v2, (full64 bs).drop 32)], r.2.length = 32 := fun v v2 r hr => by
    simp only [List.mem_cons, List.not_mem_nil, or_false] at hr
    rcases hr with rfl | rfl
    · show List.length (List.take 32 _) = 32
      rw [List.length_take, full64_len hn]; rfl
    · show List.length (List.drop 32 _) = 32
      rw [List.length_drop, full64_len hn]
  refine Spec.of_run [(0, .pointer (some ⟨p, 0, none⟩)), (1, .agg #[.int .i64 a, .int .i64 b, .int .i64 q, .int .i64 c, .slice ad es.length cap]), (2, .agg #[.int .i64 k, .int .i64 o, .int .i64 i, .int .i64 s]), (3, u)] Try.func57 rfl (Nat.le_of_ble_eq_true rfl) (by repeat (first | exact trivial | refine ⟨rfl, ?_⟩)) ?_
  have drawStop : True := trivial
  refine Run.seq ?_
  refine Run.region ?_
  refine RunL.box rfl rfl (fun bx1 => ?_)
  refine RunL.box rfl rfl (fun bx2 => ?_)
  refine RunL.alloc ti86 rfl (fun bx3 => ?_)
  refine RunL.ok (OpOk.assign rfl) rfl ?_
  refine RunL.nil ?_
  refine Run.seq ?_
  refine Run.region ?_
  refine RunL.ok (OpOk.loadS rfl rfl ti86 rfl Blk.pts.left.left rfl) rfl ?_
  refine RunL.ok (OpOk.fieldAddr fld111_1 rfl) rfl ?_
  refine RunL.ok (OpOk.load rfl rfl rfl (Blk.out Blk.pts.left _ _ (by first | rfl | assumption))) rfl ?_
  refine RunL.ok (OpOk.fieldAddr fld111_2 rfl) rfl ?_
  refine RunL.ok (OpOk.load rfl rfl rfl (Blk.out Blk.pts.left _ _ (by first | rfl | assumption))) rfl ?_
  refine RunL.call cal45 rfl (s45 rd.left.left.left.left) rfl (fun vx4 Ax4 hx4 => ?_)
  obtain ⟨x5, ⟨rfl, rfl⟩⟩ := hx4
  refine RunL.ok (OpOk.assign rfl) rfl ?_
  refine RunL.nil ?_
  refine Run.seq ?_
  refine Run.region ?_
  refine RunL.ok (OpOk.loadS rfl rfl ti86 rfl Blk.pts.left.left.left rfl) rfl ?_
  refine RunL.call cal47 rfl (s47 rd.left.left.left.left.left) rfl (fun vx6 Ax6 hx6 => ?_)
  obtain ⟨x7, ⟨rfl, rfl⟩⟩ := hx6
  refine RunL.ok (OpOk.fieldAddr fld111_3 rfl) rfl ?_
  refine RunL.store ti3 rfl rfl rfl (frl (frl (frl rfl))) (by exact Nat.le_of_ble_eq_true rfl) (.inl rfl) ?_
  refine RunL.nil ?_
  refine Run.seq ?_
  refine Run.block ?_
  refine Run.seq ?_
  rw [rw_f]
  refine Run.region ?_
  refine RunL.ok (OpOk.move rfl) rfl ?_
  refine RunL.ok (OpOk.eqlPN rfl rfl) rfl ?_
  refine RunL.ok (OpOk.move rfl) rfl ?_
  refine RunL.on rfl rfl ?_
  refine RunL.ok (OpOk.loadS rfl rfl ti111 rfl Blk.pts rfl) rfl ?_
  refine RunL.on rfl rfl ?_
  refine RunL.call cal103 rfl (s103) rfl (fun vx8 Ax8 hx8 => ?_)
  obtain ⟨x9, ⟨rfl, rfl⟩⟩ := hx8
  refine RunL.on rfl rfl ?_
  refine RunL.ok (OpOk.not rfl) rfl ?_
  refine RunL.ok (OpOk.pickF rfl rfl) rfl ?_
  refine RunL.ok (OpOk.assign rfl) rfl ?_
  refine RunL.nil ?_
  refine Run.condNF rfl (by first | omega | with_reducible rfl | assumption) ?_
  refine Run.seq ?_
  refine Run.region ?_
  refine RunL.ok (OpOk.move rfl) rfl ?_
  refine RunL.ok (OpOk.lenR rfl rfl rdb.left.left.left.left.left.left.left rfl) rfl ?_
  refine RunL.ok (OpOk.asF (OpOk.gtr rfl rfl) (by omega)) rfl ?_
  refine RunL.ok (OpOk.assign rfl) rfl ?_
  refine RunL.nil ?_
  refine Run.condF rfl ?_
  refine Run.seq ?_
  refine Run.region ?_
  refine RunL.ok (OpOk.move rfl) rfl ?_
  refine RunL.ok (OpOk.asT (OpOk.lss rfl rfl) (by omega)) rfl ?_
  refine RunL.ok (OpOk.move rfl) rfl ?_
  refine RunL.on rfl rfl ?_
  refine RunL.ok (OpOk.fieldAddr fld86_4 rfl) rfl ?_
  refine RunL.on rfl rfl ?_
  refine RunL.ok (OpOk.load rfl rfl rfl (Blk.out Blk.pts.left.left.left.left.left _ _ (by first | rfl | assumption))) rfl ?_
  refine RunL.on rfl rfl ?_
  refine RunL.ok (OpOk.lenV rfl rfl rfl) rfl ?_
  refine RunL.on rfl rfl ?_
  refine RunL.ok (OpOk.asF (OpOk.geq rfl rfl) (by omega)) rfl ?_
  refine RunL.ok (OpOk.pickT rfl rfl) rfl ?_
  refine RunL.ok (OpOk.assign rfl) rfl ?_
  refine RunL.nil ?_
  refine Run.condF rfl ?_
  refine Run.seq ?_
  refine Run.region ?_
  refine RunL.ok (OpOk.fieldAddr fld86_2 rfl) rfl ?_
  refine RunL.ok (OpOk.load rfl rfl rfl (Blk.out Blk.pts.left.left.left.left.left _ _ (by first | rfl | assumption))) rfl ?_
  refine RunL.ok (OpOk.asF (OpOk.geq rfl rfl) (by omega)) rfl ?_
  refine RunL.ok (OpOk.assign rfl) rfl ?_
  refine RunL.nil ?_
  refine Run.condF rfl ?_
  refine Run.seq ?_
  refine Run.region ?_
  refine RunL.ok (OpOk.fieldAddr fld111_3 rfl) rfl ?_
  refine RunL.ok (OpOk.load rfl rfl rfl (Blk.out Blk.pts.left _ _ (by first | rfl | assumption))) rfl ?_
  refine RunL.ok (OpOk.asF (OpOk.lss rfl rfl) (by omega)) rfl ?_
  refine RunL.ok (OpOk.assign rfl) rfl ?_
  refine RunL.nil ?_
  refine Run.condF rfl ?_
  refine Run.skip ?_
  refine Run.inBlock ?_
  refine Run.seq ?_
  refine Run.region ?_
  refine RunL.makeB (m := 64) rfl ti5 rfl rfl (by omega) rfl (fun vx10 rdx10 => ?_)
  refine RunL.ok (OpOk.assign rfl) rfl ?_
  refine RunL.nil ?_
  refine Run.seq ?_
  refine Run.region ?_
  refine RunL.ok (OpOk.move rfl) rfl ?_
  refine RunL.ok (OpOk.move rfl) rfl ?_
  refine RunL.copyB rfl ti5 rfl rfl rfl rfl rdb.left.left.left.left.left.left.left.left rfl (fun rdx11 => ?_)
  refine RunL.nil ?_
  refine Run.seq ?_
  refine Run.seq ?_
  clear drawStop
  rw [laid_full hn]
  refine Run.know (fun w s => s.ownRd0) (fun rd3 => ?_)
  have rdc := rd3.cutB0 (j := 32) (by omega)
  have rdd := rd3.cutB (i := 32) (j := 64) (by omega) (by omega)
  rw [List.take_of_length_le (by rw [List.length_drop, full64_len hn]; decide), show 64 - 32 = 32 from rfl] at rdd
  have h32 : ∀ r ∈ [(cutV vx10 0 32 1, (full64 bs).take 32), (cutV vx10 32 64 1, (full64 bs).drop 32)], r.2.length = 32 := h32g _ _
  (apply Run.drawD [] (by rfl) (Eq.trans (frc (frl (frl (frl (frl (frl (frl (frl rfl))))))) rfl) rfl); case hchk => kernel_rfl)
  refine Sd.quiet 0 _ _ rfl rfl rfl rfl rfl (QOp.ok (fun X => OpOk.move rfl)) ?_
  refine Sd.quiet 1 _ _ rfl rfl rfl rfl rfl (QOp.ok (fun X => OpOk.fieldAddr fld111_3 rfl)) ?_
  refine Sd.quiet 2 _ _ rfl rfl rfl rfl rfl (QOp.ok (fun X => OpOk.load rfl rfl rfl (Blk.out Blk.pts.left.left.left.left _ _ (by first | rfl | assumption)))) ?_
  refine Sd.quiet 3 _ _ rfl rfl rfl rfl rfl (QOp.ok (fun X => OpOk.mulN 2 _ rfl rfl rfl rfl (by omega))) ?_
  refine Sd.quiet 4 _ _ rfl rfl rfl rfl rfl (QOp.ok (fun X => OpOk.addN 3 _ rfl rfl rfl rfl (by omega))) ?_
  refine Sd.quiet 5 _ _ rfl rfl rfl rfl rfl (QOp.ok (fun X => OpOk.move rfl)) ?_
  refine Sd.quiet 6 _ _ rfl rfl rfl rfl rfl (QOp.ok (fun X => OpOk.cut (j := 32) rfl ti5 rfl (Rd.right rd3).left.left rfl ⟨_, rfl⟩ (by omega) (by omega))) ?_
  refine Sd.quiet 7 _ _ rfl rfl rfl rfl rfl (QOp.ok (fun X => OpOk.move rfl)) ?_
  refine Sd.quiet 8 _ _ rfl rfl rfl rfl rfl (QOp.ok (fun X => OpOk.cut (i := 32) rfl ti5 rfl (Rd.right rd3).left.left ⟨_, rfl⟩ rfl (by omega) (by omega))) ?_
  (refine Sd.exec 9 rfl rfl rfl rfl rfl ?hrest (by rfl) (fun Xy1 Ky1 hKy1 => ?_); case hrest => kernel_rfl)
  refine RunL.mem (fl2 (sep_emp _) rfl) ?_
  have aly2 : Alls (GB w0) _ [(cutV vx10 0 32 1, List.take 32 (full64 bs)), (cutV vx10 32 64 1, List.drop 32 (full64 bs))] := (Alls.cons (GB.of rdc) (Alls.cons (GB.of rdd) Alls.nil))
  refine RunL.litV (ls := [(cutV vx10 0 32 1, List.take 32 (full64 bs)), (cutV vx10 32 64 1, List.drop 32 (full64 bs))]) (Alls.right aly2).left.left rfl ti63 rfl rfl rfl (by decide) rfl (fun vy2 rdy2 => ?_)
  refine RunL.know (fun w s => (s.conv rfl).ownRd0) (fun rdy3 => ?_)
  refine Sd.ret hKy1 (Eq.trans (frc (frl rfl) rfl) (gp2 rfl rfl)) ⟨_, (emp_sep _).symm⟩ ?_
  (refine Sd.exec 10 rfl rfl rfl rfl rfl ?hrest (by rfl) (fun Xy4 Ky4 hKy4 => ?_); case hrest => kernel_rfl)
  refine RunL.mem (fl2 rfl rfl) ?_
  refine RunL.call cal98 rfl (s98 (Rd.right rdy3) (Alls.right aly2).left.left (by assumption) (by assumption) (by assumption) (by omega) (by assumption)) rfl (fun vy5 Ay5 hy5 => ?_)
  obtain ⟨rfl, rfl⟩ := hy5
  refine Sd.ret hKy4 (Eq.trans rfl (gp2 (sep_emp _).symm (asg rfl))) ⟨_, rfl⟩ ?_
  refine Sd.quiet 11 _ _ rfl rfl rfl rfl rfl (QOp.ok (fun X => OpOk.assign rfl)) ?_
  (apply Sd.tail; case hall => kernel_rfl)
  refine RunL.mem (fl2 (flS rfl) (sep_emp _)) ?_
  refine RunL.nil ?_
  refine Run.seq ?_
  refine Run.region ?_
  refine RunL.ok (OpOk.move rfl) rfl ?_
  refine RunL.ok (OpOk.as (c := false) (OpOk.neq rfl rfl) (by rw [decide_eq_true (by omega)]; rfl)) rfl ?_
  refine RunL.nil ?_
  refine Run.condF rfl ?_
  refine Run.skip ?_
  refine Run.seq ?_
  refine Run.region ?_
  refine RunL.ok (OpOk.fieldAddr fld86_4 rfl) rfl ?_
  refine RunL.ok (OpOk.load rfl rfl rfl (Blk.out Blk.pts.left.left.left.left.left.left.left.left _ _ (by first | rfl | assumption))) rfl ?_
  refine RunL.call cal102 rfl (s102 rd.left.left.left.left.left.left.left.left.left (by omega)) rfl (fun vy6 Ay6 hy6 => ?_)
  obtain rfl := hy6
  refine RunL.ok (OpOk.assign rfl) rfl ?_
  refine RunL.nil ?_
  refine Run.seq ?_
  refine Run.seq ?_
  refine Run.region ?_
  refine RunL.ok (OpOk.move rfl) rfl ?_
  refine RunL.ok (OpOk.asT (OpOk.lss rfl rfl) (by omega)) rfl ?_
  refine RunL.nil ?_
  refine Run.condT rfl ?_
  refine Run.region ?_
  refine RunL.ok (OpOk.move rfl) rfl ?_
  refine RunL.ok (OpOk.loadS rfl rfl ti111 rfl Blk.pts.left.left.left.left.left rfl) rfl ?_
  refine RunL.litFl (enc := encT111) [(k, (o, (i, ↑f)))] rfl ti111 rfl (fun _ => rfl) rfl rfl (by decide) (by decide) rfl (fun vy7 rdy7 => ?_)
  refine RunL.know (fun w s => (s.conv rfl).ownRd0) (fun rdy9 => ?_)
  refine RunL.appendF rfl ti111 rfl rfl rfl (frl rfl) (Rd.right rdy9) rfl (by decide) (by omega) (by simp only [maxLen]; omega) rfl (fun vy8 rdy8 => ?_)
  refine RunL.ok (OpOk.assign rfl) rfl ?_
  refine RunL.nil ?_
  refine Run.seq ?_
  refine Run.region ?_
  refine RunL.ok (OpOk.loadS rfl rfl ti86 rfl Blk.pts.left.left.left.left.left.left.left.left.left.left rfl) rfl ?_
  refine RunL.ok (OpOk.move rfl) rfl ?_
  refine RunL.ok (OpOk.move rfl) rfl ?_
  refine RunL.know (fun w s => (s.conv rfl).ownRd0) (fun rdy10 => ?_)
  refine RunL.mem (frc (frl (frl rfl)) rfl) ?_
  obtain ⟨ad3, cap3, rfl, hcap3, had3⟩ := rdy10.form
  refine RunL.call cal100 rfl (s100a (Rd.right rdy10) (by assumption) (by assumption) (by assumption) (by assumption) (by assumption) (by assumption) (by assumption) (by assumption) (by assumption) rfl) rfl (fun vz1 Az1 hz1 => ?_)
  obtain ⟨z2, ⟨rfl, rfl⟩⟩ := hz1
  refine RunL.ok (OpOk.ext20 rfl) rfl ?_
  refine RunL.ok (OpOk.ext21 rfl) rfl ?_
  refine RunL.storeAll ti86 rfl rfl rfl (ones rfl) (frl (frl (frl (frl (frl (frl (frl (frl (frl (frl rfl)))))))))) rfl ?_
  refine RunL.ok (OpOk.assign rfl) rfl ?_
  refine RunL.nil ?_
  refine Run.retC2 (A' := _) Try.func57 rfl rfl rfl ti86 rfl rfl Blk.pts rfl (Grew.refl _) ?_
  exact ⟨_, _, _, rfl, (Eq.trans (frc (frl rfl) (frc (frl (frl rfl)) rfl)) (congrArg (· * _) (congrArg (· * _) (asg (asg (asg (asg (asg (asg (asg (asg (asg as1))))))))))))⟩
theorem s57i {zs : List UInt8} {w3 : Int} {t j : Nat} (hat : atE o i es = (j : Int)) (hjm : j < m) (hm : m ≤ 5) (rd : Rd w0 A (.slice ad m cap) 4 m (Fl encT111 es)) (rdb : Rd w0 A u 1 n (B bs)) (hf : freeE es = (f : Int)) (hf6 : f < 6) (hr : rightP (k, o, i, (f : Int))) (hn : n ≤ 64) (hes : ∀ e ∈ es, okE e) (hq0 : 0 ≤ q) (hq : q < 65535) (hx : xs.length = 512) (hy : ys.length = 512) (hw : w ≤ 9223372036854775807) (hw2 : w2 ≤ 9223372036854775807) (hc : 3 - c = (t : Int)) (ht : t ≤ 2) (hW : Wrote xs w (3 + 2 * f) [(full64 bs).take 32, (full64 bs).drop 32] ys w2 0) (hW2 : Wrote ys w2 t [sectB (listB (q + 1) (es.set j (k, o, i, (f : Int))))] zs w3 30) :
    Spec Try.prog w0 57 [.pointer (some ⟨p, 0, none⟩), .agg #[.int .i64 a, .int .i64 b, .int .i64 q, .int .i64 c, .slice ad m cap], .agg #[.int .i64 k, .int .i64 o, .int .i64 i, .int .i64 s], u] (A * pts p (.cells (B (xs) ++ [Value.int .i64 (w)]).toArray 177 (0, 0))) (fun v' A' => ∃ J, v' = .tuple #[.agg #[.int .i64 0, .int .i64 0, .int .i64 0, .int .i64 0, .slice none 0 0], .int .i64 30] ∧ A' = A * J * pts p (.cells (B (zs) ++ [Value.int .i64 (w3)]).toArray 177 (0, 0))) := by
  have hl0 := rd.lenFl (fun _ => rfl) (by decide)
  subst hl0
  have hl1 := rdb.lenB
  subst hl1
  have rw_f := hf
  have rw_s : 3 + 2 * (f : Int) = ((3 + 2 * f : Nat) : Int) := by omega
  have rw_j := hat
  have hes2 : ∀ e ∈ es.set j (k, o, i, (f : Int)), okE e := okE_set hes hr hf6
  have h32g : ∀ v v2 : Value, ∀ r ∈ [(v, (full64 bs).take 32), (v2, (full64 bs).drop 32)], r.2.length = 32 := fun v v2 r hr => by
    simp only [List.mem_cons, List.not_mem_nil, or_false] at hr
    rcases hr with rfl | rfl
    · show List.length (List.take 32 _) = 32
      rw [List.length_take, full64_len hn]; rfl
    · show List.length (List.drop 32 _) = 32
      rw [List.length_drop, full64_len hn]
  refine Spec.of_run [(0, .pointer (some ⟨p, 0, none⟩)), (1, .agg #[.int .i64 a, .int .i64 b, .int .i64 q, .int .i64 c, .slice ad es.length cap]), (2, .agg #[.int .i64 k, .int .i64 o, .int .i64 i, .int .i64 s]), (3, u)] Try.func57 rfl (Nat.le_of_ble_eq_true rfl) (by repeat (first | exact trivial | refine ⟨rfl, ?_⟩)) ?_
  have drawStop : True := trivial
  refine Run.seq ?_
  refine Run.region ?_
  refine RunL.box rfl rfl (fun bx1 => ?_)
  refine RunL.box rfl rfl (fun bx2 => ?_)
  refine RunL.alloc ti86 rfl (fun bx3 => ?_)
  refine RunL.ok (OpOk.assign rfl) rfl ?_
  refine RunL.nil ?_
  refine Run.seq ?_
  refine Run.region ?_
  refine RunL.ok (OpOk.loadS rfl rfl ti86 rfl Blk.pts.left.left rfl) rfl ?_
  refine RunL.ok (OpOk.fieldAddr fld111_1 rfl) rfl ?_
  refine RunL.ok (OpOk.load rfl rfl rfl (Blk.out Blk.pts.left _ _ (by first | rfl | assumption))) rfl ?_
  refine RunL.ok (OpOk.fieldAddr fld111_2 rfl) rfl ?_
  refine RunL.ok (OpOk.load rfl rfl rfl (Blk.out Blk.pts.left _ _ (by first | rfl | assumption))) rfl ?_
  refine RunL.call cal45 rfl (s45 rd.left.left.left.left) rfl (fun vx4 Ax4 hx4 => ?_)
  obtain ⟨x5, ⟨rfl, rfl⟩⟩ := hx4
  refine RunL.ok (OpOk.assign rfl) rfl ?_
  refine RunL.nil ?_
  refine Run.seq ?_
  rw [rw_j]
  refine Run.region ?_
  refine RunL.ok (OpOk.loadS rfl rfl ti86 rfl Blk.pts.left.left.left rfl) rfl ?_
  refine RunL.call cal47 rfl (s47 rd.left.left.left.left.left) rfl (fun vx6 Ax6 hx6 => ?_)
  obtain ⟨x7, ⟨rfl, rfl⟩⟩ := hx6
  refine RunL.ok (OpOk.fieldAddr fld111_3 rfl) rfl ?_
  refine RunL.store ti3 rfl rfl rfl (frl (frl (frl rfl))) (by exact Nat.le_of_ble_eq_true rfl) (.inl rfl) ?_
  refine RunL.nil ?_
  refine Run.seq ?_
  refine Run.block ?_
  refine Run.seq ?_
  rw [rw_f]
  refine Run.region ?_
  refine RunL.ok (OpOk.move rfl) rfl ?_
  refine RunL.ok (OpOk.eqlPN rfl rfl) rfl ?_
  refine RunL.ok (OpOk.move rfl) rfl ?_
  refine RunL.on rfl rfl ?_
  refine RunL.ok (OpOk.loadS rfl rfl ti111 rfl Blk.pts rfl) rfl ?_
  refine RunL.on rfl rfl ?_
  refine RunL.call cal103 rfl (s103) rfl (fun vx8 Ax8 hx8 => ?_)
  obtain ⟨x9, ⟨rfl, rfl⟩⟩ := hx8
  refine RunL.on rfl rfl ?_
  refine RunL.ok (OpOk.not rfl) rfl ?_
  refine RunL.ok (OpOk.pickF rfl rfl) rfl ?_
  refine RunL.ok (OpOk.assign rfl) rfl ?_
  refine RunL.nil ?_
  refine Run.condNF rfl (by first | omega | with_reducible rfl | assumption) ?_
  refine Run.seq ?_
  refine Run.region ?_
  refine RunL.ok (OpOk.move rfl) rfl ?_
  refine RunL.ok (OpOk.lenR rfl rfl rdb.left.left.left.left.left.left.left rfl) rfl ?_
  refine RunL.ok (OpOk.asF (OpOk.gtr rfl rfl) (by omega)) rfl ?_
  refine RunL.ok (OpOk.assign rfl) rfl ?_
  refine RunL.nil ?_
  refine Run.condF rfl ?_
  refine Run.seq ?_
  refine Run.region ?_
  refine RunL.ok (OpOk.move rfl) rfl ?_
  refine RunL.ok (OpOk.asF (OpOk.lss rfl rfl) (by omega)) rfl ?_
  refine RunL.ok (OpOk.move rfl) rfl ?_
  refine RunL.off rfl rfl rfl rfl ?_
  refine RunL.off rfl rfl rfl rfl ?_
  refine RunL.off rfl rfl rfl rfl ?_
  refine RunL.off rfl rfl rfl rfl ?_
  refine RunL.ok (OpOk.pickF rfl rfl) rfl ?_
  refine RunL.ok (OpOk.assign rfl) rfl ?_
  refine RunL.nil ?_
  refine Run.condF rfl ?_
  refine Run.seq ?_
  refine Run.region ?_
  refine RunL.ok (OpOk.fieldAddr fld86_2 rfl) rfl ?_
  refine RunL.ok (OpOk.load rfl rfl rfl (Blk.out Blk.pts.left.left.left.left.left _ _ (by first | rfl | assumption))) rfl ?_
  refine RunL.ok (OpOk.asF (OpOk.geq rfl rfl) (by omega)) rfl ?_
  refine RunL.ok (OpOk.assign rfl) rfl ?_
  refine RunL.nil ?_
  refine Run.condF rfl ?_
  refine Run.seq ?_
  refine Run.region ?_
  refine RunL.ok (OpOk.fieldAddr fld111_3 rfl) rfl ?_
  refine RunL.ok (OpOk.load rfl rfl rfl (Blk.out Blk.pts.left _ _ (by first | rfl | assumption))) rfl ?_
  refine RunL.ok (OpOk.asF (OpOk.lss rfl rfl) (by omega)) rfl ?_
  refine RunL.ok (OpOk.assign rfl) rfl ?_
  refine RunL.nil ?_
  refine Run.condF rfl ?_
  refine Run.skip ?_
  refine Run.inBlock ?_
  refine Run.seq ?_
  refine Run.region ?_
  refine RunL.makeB (m := 64) rfl ti5 rfl rfl (by omega) rfl (fun vx10 rdx10 => ?_)
  refine RunL.ok (OpOk.assign rfl) rfl ?_
  refine RunL.nil ?_
  refine Run.seq ?_
  refine Run.region ?_
  refine RunL.ok (OpOk.move rfl) rfl ?_
  refine RunL.ok (OpOk.move rfl) rfl ?_
  refine RunL.copyB rfl ti5 rfl rfl rfl rfl rdb.left.left.left.left.left.left.left.left rfl (fun rdx11 => ?_)
  refine RunL.nil ?_
  refine Run.seq ?_
  refine Run.seq ?_
  clear drawStop
  rw [laid_full hn]
  refine Run.know (fun w s => s.ownRd0) (fun rd3 => ?_)
  have rdc := rd3.cutB0 (j := 32) (by omega)
  have rdd := rd3.cutB (i := 32) (j := 64) (by omega) (by omega)
  rw [List.take_of_length_le (by rw [List.length_drop, full64_len hn]; decide), show 64 - 32 = 32 from rfl] at rdd
  have h32 : ∀ r ∈ [(cutV vx10 0 32 1, (full64 bs).take 32), (cutV vx10 32 64 1, (full64 bs).drop 32)], r.2.length = 32 := h32g _ _
  (apply Run.drawD [] (by rfl) (Eq.trans (frc (frl (frl (frl (frl (frl (frl (frl rfl))))))) rfl) rfl); case hchk => kernel_rfl)
  refine Sd.quiet 0 _ _ rfl rfl rfl rfl rfl (QOp.ok (fun X => OpOk.move rfl)) ?_
  refine Sd.quiet 1 _ _ rfl rfl rfl rfl rfl (QOp.ok (fun X => OpOk.fieldAddr fld111_3 rfl)) ?_
  refine Sd.quiet 2 _ _ rfl rfl rfl rfl rfl (QOp.ok (fun X => OpOk.load rfl rfl rfl (Blk.out Blk.pts.left.left.left.left _ _ (by first | rfl | assumption)))) ?_
  refine Sd.quiet 3 _ _ rfl rfl rfl rfl rfl (QOp.ok (fun X => OpOk.mulN 2 _ rfl rfl rfl rfl (by omega))) ?_
  refine Sd.quiet 4 _ _ rfl rfl rfl rfl rfl (QOp.ok (fun X => OpOk.addN 3 _ rfl rfl rfl rfl (by omega))) ?_
  refine Sd.quiet 5 _ _ rfl rfl rfl rfl rfl (QOp.ok (fun X => OpOk.move rfl)) ?_
  refine Sd.quiet 6 _ _ rfl rfl rfl rfl rfl (QOp.ok (fun X => OpOk.cut (j := 32) rfl ti5 rfl (Rd.right rd3).left.left rfl ⟨_, rfl⟩ (by omega) (by omega))) ?_
  refine Sd.quiet 7 _ _ rfl rfl rfl rfl rfl (QOp.ok (fun X => OpOk.move rfl)) ?_
  refine Sd.quiet 8 _ _ rfl rfl rfl rfl rfl (QOp.ok (fun X => OpOk.cut (i := 32) rfl ti5 rfl (Rd.right rd3).left.left ⟨_, rfl⟩ rfl (by omega) (by omega))) ?_
  (refine Sd.exec 9 rfl rfl rfl rfl rfl ?hrest (by rfl) (fun Xy1 Ky1 hKy1 => ?_); case hrest => kernel_rfl)
  refine RunL.mem (fl2 (sep_emp _) rfl) ?_
  have aly2 : Alls (GB w0) _ [(cutV vx10 0 32 1, List.take 32 (full64 bs)), (cutV vx10 32 64 1, List.drop 32 (full64 bs))] := (Alls.cons (GB.of rdc) (Alls.cons (GB.of rdd) Alls.nil))
  refine RunL.litV (ls := [(cutV vx10 0 32 1, List.take 32 (full64 bs)), (cutV vx10 32 64 1, List.drop 32 (full64 bs))]) (Alls.right aly2).left.left rfl ti63 rfl rfl rfl (by decide) rfl (fun vy2 rdy2 => ?_)
  refine RunL.know (fun w s => (s.conv rfl).ownRd0) (fun rdy3 => ?_)
  refine Sd.ret hKy1 (Eq.trans (frc (frl rfl) rfl) (gp2 rfl rfl)) ⟨_, (emp_sep _).symm⟩ ?_
  (refine Sd.exec 10 rfl rfl rfl rfl rfl ?hrest (by rfl) (fun Xy4 Ky4 hKy4 => ?_); case hrest => kernel_rfl)
  refine RunL.mem (fl2 rfl rfl) ?_
  refine RunL.call cal98 rfl (s98 (Rd.right rdy3) (Alls.right aly2).left.left (by assumption) (by assumption) (by assumption) (by omega) (by assumption)) rfl (fun vy5 Ay5 hy5 => ?_)
  obtain ⟨rfl, rfl⟩ := hy5
  refine Sd.ret hKy4 (Eq.trans rfl (gp2 (sep_emp _).symm (asg rfl))) ⟨_, rfl⟩ ?_
  refine Sd.quiet 11 _ _ rfl rfl rfl rfl rfl (QOp.ok (fun X => OpOk.assign rfl)) ?_
  (apply Sd.tail; case hall => kernel_rfl)
  refine RunL.mem (fl2 (flS rfl) (sep_emp _)) ?_
  refine RunL.nil ?_
  refine Run.seq ?_
  refine Run.region ?_
  refine RunL.ok (OpOk.move rfl) rfl ?_
  refine RunL.ok (OpOk.as (c := false) (OpOk.neq rfl rfl) (by rw [decide_eq_true (by omega)]; rfl)) rfl ?_
  refine RunL.nil ?_
  refine Run.condF rfl ?_
  refine Run.skip ?_
  refine Run.seq ?_
  refine Run.region ?_
  refine RunL.ok (OpOk.fieldAddr fld86_4 rfl) rfl ?_
  refine RunL.ok (OpOk.load rfl rfl rfl (Blk.out Blk.pts.left.left.left.left.left.left.left.left _ _ (by first | rfl | assumption))) rfl ?_
  refine RunL.call cal102 rfl (s102 rd.left.left.left.left.left.left.left.left.left (by omega)) rfl (fun vy6 Ay6 hy6 => ?_)
  obtain rfl := hy6
  refine RunL.ok (OpOk.assign rfl) rfl ?_
  refine RunL.nil ?_
  refine Run.seq ?_
  refine Run.seq ?_
  refine Run.region ?_
  refine RunL.ok (OpOk.move rfl) rfl ?_
  refine RunL.ok (OpOk.asF (OpOk.lss rfl rfl) (by omega)) rfl ?_
  refine RunL.nil ?_
  refine Run.condF rfl ?_
  refine Run.region ?_
  refine RunL.ok (OpOk.move rfl) rfl ?_
  refine RunL.ok (OpOk.move rfl) rfl ?_
  refine RunL.ok (OpOk.loadS rfl rfl ti111 rfl Blk.pts.left.left.left.left.left rfl) rfl ?_
  refine RunL.know (fun w s => (s.conv rfl).ownRd0) (fun rdy7 => ?_)
  refine RunL.ok (OpOk.idxN rfl ti111 rfl (Rd.right rdy7) rfl (by omega)) rfl ?_
  refine RunL.storeFl (enc := encT111) ((k, (o, (i, ↑f)))) ti111 rfl rfl rfl (fun _ => rfl) rfl rfl (by first | omega | (simp; omega)) (by omega) ?_
  refine RunL.nil ?_
  refine Run.seq ?_
  refine Run.region ?_
  refine RunL.ok (OpOk.loadS rfl rfl ti86 rfl Blk.pts.left.left.left.left.left.left.left.left.left rfl) rfl ?_
  refine RunL.ok (OpOk.move rfl) rfl ?_
  refine RunL.ok (OpOk.move rfl) rfl ?_
  refine RunL.know (fun w s => (s.conv rfl).ownRd0) (fun rdy8 => ?_)
  refine RunL.mem (frc (frl rfl) rfl) ?_
  obtain ⟨ad3, cap3, rfl, hcap3, had3⟩ := rdy8.form
  refine RunL.call cal100 rfl (s100b (Rd.right rdy8) (by assumption) (by assumption) (by assumption) (by assumption) (by assumption) (by assumption) (by assumption) (by assumption) (by assumption) rfl) rfl (fun vz2 Az2 hz2 => ?_)
  obtain ⟨z3, ⟨rfl, rfl⟩⟩ := hz2
  refine RunL.ok (OpOk.ext20 rfl) rfl ?_
  refine RunL.ok (OpOk.ext21 rfl) rfl ?_
  refine RunL.storeAll ti86 rfl rfl rfl (ones rfl) (frl (frl (frl (frl (frl (frl (frl (frl (frl rfl))))))))) rfl ?_
  refine RunL.ok (OpOk.assign rfl) rfl ?_
  refine RunL.nil ?_
  refine Run.retC2 (A' := _) Try.func57 rfl rfl rfl ti86 rfl rfl Blk.pts rfl (Grew.refl _) ?_
  exact ⟨_, rfl, (Eq.trans (frc (frl rfl) rfl) (congrArg (· * _) (asg (asg (asg (asg (asg (asg (asg (asg (asg as1)))))))))))⟩
theorem s57j {zs : List UInt8} {w3 : Int} {t j : Nat} (hat : atE o i es = (j : Int)) (hjm : j < m) (hm : m ≤ 5) (rd : Rd w0 A (.slice ad m cap) 4 m (Fl encT111 es)) (rdb : Rd w0 A u 1 n (B bs)) (hf : freeE es = (f : Int)) (hf6 : f < 6) (hr : rightP (k, o, i, (f : Int))) (hn : n ≤ 64) (hes : ∀ e ∈ es, okE e) (hq0 : 0 ≤ q) (hq : q < 65535) (hx : xs.length = 512) (hy : ys.length = 512) (hw : w ≤ 9223372036854775807) (hw2 : w2 ≤ 9223372036854775807) (hc : 3 - c = (t : Int)) (ht : t ≤ 2) (hW : Wrote xs w (3 + 2 * f) [(full64 bs).take 32, (full64 bs).drop 32] ys w2 0) (hW2 : Wrote ys w2 t [sectB (listB (q + 1) (es.set j (k, o, i, (f : Int))))] zs w3 0) :
    Spec Try.prog w0 57 [.pointer (some ⟨p, 0, none⟩), .agg #[.int .i64 a, .int .i64 b, .int .i64 q, .int .i64 c, .slice ad m cap], .agg #[.int .i64 k, .int .i64 o, .int .i64 i, .int .i64 s], u] (A * pts p (.cells (B (xs) ++ [Value.int .i64 (w)]).toArray 177 (0, 0))) (fun v' A' => ∃ ad2 cap2 J, v' = .tuple #[.agg #[.int .i64 a, .int .i64 b, .int .i64 (q + 1), .int .i64 (t : Int), .slice ad2 es.length cap2], .int .i64 0] ∧ A' = A * J * own 111 4 (.slice ad2 es.length cap2) (es.length) (Fl encT111 (es.set j (k, o, i, (f : Int)))) * pts p (.cells (B (zs) ++ [Value.int .i64 (w3)]).toArray 177 (0, 0))) := by
  have hl0 := rd.lenFl (fun _ => rfl) (by decide)
  subst hl0
  have hl1 := rdb.lenB
  subst hl1
  have rw_f := hf
  have rw_s : 3 + 2 * (f : Int) = ((3 + 2 * f : Nat) : Int) := by omega
  have rw_j := hat
  have hes2 : ∀ e ∈ es.set j (k, o, i, (f : Int)), okE e := okE_set hes hr hf6
  have h32g : ∀ v v2 : Value, ∀ r ∈ [(v, (full64 bs).take 32), (v2, (full64 bs).drop 32)], r.2.length = 32 := fun v v2 r hr => by
    simp only [List.mem_cons, List.not_mem_nil, or_false] at hr
    rcases hr with rfl | rfl
    · show List.length (List.take 32 _) = 32
      rw [List.length_take, full64_len hn]; rfl
    · show List.length (List.drop 32 _) = 32
      rw [List.length_drop, full64_len hn]
  refine Spec.of_run [(0, .pointer (some ⟨p, 0, none⟩)), (1, .agg #[.int .i64 a, .int .i64 b, .int .i64 q, .int .i64 c, .slice ad es.length cap]), (2, .agg #[.int .i64 k, .int .i64 o, .int .i64 i, .int .i64 s]), (3, u)] Try.func57 rfl (Nat.le_of_ble_eq_true rfl) (by repeat (first | exact trivial | refine ⟨rfl, ?_⟩)) ?_
  have drawStop : True := trivial
  refine Run.seq ?_
  refine Run.region ?_
  refine RunL.box rfl rfl (fun bx1 => ?_)
  refine RunL.box rfl rfl (fun bx2 => ?_)
  refine RunL.alloc ti86 rfl (fun bx3 => ?_)
  refine RunL.ok (OpOk.assign rfl) rfl ?_
  refine RunL.nil ?_
  refine Run.seq ?_
  refine Run.region ?_
  refine RunL.ok (OpOk.loadS rfl rfl ti86 rfl Blk.pts.left.left rfl) rfl ?_
  refine RunL.ok (OpOk.fieldAddr fld111_1 rfl) rfl ?_
  refine RunL.ok (OpOk.load rfl rfl rfl (Blk.out Blk.pts.left _ _ (by first | rfl | assumption))) rfl ?_
  refine RunL.ok (OpOk.fieldAddr fld111_2 rfl) rfl ?_
  refine RunL.ok (OpOk.load rfl rfl rfl (Blk.out Blk.pts.left _ _ (by first | rfl | assumption))) rfl ?_
  refine RunL.call cal45 rfl (s45 rd.left.left.left.left) rfl (fun vx4 Ax4 hx4 => ?_)
  obtain ⟨x5, ⟨rfl, rfl⟩⟩ := hx4
  refine RunL.ok (OpOk.assign rfl) rfl ?_
  refine RunL.nil ?_
  refine Run.seq ?_
  rw [rw_j]
  refine Run.region ?_
  refine RunL.ok (OpOk.loadS rfl rfl ti86 rfl Blk.pts.left.left.left rfl) rfl ?_
  refine RunL.call cal47 rfl (s47 rd.left.left.left.left.left) rfl (fun vx6 Ax6 hx6 => ?_)
  obtain ⟨x7, ⟨rfl, rfl⟩⟩ := hx6
  refine RunL.ok (OpOk.fieldAddr fld111_3 rfl) rfl ?_
  refine RunL.store ti3 rfl rfl rfl (frl (frl (frl rfl))) (by exact Nat.le_of_ble_eq_true rfl) (.inl rfl) ?_
  refine RunL.nil ?_
  refine Run.seq ?_
  refine Run.block ?_
  refine Run.seq ?_
  rw [rw_f]
  refine Run.region ?_
  refine RunL.ok (OpOk.move rfl) rfl ?_
  refine RunL.ok (OpOk.eqlPN rfl rfl) rfl ?_
  refine RunL.ok (OpOk.move rfl) rfl ?_
  refine RunL.on rfl rfl ?_
  refine RunL.ok (OpOk.loadS rfl rfl ti111 rfl Blk.pts rfl) rfl ?_
  refine RunL.on rfl rfl ?_
  refine RunL.call cal103 rfl (s103) rfl (fun vx8 Ax8 hx8 => ?_)
  obtain ⟨x9, ⟨rfl, rfl⟩⟩ := hx8
  refine RunL.on rfl rfl ?_
  refine RunL.ok (OpOk.not rfl) rfl ?_
  refine RunL.ok (OpOk.pickF rfl rfl) rfl ?_
  refine RunL.ok (OpOk.assign rfl) rfl ?_
  refine RunL.nil ?_
  refine Run.condNF rfl (by first | omega | with_reducible rfl | assumption) ?_
  refine Run.seq ?_
  refine Run.region ?_
  refine RunL.ok (OpOk.move rfl) rfl ?_
  refine RunL.ok (OpOk.lenR rfl rfl rdb.left.left.left.left.left.left.left rfl) rfl ?_
  refine RunL.ok (OpOk.asF (OpOk.gtr rfl rfl) (by omega)) rfl ?_
  refine RunL.ok (OpOk.assign rfl) rfl ?_
  refine RunL.nil ?_
  refine Run.condF rfl ?_
  refine Run.seq ?_
  refine Run.region ?_
  refine RunL.ok (OpOk.move rfl) rfl ?_
  refine RunL.ok (OpOk.asF (OpOk.lss rfl rfl) (by omega)) rfl ?_
  refine RunL.ok (OpOk.move rfl) rfl ?_
  refine RunL.off rfl rfl rfl rfl ?_
  refine RunL.off rfl rfl rfl rfl ?_
  refine RunL.off rfl rfl rfl rfl ?_
  refine RunL.off rfl rfl rfl rfl ?_
  refine RunL.ok (OpOk.pickF rfl rfl) rfl ?_
  refine RunL.ok (OpOk.assign rfl) rfl ?_
  refine RunL.nil ?_
  refine Run.condF rfl ?_
  refine Run.seq ?_
  refine Run.region ?_
  refine RunL.ok (OpOk.fieldAddr fld86_2 rfl) rfl ?_
  refine RunL.ok (OpOk.load rfl rfl rfl (Blk.out Blk.pts.left.left.left.left.left _ _ (by first | rfl | assumption))) rfl ?_
  refine RunL.ok (OpOk.asF (OpOk.geq rfl rfl) (by omega)) rfl ?_
  refine RunL.ok (OpOk.assign rfl) rfl ?_
  refine RunL.nil ?_
  refine Run.condF rfl ?_
  refine Run.seq ?_
  refine Run.region ?_
  refine RunL.ok (OpOk.fieldAddr fld111_3 rfl) rfl ?_
  refine RunL.ok (OpOk.load rfl rfl rfl (Blk.out Blk.pts.left _ _ (by first | rfl | assumption))) rfl ?_
  refine RunL.ok (OpOk.asF (OpOk.lss rfl rfl) (by omega)) rfl ?_
  refine RunL.ok (OpOk.assign rfl) rfl ?_
  refine RunL.nil ?_
  refine Run.condF rfl ?_
  refine Run.skip ?_
  refine Run.inBlock ?_
  refine Run.seq ?_
  refine Run.region ?_
  refine RunL.makeB (m := 64) rfl ti5 rfl rfl (by omega) rfl (fun vx10 rdx10 => ?_)
  refine RunL.ok (OpOk.assign rfl) rfl ?_
  refine RunL.nil ?_
  refine Run.seq ?_
  refine Run.region ?_
  refine RunL.ok (OpOk.move rfl) rfl ?_
  refine RunL.ok (OpOk.move rfl) rfl ?_
  refine RunL.copyB rfl ti5 rfl rfl rfl rfl rdb.left.left.left.left.left.left.left.left rfl (fun rdx11 => ?_)
  refine RunL.nil ?_
  refine Run.seq ?_
  refine Run.seq ?_
  clear drawStop
  rw [laid_full hn]
  refine Run.know (fun w s => s.ownRd0) (fun rd3 => ?_)
  have rdc := rd3.cutB0 (j := 32) (by omega)
  have rdd := rd3.cutB (i := 32) (j := 64) (by omega) (by omega)
  rw [List.take_of_length_le (by rw [List.length_drop, full64_len hn]; decide), show 64 - 32 = 32 from rfl] at rdd
  have h32 : ∀ r ∈ [(cutV vx10 0 32 1, (full64 bs).take 32), (cutV vx10 32 64 1, (full64 bs).drop 32)], r.2.length = 32 := h32g _ _
  (apply Run.drawD [] (by rfl) (Eq.trans (frc (frl (frl (frl (frl (frl (frl (frl rfl))))))) rfl) rfl); case hchk => kernel_rfl)
  refine Sd.quiet 0 _ _ rfl rfl rfl rfl rfl (QOp.ok (fun X => OpOk.move rfl)) ?_
  refine Sd.quiet 1 _ _ rfl rfl rfl rfl rfl (QOp.ok (fun X => OpOk.fieldAddr fld111_3 rfl)) ?_
  refine Sd.quiet 2 _ _ rfl rfl rfl rfl rfl (QOp.ok (fun X => OpOk.load rfl rfl rfl (Blk.out Blk.pts.left.left.left.left _ _ (by first | rfl | assumption)))) ?_
  refine Sd.quiet 3 _ _ rfl rfl rfl rfl rfl (QOp.ok (fun X => OpOk.mulN 2 _ rfl rfl rfl rfl (by omega))) ?_
  refine Sd.quiet 4 _ _ rfl rfl rfl rfl rfl (QOp.ok (fun X => OpOk.addN 3 _ rfl rfl rfl rfl (by omega))) ?_
  refine Sd.quiet 5 _ _ rfl rfl rfl rfl rfl (QOp.ok (fun X => OpOk.move rfl)) ?_
  refine Sd.quiet 6 _ _ rfl rfl rfl rfl rfl (QOp.ok (fun X => OpOk.cut (j := 32) rfl ti5 rfl (Rd.right rd3).left.left rfl ⟨_, rfl⟩ (by omega) (by omega))) ?_
  refine Sd.quiet 7 _ _ rfl rfl rfl rfl rfl (QOp.ok (fun X => OpOk.move rfl)) ?_
  refine Sd.quiet 8 _ _ rfl rfl rfl rfl rfl (QOp.ok (fun X => OpOk.cut (i := 32) rfl ti5 rfl (Rd.right rd3).left.left ⟨_, rfl⟩ rfl (by omega) (by omega))) ?_
  (refine Sd.exec 9 rfl rfl rfl rfl rfl ?hrest (by rfl) (fun Xy1 Ky1 hKy1 => ?_); case hrest => kernel_rfl)
  refine RunL.mem (fl2 (sep_emp _) rfl) ?_
  have aly2 : Alls (GB w0) _ [(cutV vx10 0 32 1, List.take 32 (full64 bs)), (cutV vx10 32 64 1, List.drop 32 (full64 bs))] := (Alls.cons (GB.of rdc) (Alls.cons (GB.of rdd) Alls.nil))
  refine RunL.litV (ls := [(cutV vx10 0 32 1, List.take 32 (full64 bs)), (cutV vx10 32 64 1, List.drop 32 (full64 bs))]) (Alls.right aly2).left.left rfl ti63 rfl rfl rfl (by decide) rfl (fun vy2 rdy2 => ?_)
  refine RunL.know (fun w s => (s.conv rfl).ownRd0) (fun rdy3 => ?_)
  refine Sd.ret hKy1 (Eq.trans (frc (frl rfl) rfl) (gp2 rfl rfl)) ⟨_, (emp_sep _).symm⟩ ?_
  (refine Sd.exec 10 rfl rfl rfl rfl rfl ?hrest (by rfl) (fun Xy4 Ky4 hKy4 => ?_); case hrest => kernel_rfl)
  refine RunL.mem (fl2 rfl rfl) ?_
  refine RunL.call cal98 rfl (s98 (Rd.right rdy3) (Alls.right aly2).left.left (by assumption) (by assumption) (by assumption) (by omega) (by assumption)) rfl (fun vy5 Ay5 hy5 => ?_)
  obtain ⟨rfl, rfl⟩ := hy5
  refine Sd.ret hKy4 (Eq.trans rfl (gp2 (sep_emp _).symm (asg rfl))) ⟨_, rfl⟩ ?_
  refine Sd.quiet 11 _ _ rfl rfl rfl rfl rfl (QOp.ok (fun X => OpOk.assign rfl)) ?_
  (apply Sd.tail; case hall => kernel_rfl)
  refine RunL.mem (fl2 (flS rfl) (sep_emp _)) ?_
  refine RunL.nil ?_
  refine Run.seq ?_
  refine Run.region ?_
  refine RunL.ok (OpOk.move rfl) rfl ?_
  refine RunL.ok (OpOk.as (c := false) (OpOk.neq rfl rfl) (by rw [decide_eq_true (by omega)]; rfl)) rfl ?_
  refine RunL.nil ?_
  refine Run.condF rfl ?_
  refine Run.skip ?_
  refine Run.seq ?_
  refine Run.region ?_
  refine RunL.ok (OpOk.fieldAddr fld86_4 rfl) rfl ?_
  refine RunL.ok (OpOk.load rfl rfl rfl (Blk.out Blk.pts.left.left.left.left.left.left.left.left _ _ (by first | rfl | assumption))) rfl ?_
  refine RunL.call cal102 rfl (s102 rd.left.left.left.left.left.left.left.left.left (by omega)) rfl (fun vy6 Ay6 hy6 => ?_)
  obtain rfl := hy6
  refine RunL.ok (OpOk.assign rfl) rfl ?_
  refine RunL.nil ?_
  refine Run.seq ?_
  refine Run.seq ?_
  refine Run.region ?_
  refine RunL.ok (OpOk.move rfl) rfl ?_
  refine RunL.ok (OpOk.asF (OpOk.lss rfl rfl) (by omega)) rfl ?_
  refine RunL.nil ?_
  refine Run.condF rfl ?_
  refine Run.region ?_
  refine RunL.ok (OpOk.move rfl) rfl ?_
  refine RunL.ok (OpOk.move rfl) rfl ?_
  refine RunL.ok (OpOk.loadS rfl rfl ti111 rfl Blk.pts.left.left.left.left.left rfl) rfl ?_
  refine RunL.know (fun w s => (s.conv rfl).ownRd0) (fun rdy7 => ?_)
  refine RunL.ok (OpOk.idxN rfl ti111 rfl (Rd.right rdy7) rfl (by omega)) rfl ?_
  refine RunL.storeFl (enc := encT111) ((k, (o, (i, ↑f)))) ti111 rfl rfl rfl (fun _ => rfl) rfl rfl (by first | omega | (simp; omega)) (by omega) ?_
  refine RunL.nil ?_
  refine Run.seq ?_
  refine Run.region ?_
  refine RunL.ok (OpOk.loadS rfl rfl ti86 rfl Blk.pts.left.left.left.left.left.left.left.left.left rfl) rfl ?_
  refine RunL.ok (OpOk.move rfl) rfl ?_
  refine RunL.ok (OpOk.move rfl) rfl ?_
  refine RunL.know (fun w s => (s.conv rfl).ownRd0) (fun rdy8 => ?_)
  refine RunL.mem (frc (frl rfl) rfl) ?_
  obtain ⟨ad3, cap3, rfl, hcap3, had3⟩ := rdy8.form
  refine RunL.call cal100 rfl (s100a (Rd.right rdy8) (by assumption) (by assumption) (by assumption) (by assumption) (by assumption) (by assumption) (by assumption) (by assumption) (by assumption) rfl) rfl (fun vz1 Az1 hz1 => ?_)
  obtain ⟨z2, ⟨rfl, rfl⟩⟩ := hz1
  refine RunL.ok (OpOk.ext20 rfl) rfl ?_
  refine RunL.ok (OpOk.ext21 rfl) rfl ?_
  refine RunL.storeAll ti86 rfl rfl rfl (ones rfl) (frl (frl (frl (frl (frl (frl (frl (frl (frl rfl))))))))) rfl ?_
  refine RunL.ok (OpOk.assign rfl) rfl ?_
  refine RunL.nil ?_
  refine Run.retC2 (A' := _) Try.func57 rfl rfl rfl ti86 rfl rfl Blk.pts rfl (Grew.refl _) ?_
  exact ⟨_, _, _, rfl, (Eq.trans (frc (frl rfl) (frc (frl (frl rfl)) rfl)) (congrArg (· * _) (congrArg (· * _) (asg (asg (asg (asg (asg (asg (asg (asg as1)))))))))))⟩
end
end Go.Proofs.Yteopadjihklkmaa
end

section
namespace Go.Proofs.Yteopadjihklkmaa
open Go Go.Proofs
set_option maxRecDepth 100000
set_option maxHeartbeats 4000000
set_option linter.unusedSimpArgs false
set_option linter.unusedVariables false
theorem by1_of {d : List UInt8} {j : Nat} {n : Int} (h : d.getD j 0 = UInt8.ofNat n.toNat) (h0 : 0 ≤ n) (h1 : n ≤ 255) : by1 d j = n := by
  rw [by1, h, UInt8.toNat_ofNat']
  omega
theorem by2_of {d : List UInt8} {j : Nat} {n : Int} (h : d.getD j 0 = UInt8.ofNat (n.toNat / 256)) (h2 : d.getD (j + 1) 0 = UInt8.ofNat n.toNat) (h0 : 0 ≤ n) (h1 : n ≤ 65535) : by2 d j = n := by
  rw [by2, h, h2, UInt8.toNat_ofNat', UInt8.toNat_ofNat']
  omega
end Go.Proofs.Yteopadjihklkmaa
end

section
namespace Go.Proofs.Yteopadjihklkmaa
open Go Go.Proofs
set_option maxRecDepth 100000
set_option maxHeartbeats 4000000
set_option linter.unusedSimpArgs false
set_option linter.unusedVariables false
/-- Do two entries clash? -/
def clash (e o : En) : Bool := decide (o.2.2.2 = e.2.2.2 ∨ o.2.1 = e.2.1 ∧ o.2.2.1 = e.2.2.1)
theorem no_clash (e : En) (l : List En) : (!takenE l e.2.2.2 && decide (atE e.2.1 e.2.2.1 l < 0)) = l.all (fun o => !clash e o) := by
  have h1 := (idxE_any (fun x => decide (x.2.1 = e.2.1 ∧ x.2.2.1 = e.2.2.1)) l 0).1
  have h2 := atE_range e.2.1 e.2.2.1 l
  have e3 : atE e.2.1 e.2.2.1 l = idxE (fun x => decide (x.2.1 = e.2.1 ∧ x.2.2.1 = e.2.2.1)) 0 l := rfl
  rw [Bool.eq_iff_iff, Bool.and_eq_true, Bool.not_eq_true', decide_eq_true_eq, List.all_eq_true]
  have h4 : takenE l e.2.2.2 = false ↔ ∀ o ∈ l, o.2.2.2 ≠ e.2.2.2 := by
    rw [takenE, List.any_eq_false]
    simp
  have h5 : atE e.2.1 e.2.2.1 l < 0 ↔ ∀ o ∈ l, ¬ (o.2.1 = e.2.1 ∧ o.2.2.1 = e.2.2.1) := by
    have : ¬ (0 ≤ atE e.2.1 e.2.2.1 l) ↔ ∀ o ∈ l, ¬ (o.2.1 = e.2.1 ∧ o.2.2.1 = e.2.2.1) := by
      rw [e3, h1, Bool.not_eq_true, List.any_eq_false]
      simp
    rw [← this]
    omega
  rw [h4, h5]
  constructor
  · rintro ⟨a, b⟩ o ho
    rw [Bool.not_eq_true', clash, decide_eq_false_iff_not]
    rintro (h | h)
    · exact a o ho h
    · exact b o ho h
  · intro a
    constructor
    · intro o ho h
      have := a o ho
      rw [Bool.not_eq_true', clash, decide_eq_false_iff_not] at this
      exact this (.inl h)
    · intro o ho h
      have := a o ho
      rw [Bool.not_eq_true', clash, decide_eq_false_iff_not] at this
      exact this (.inr h)
/-- An entry is right, its slot too. -/
def goodE (e : En) : Prop := rightP e ∧ 0 ≤ e.2.2.2 ∧ e.2.2.2 < 6
/-- Entries that a directory can have. -/
def validE (es : List En) : Prop := (∀ e ∈ es, goodE e) ∧ es.Pairwise (fun o e => clash e o = false)
theorem validE_snoc {es : List En} {e : En} : validE (es ++ [e]) ↔ validE es ∧ goodE e ∧ ∀ o ∈ es, clash e o = false := by
  unfold validE
  rw [List.pairwise_append]
  constructor
  · rintro ⟨h1, h2, _, h3⟩
    exact ⟨⟨fun x hx => h1 x (List.mem_append_left _ hx), h2⟩, h1 e (List.mem_append_right _ (List.mem_singleton_self e)), fun o ho => h3 o ho e (List.mem_singleton_self e)⟩
  · rintro ⟨⟨h1, h2⟩, h3, h4⟩
    refine ⟨fun x hx => ?_, h2, List.pairwise_singleton _ _, fun o ho x hx => ?_⟩
    · rcases List.mem_append.1 hx with h | h
      · exact h1 x h
      · rw [List.mem_singleton.1 h]; exact h3
    · rw [List.mem_singleton.1 hx]; exact h4 o ho
theorem goodD_valid (d : List UInt8) : ∀ n : Nat, goodD d n = true ↔ validE (dirD d n)
  | 0 => by
    have e : dirD d 0 = [] := rfl
    rw [e]
    exact ⟨fun _ => ⟨fun e h => (by cases h), List.Pairwise.nil⟩, fun _ => rfl⟩
  | n + 1 => by
    rw [goodD_next, dirD_next, validE_snoc, Bool.and_eq_true, goodD_valid d n]
    refine and_congr_right fun _ => ?_
    have hc := no_clash (entA d (3 + 5 * n)) (dirD d n)
    have h1 := by1_nat d (3 + 5 * n + 4)
    have h2 : (entA d (3 + 5 * n)).2.2.2 = by1 d (3 + 5 * n + 4) := rfl
    unfold stepD
    rw [Bool.and_assoc, Bool.and_eq_true, hc, Bool.and_eq_true, decide_eq_true_eq, decide_eq_true_eq, List.all_eq_true, goodE]
    constructor
    · rintro ⟨⟨a, b⟩, c⟩
      exact ⟨⟨a, by omega, b⟩, fun o ho => by simpa using c o ho⟩
    · rintro ⟨⟨a, _, b⟩, c⟩
      exact ⟨⟨a, b⟩, fun o ho => by simpa using c o ho⟩
/-! ### A directory laid -/
theorem flat_at : ∀ (es : List En) (i k : Nat), i < es.length → k < 5 → (es.flatMap entB).getD (5 * i + k) 0 = (entB (es.getD i default)).getD k 0
  | [], i, k, h, _ => by cases h
  | e :: r, 0, k, _, hk => by
    rw [List.flatMap_cons, List.getD_eq_getElem?_getD, List.getElem?_append_left (by show 5 * 0 + k < 5; omega), show 5 * 0 + k = k by omega]
    rfl
  | e :: r, i + 1, k, h, hk => by
    have h5 : (entB e).length = 5 := rfl
    rw [List.flatMap_cons, List.getD_eq_getElem?_getD, List.getElem?_append_right (by omega), h5, show 5 * (i + 1) + k - 5 = 5 * i + k by omega, ← List.getD_eq_getElem?_getD, flat_at r i k (by simpa using h) hk]
    rfl
theorem listB_len (q : Int) (es : List En) : (listB q es).length = 3 + 5 * es.length := by
  rw [listB, listP, List.length_append, ents_len]; rfl
theorem pad_at {bs : List UInt8} {i : Nat} (h : i < bs.length) : (pad bs).getD i 0 = bs.getD i 0 := by
  rw [pad, List.getD_eq_getElem?_getD, List.getElem?_append_left h, List.getD_eq_getElem?_getD]
theorem listB_at (q : Int) (es : List En) {i k : Nat} (hi : i < es.length) (hk : k < 5) : (pad (listB q es)).getD (3 + 5 * i + k) 0 = (entB (es.getD i default)).getD k 0 := by
  rw [pad_at (by rw [listB_len]; omega), listB, listP, List.getD_eq_getElem?_getD, List.getElem?_append_right (by show 3 ≤ _; omega), show 3 + 5 * i + k - [UInt8.ofNat (q.toNat / 256), UInt8.ofNat q.toNat, UInt8.ofNat es.length].length = 5 * i + k by show _ - 3 = _; omega, ← List.getD_eq_getElem?_getD, flat_at es i k hi hk]
theorem okE_good {e : En} (h : goodE e) : okE e := by
  obtain ⟨⟨h1, h2, h3, h4, h5, h6⟩, h7, h8⟩ := h
  exact ⟨by omega, by omega, by omega, by omega, by omega, by omega, by omega, by omega⟩
theorem entA_laid (q : Int) (es : List En) {i : Nat} (hi : i < es.length) (ho : okE (es.getD i default)) : entA (pad (listB q es)) (3 + 5 * i) = es.getD i default := by
  have h := fun k (hk : k < 5) => listB_at q es hi hk
  generalize hx : es.getD i default = e at ho h
  obtain ⟨k, o, d, s⟩ := e
  obtain ⟨a1, a2, a3, a4, a5, a6, a7, a8⟩ := ho
  dsimp only at a1 a2 a3 a4 a5 a6 a7 a8
  have h0 : by1 (pad (listB q es)) (3 + 5 * i) = k := by1_of (h 0 (by decide)) a1 a2
  have h1 : by1 (pad (listB q es)) (3 + 5 * i + 1) = o := by1_of (h 1 (by decide)) a3 a4
  have h2 : by2 (pad (listB q es)) (3 + 5 * i + 2) = d := by2_of (h 2 (by decide)) (h 3 (by decide)) a5 a6
  have h4 : by1 (pad (listB q es)) (3 + 5 * i + 4) = s := by1_of (h 4 (by decide)) a7 a8
  rw [entA, h0, h1, h2, h4]
theorem dirD_laid (q : Int) (es : List En) (ho : ∀ e ∈ es, okE e) : dirD (pad (listB q es)) es.length = es := by
  apply List.ext_getElem?
  intro i
  rcases Nat.lt_or_ge i es.length with h | h
  · have e := entA_laid q es h (ho _ (getD_mem h))
    rw [dirD, List.getElem?_map, List.getElem?_range h, Option.map_some, e, List.getD_eq_getElem?_getD, List.getElem?_eq_getElem h]
    rfl
  · rw [List.getElem?_eq_none (by rw [dirD_len]; exact h), List.getElem?_eq_none h]
/-- A directory that is laid is right, and says what was laid. -/
theorem laid_ok {q : Int} {es : List En} (h1 : 1 ≤ q) (h2 : q ≤ 65535) (h5 : es.length ≤ 5) (hv : validE es) : okB (sectB (listB q es)) = true ∧ by2 ((sectB (listB q es)).take 30) 0 = q ∧ entsD ((sectB (listB q es)).take 30) = es := by
  have hpl : (pad (listB q es)).length = 30 := pad_len (by rw [listB_len]; omega)
  have ht : (sectB (listB q es)).take 30 = pad (listB q es) := by
    rw [sectB, sealed, List.take_append_of_le_length (by omega), List.take_of_length_le (by omega)]
  have hl : (sectB (listB q es)).length = 32 := by rw [sectB, sealed_length, hpl]
  have hat : ∀ j, j < 3 → (pad (listB q es)).getD j 0 = [UInt8.ofNat (q.toNat / 256), UInt8.ofNat q.toNat, UInt8.ofNat es.length].getD j 0 := fun j hj => by
    rw [pad_at (by rw [listB_len]; omega), listB, listP, List.getD_eq_getElem?_getD, List.getElem?_append_left (by show j < 3; exact hj), List.getD_eq_getElem?_getD]
  have hq : by2 (pad (listB q es)) 0 = q := by2_of (hat 0 (by decide)) (hat 1 (by decide)) (by omega) h2
  have hn : by1 (pad (listB q es)) 2 = (es.length : Int) := by1_of (n := (es.length : Int)) (hat 2 (by decide)) (by omega) (by omega)
  have hd := dirD_laid q es (fun e he => okE_good (hv.1 e he))
  have hents : entsD (pad (listB q es)) = es := by rw [entsD, hn, Int.toNat_natCast, hd]
  refine ⟨?_, by rw [ht, hq], by rw [ht, hents]⟩
  unfold okB
  rw [ht, hq, hents, Bool.and_eq_true, Bool.and_eq_true, decide_eq_true_eq, decide_eq_true_eq]
  refine ⟨⟨rfl, ?_⟩, rfl⟩
  unfold headD
  rw [hq, hn, Int.toNat_natCast, Bool.and_eq_true, Bool.and_eq_true, decide_eq_true_eq, decide_eq_true_eq, goodD_valid, hd]
  exact ⟨⟨h1, by omega⟩, hv⟩
/-! ### Sectors of a card -/
theorem sec_set_same {xs ys : List UInt8} {i : Nat} (h : xs.length = 512) (hi : i ≤ 15) (hy : ys.length = 32) : secOf (setSec xs i ys) i = ys := by
  rw [secOf, setSec, List.drop_left' (by rw [List.length_take]; omega), List.take_left' hy]
theorem sec_set_other {xs ys : List UInt8} {i j : Nat} (h : xs.length = 512) (hi : i ≤ 15) (hj : j ≤ 15) (hy : ys.length = 32) (hne : i ≠ j) : secOf (setSec xs i ys) j = secOf xs j := by
  unfold secOf setSec
  apply List.ext_getElem?
  intro k
  rw [List.getElem?_take, List.getElem?_take]
  split
  · rename_i hk
    rw [List.getElem?_drop, List.getElem?_drop]
    rcases Nat.lt_or_ge (32 * j + k) (32 * i) with h1 | h1
    · rw [List.getElem?_append_left (by rw [List.length_take]; omega), List.getElem?_take, if_pos h1]
    · have : i < j := by omega
      rw [List.getElem?_append_right (by rw [List.length_take]; omega), List.getElem?_append_right (by rw [List.length_take]; omega), List.getElem?_drop, List.length_take, hy]
      congr 1
      omega
  · rfl
/-- What a card's best copy is. -/
theorem bestF_is (xs : List UInt8) : (bestF xs 2 = (0, 0, []) ∧ ∀ i, 1 ≤ i → i ≤ 2 → okB (secOf xs i) = false) ∨ ∃ t : Nat, (t = 1 ∨ t = 2) ∧ okB (secOf xs t) = true ∧ bestF xs 2 = (by2 ((secOf xs t).take 30) 0, (t : Int), entsD ((secOf xs t).take 30)) := by
  have hp : ∀ i, okB (secOf xs i) = true → 1 ≤ by2 ((secOf xs i).take 30) 0 := fun i h => by
    simp only [okB, headD, Bool.and_eq_true, decide_eq_true_eq] at h
    exact h.1.2.1.1
  have e1 : bestF xs 1 = if okB (secOf xs 1) = true ∧ 0 < by2 ((secOf xs 1).take 30) 0 then (by2 ((secOf xs 1).take 30) 0, ((1 : Nat) : Int), entsD ((secOf xs 1).take 30)) else (0, 0, []) := rfl
  have e2 : bestF xs 2 = if okB (secOf xs 2) = true ∧ (bestF xs 1).1 < by2 ((secOf xs 2).take 30) 0 then (by2 ((secOf xs 2).take 30) 0, ((2 : Nat) : Int), entsD ((secOf xs 2).take 30)) else bestF xs 1 := rfl
  by_cases h2 : okB (secOf xs 2) = true ∧ (bestF xs 1).1 < by2 ((secOf xs 2).take 30) 0
  · right
    exact ⟨2, .inr rfl, h2.1, by rw [e2, if_pos h2]⟩
  · rw [if_neg h2] at e2
    by_cases h1 : okB (secOf xs 1) = true
    · right
      refine ⟨1, .inl rfl, h1, ?_⟩
      rw [e2, e1, if_pos ⟨h1, by have := hp 1 h1; omega⟩]
    · left
      rw [if_neg (fun h => h1 h.1)] at e1
      rw [e1] at e2 h2
      refine ⟨e2, fun i a b => ?_⟩
      obtain rfl | rfl : i = 1 ∨ i = 2 := by omega
      · simpa using h1
      · cases h3 : okB (secOf xs 2) with
        | false => rfl
        | true => exact absurd ⟨h3, by have := hp 2 h3; dsimp only; omega⟩ h2
/-- A card that says something: its number of changes, its copy, its entries. -/
structure Says (xs : List UInt8) (q : Int) (t : Nat) (es : List En) : Prop where
  len : xs.length = 512
  sld : sealed ((secOf xs 0).take (32 - 2)) = secOf xs 0
  face : faceOk (secOf xs 0)
  best : bestF xs 2 = (q, (t : Int), es)
  copy : t = 1 ∨ t = 2
theorem Says.facts {xs : List UInt8} {q : Int} {t : Nat} {es : List En} (h : Says xs q t es) : 1 ≤ q ∧ q ≤ 65535 ∧ es.length ≤ 5 ∧ validE es ∧ okB (secOf xs t) = true ∧ by2 ((secOf xs t).take 30) 0 = q ∧ entsD ((secOf xs t).take 30) = es := by
  have ht := h.copy
  rcases bestF_is xs with ⟨h1, _⟩ | ⟨t2, ht2, hok, h1⟩
  · have := h.best
    rw [h1] at this
    simp only [Prod.mk.injEq] at this
    omega
  · have hb := h.best
    rw [h1] at hb
    simp only [Prod.mk.injEq] at hb
    obtain ⟨h2, h3, h4⟩ := hb
    obtain rfl : t2 = t := by omega
    have hok2 := hok
    simp only [okB, headD, Bool.and_eq_true, decide_eq_true_eq] at hok2
    obtain ⟨⟨_, ⟨h5, h6⟩, h7⟩, _⟩ := hok2
    have h8 := by1_nat ((secOf xs t2).take 30) 2
    rw [goodD_valid] at h7
    refine ⟨by omega, ?_, ?_, ?_, hok, h2, h4⟩
    · rw [← h2, by2]
      have h1 := (((secOf xs t2).take 30).getD 0 0).toNat_lt
      have h2 := (((secOf xs t2).take 30).getD (0 + 1) 0).toNat_lt
      omega
    · rw [← h4, entsD, dirD_len]; omega
    · rw [← h4]; exact h7
theorem bestF_two (zs : List UInt8) : bestF zs 2 = if okB (secOf zs 2) = true ∧ (bestF zs 1).1 < by2 ((secOf zs 2).take 30) 0 then (by2 ((secOf zs 2).take 30) 0, ((2 : Nat) : Int), entsD ((secOf zs 2).take 30)) else bestF zs 1 := rfl
theorem bestF_one (zs : List UInt8) : bestF zs 1 = if okB (secOf zs 1) = true ∧ 0 < by2 ((secOf zs 1).take 30) 0 then (by2 ((secOf zs 1).take 30) 0, ((1 : Nat) : Int), entsD ((secOf zs 1).take 30)) else (0, 0, []) := rfl
/-- The other copy is written. -/
theorem Says.put {xs : List UInt8} {q : Int} {t u : Nat} {es es2 : List En} (h : Says xs q t es) (hu : 3 - (t : Int) = (u : Int)) (hq : q + 1 ≤ 65535) (h5 : es2.length ≤ 5) (hv : validE es2) : Says (setSec xs u (sectB (listB (q + 1) es2))) (q + 1) u es2 := by
  obtain ⟨f1, f2, f3, f4, f5, f6, f7⟩ := h.facts
  obtain ⟨l1, l2, l3⟩ := laid_ok (q := q + 1) (es := es2) (by omega) hq h5 hv
  have hsl : (sectB (listB (q + 1) es2)).length = 32 := by rw [sectB, sealed_length, pad_len (by rw [listB_len]; omega)]
  have ht := h.copy
  have hl := h.len
  have h0 : secOf (setSec xs u (sectB (listB (q + 1) es2))) 0 = secOf xs 0 := sec_set_other hl (by omega) (by omega) hsl (by omega)
  have hs : secOf (setSec xs u (sectB (listB (q + 1) es2))) u = sectB (listB (q + 1) es2) := sec_set_same hl (by omega) hsl
  have ho : secOf (setSec xs u (sectB (listB (q + 1) es2))) t = secOf xs t := sec_set_other hl (by omega) (by omega) hsl (by omega)
  refine ⟨setSec_len hl (by omega) hsl, by rw [h0]; exact h.sld, by rw [h0]; exact h.face, ?_, by omega⟩
  rcases ht with rfl | rfl
  · obtain rfl : u = 2 := by omega
    rw [bestF_two, bestF_one, hs, ho, f5, f6, f7, l1, l2, l3, if_pos (⟨rfl, by omega⟩ : true = true ∧ 0 < q)]
    exact if_pos ⟨rfl, by dsimp only; omega⟩
  · obtain rfl : u = 1 := by omega
    rw [bestF_two, bestF_one, hs, ho, f5, f6, f7, l1, l2, l3, if_pos (⟨rfl, by omega⟩ : true = true ∧ 0 < q + 1)]
    exact if_neg (fun h => by have := h.2; dsimp only at this; omega)
end Go.Proofs.Yteopadjihklkmaa
end

section
namespace Go.Proofs.Yteopadjihklkmaa
open Go Go.Proofs
set_option maxRecDepth 100000
set_option maxHeartbeats 4000000
set_option linter.unusedSimpArgs false
set_option linter.unusedVariables false
theorem u8a {n : Nat} (h : n < 256) : ((n : Nat) : Int) = (((UInt8.ofNat n).toNat : Nat) : Int) := by rw [UInt8.toNat_ofNat']; omega
theorem u8b (n : Nat) : ((n : Nat) : Int) % 256 = (((UInt8.ofNat n).toNat : Nat) : Int) := by rw [UInt8.toNat_ofNat']; omega
theorem B_head {Q n : Nat} (hq : Q ≤ 65535) (hn : n ≤ 255) : [Value.int .u8 ((Q / 256 : Nat) : Int), Value.int .u8 ((Q : Int) % 256), Value.int .u8 (n : Int)] = B (listP (Q : Int) n []) := by
  rw [u8a (n := Q / 256) (by omega), u8b, u8a (n := n) (by omega)]
  rfl
theorem B_ent {k o d s : Nat} (hk : k ≤ 255) (ho : o ≤ 255) (hd : d ≤ 65535) (hs : s ≤ 255) : [Value.int .u8 (k : Int), Value.int .u8 (o : Int), Value.int .u8 ((d / 256 : Nat) : Int), Value.int .u8 ((d : Int) % 256), Value.int .u8 (s : Int)] = B (entB ((k : Int), (o : Int), (d : Int), (s : Int))) := by
  have e : B (entB ((k : Int), (o : Int), (d : Int), (s : Int))) = [Value.int .u8 (((UInt8.ofNat k).toNat : Nat) : Int), Value.int .u8 (((UInt8.ofNat o).toNat : Nat) : Int), Value.int .u8 (((UInt8.ofNat (d / 256)).toNat : Nat) : Int), Value.int .u8 (((UInt8.ofNat d).toNat : Nat) : Int), Value.int .u8 (((UInt8.ofNat s).toNat : Nat) : Int)] := rfl
  rw [e, ← u8a (n := k) (by omega), ← u8a (n := o) (by omega), ← u8a (n := d / 256) (by omega), ← u8b, ← u8a (n := s) (by omega)]
theorem B_sealed (l : List UInt8) : B l ++ [Value.int .u8 (((sum l).toNat / 256 : Nat) : Int), Value.int .u8 (((sum l).toNat : Int) % 256)] = B (sealed l) := by
  have h := sum_lt l
  have e1 : (hiB l).toNat = (sum l).toNat / 256 := by
    simp only [hiB, UInt8.toNat_ofNat']
    omega
  have e2 : (((loB l).toNat : Nat) : Int) = ((sum l).toNat : Int) % 256 := by
    simp only [loB, UInt8.toNat_ofNat']
    omega
  have e3 : B (sealed l) = B l ++ [Value.int .u8 (((hiB l).toNat : Nat) : Int), Value.int .u8 (((loB l).toNat : Nat) : Int)] := by simp [sealed, B]
  rw [e3, e1, e2]
section
variable {w0 : World} {A : Asn} {u : Value} {m : Nat} {bs xs : List UInt8}
theorem s52 (rd : Rd w0 A u 1 m (B bs)) (hm : m ≤ 30) : Spec Try.prog w0 52 [u] A (fun v' A' => ∃ J, A' = A * J * own 5 1 v' 32 (B (sectB bs))) := by
  have hl := rd.lenB
  subst hl
  have hmx := rd.max
  have hpl := pad_len hm
  have asBytes : True := trivial
  refine Spec.of_run [(0, u)] Try.func52 rfl (Nat.le_of_ble_eq_true rfl) (by repeat (first | exact trivial | refine ⟨rfl, ?_⟩)) ?_
  refine Run.seq ?_
  refine Run.region ?_
  refine RunL.ok (OpOk.assign rfl) rfl ?_
  refine RunL.nil ?_
  refine Run.seq ?_
  refine Run.region ?_
  refine RunL.makeB (m := 30) rfl ti5 rfl rfl (by omega) rfl (fun vx1 rdx1 => ?_)
  refine RunL.ok (OpOk.assign rfl) rfl ?_
  refine RunL.nil ?_
  refine Run.seq ?_
  refine Run.seq ?_
  refine Run.region ?_
  refine RunL.ok (OpOk.assign rfl) rfl ?_
  refine RunL.nil ?_
  refine Run.block ?_
  refine Run.jump ((Run.loopJ (X := Nat) (fun x => [(4, .int .i64 (x : Int)), (3, vx1), (0, u)]) (fun x => A * own 5 1 vx1 30 (B (bs.take x ++ List.replicate (30 - x) 0))) (fun x => x ≤ bs.length) (fun x => bs.length - x) 0 (Nat.zero_le _) (fun x hx ih => ?_))) ⟨rfl, rfl, rfl, trivial⟩ (Grew.of (frc rfl rfl) (Grew.refl _))
  rcases Nat.lt_or_ge x bs.length with hlt | hge
  · have hst : (bs.take x ++ List.replicate (30 - x) 0).set x (bs.getD x 0) = bs.take (x + 1) ++ List.replicate (30 - (x + 1)) 0 := by
      rw [List.set_append_right _ _ (by rw [List.length_take]; omega), List.length_take, show x - min x bs.length = 0 by omega, take_next hlt, show 30 - x = (30 - (x + 1)) + 1 by omega, List.replicate_succ, List.set_cons_zero, List.append_assoc]
      rfl
    refine Run.seq ?_
    refine Run.seq ?_
    refine Run.region ?_
    refine RunL.ok (OpOk.move rfl) rfl ?_
    refine RunL.ok (OpOk.move rfl) rfl ?_
    refine RunL.ok (OpOk.lenR rfl rfl rd.left rfl) rfl ?_
    refine RunL.ok (OpOk.asT (OpOk.lss rfl rfl) (by omega)) rfl ?_
    refine RunL.nil ?_
    refine Run.condT rfl ?_
    refine Run.skip ?_
    refine Run.seq ?_
    refine Run.block ?_
    refine Run.region ?_
    refine RunL.ok (OpOk.move rfl) rfl ?_
    refine RunL.ok (OpOk.move rfl) rfl ?_
    refine RunL.ok (OpOk.move rfl) rfl ?_
    refine RunL.ok (OpOk.move rfl) rfl ?_
    refine RunL.ok (OpOk.idx1N rfl ti5 rfl rd.left rfl (by omega)) rfl ?_
    refine RunL.ok (OpOk.load rfl rfl rfl (Rd.getB rd.left (by omega))) rfl ?_
    refine RunL.know (fun w s => (s.conv rfl).ownRd0) (fun rdy1 => ?_)
    refine RunL.ok (OpOk.idx1N rfl ti5 rfl (Rd.right rdy1) rfl (by omega)) rfl ?_
    refine RunL.storeB _ ti5 rfl rfl rfl rfl (by omega) ?_
    refine RunL.nil ?_
    refine Run.inBlock ?_
    refine Run.region ?_
    refine RunL.ok (OpOk.move rfl) rfl ?_
    refine RunL.ok (OpOk.addN _ 1 rfl rfl rfl rfl (by omega)) rfl ?_
    refine RunL.ok (OpOk.assign rfl) rfl ?_
    refine RunL.nil ?_
    rw [hst]
    refine Run.jump ((ih (x + 1) (by omega) (by omega))) ⟨rfl, rfl, rfl, trivial⟩ ((Grew.refl _))
  · obtain rfl : x = bs.length := by omega
    clear ih
    rw [List.take_length, ← pad]
    refine Run.seq ?_
    refine Run.seq ?_
    refine Run.region ?_
    refine RunL.ok (OpOk.move rfl) rfl ?_
    refine RunL.ok (OpOk.move rfl) rfl ?_
    refine RunL.ok (OpOk.lenR rfl rfl rd.left rfl) rfl ?_
    refine RunL.ok (OpOk.asF (OpOk.lss rfl rfl) (by omega)) rfl ?_
    refine RunL.nil ?_
    refine Run.condF rfl ?_
    refine Run.exit rfl ?_
    refine Run.seq ?_
    refine Run.region ?_
    refine RunL.ok (OpOk.move rfl) rfl ?_
    refine RunL.know (fun w s => (s.conv rfl).ownRd0) (fun rdy1 => ?_)
    refine RunL.call cal79 rfl (s79 (Rd.right rdy1)) rfl (fun vy2 Ay2 hy2 => ?_)
    obtain ⟨rfl, rfl⟩ := hy2
    refine RunL.ok (OpOk.assign rfl) rfl ?_
    refine RunL.nil ?_
    refine Run.seq ?_
    refine Run.region ?_
    refine RunL.ok (OpOk.move rfl) rfl ?_
    refine RunL.ok (OpOk.move rfl) rfl ?_
    refine RunL.ok (OpOk.quoN _ 256 rfl rfl rfl rfl (by omega) (by omega)) rfl ?_
    refine RunL.ok (OpOk.convInt rfl rfl rfl (wrapU8 (by omega) (by omega))) rfl ?_
    refine RunL.ok (OpOk.move rfl) rfl ?_
    refine RunL.ok (OpOk.convInt rfl rfl rfl (wrapU8m _)) rfl ?_
    refine RunL.lits rfl ti5 rfl rfl rfl (by simp [Value.cells]) (by decide) rfl (fun vy3 rdy3 => ?_)
    refine RunL.know (fun w s => (s.conv rfl).ownRd0) (fun rdy5 => ?_)
    refine RunL.append rfl ti5 rfl rfl rfl (frl rfl) (Rd.right rdy5) (by first | assumption | simp [Value.oneCell']) rfl (by decide) (by omega) (by simp only [maxLen]; omega) rfl (fun vy4 rdy4 => ?_)
    refine RunL.ok (OpOk.assign rfl) rfl ?_
    refine RunL.nil ?_
    refine Run.ret1 Try.func52 rfl rfl ?_
    rw [B_sealed, ← sectB, show 30 + 2 = 32 from rfl]
    exact out_of (by repeat (first | exact Grew.refl _ | refine Grew.mul ?_ _))
theorem s53 {q : Int} {es : List En} (rd : Rd w0 A u 4 m (Fl encT111 es)) (hq : 0 ≤ q) (hq2 : q ≤ 65535) (hm : m ≤ 255) (hes : ∀ e ∈ es, okE e) : Spec Try.prog w0 53 [.int .i64 q, u] A (fun v' A' => ∃ J, A' = A * J * own 5 1 v' (3 + 5 * m) (B (listB q es))) := by
  have hl := rd.lenFl (fun _ => rfl) (by decide)
  subst hl
  have hmx := rd.max
  have asBytes : True := trivial
  obtain ⟨Q, rfl⟩ := Int.eq_ofNat_of_zero_le hq
  refine Spec.of_run [(0, .int .i64 (Q : Int)), (1, u)] Try.func53 rfl (Nat.le_of_ble_eq_true rfl) (by repeat (first | exact trivial | refine ⟨rfl, ?_⟩)) ?_
  refine Run.seq ?_
  refine Run.region ?_
  refine RunL.ok (OpOk.assign rfl) rfl ?_
  refine RunL.nil ?_
  refine Run.seq ?_
  refine Run.region ?_
  refine RunL.ok (OpOk.move rfl) rfl ?_
  refine RunL.ok (OpOk.quoN _ 256 rfl rfl rfl rfl (by omega) (by omega)) rfl ?_
  refine RunL.ok (OpOk.convInt rfl rfl rfl (wrapU8 (by omega) (by omega))) rfl ?_
  refine RunL.ok (OpOk.move rfl) rfl ?_
  refine RunL.ok (OpOk.convInt rfl rfl rfl (wrapU8m _)) rfl ?_
  refine RunL.ok (OpOk.move rfl) rfl ?_
  refine RunL.ok (OpOk.lenR rfl rfl rd rfl) rfl ?_
  refine RunL.ok (OpOk.convInt rfl rfl rfl (wrapU8 (by omega) (by omega))) rfl ?_
  refine RunL.lits rfl ti5 rfl rfl rfl (by simp [Value.cells]) (by decide) rfl (fun vx1 rdx1 => ?_)
  refine RunL.ok (OpOk.assign rfl) rfl ?_
  refine RunL.nil ?_
  refine Run.seq ?_
  refine Run.seq ?_
  refine Run.region ?_
  refine RunL.ok (OpOk.assign rfl) rfl ?_
  refine RunL.nil ?_
  refine Run.block ?_
  rw [B_head (by omega) (by omega)]
  refine Run.mem (A' := A * emp * own 5 1 vx1 3 (B (listP (Q : Int) es.length []))) (by rw [sep_emp]) ?_
  refine Run.jump ((Run.loopJ (X := Nat × Asn × Value) (fun x => [(6, .int .i64 (x.1 : Int)), (5, x.2.2), (1, u)]) (fun x => A * x.2.1 * own 5 1 x.2.2 (3 + 5 * x.1) (B (listP (Q : Int) es.length (es.take x.1)))) (fun x => x.1 ≤ es.length) (fun x => es.length - x.1) (0, emp, vx1) (Nat.zero_le _) (fun x hx ih => ?_))) ⟨rfl, rfl, rfl, trivial⟩ (Grew.of (frc rfl rfl) (Grew.refl _))
  obtain ⟨i, J, v⟩ := x
  simp only at hx ih ⊢
  rcases Nat.lt_or_ge i es.length with hlt | hge
  · have hoke := hes _ (getD_mem hlt)
    have htk : listP (Q : Int) es.length (es.take i) ++ entB (es.getD i default) = listP (Q : Int) es.length (es.take (i + 1)) := by
      rw [listP, listP, take_next hlt, List.flatMap_append, List.append_assoc]; simp
    obtain ⟨e, hoe⟩ : ∃ e, es.getD i default = e := ⟨_, rfl⟩
    rw [hoe] at hoke htk
    obtain ⟨k, o, d, s⟩ := e
    obtain ⟨a1, a2, a3, a4, a5, a6, a7, a8⟩ := hoke
    dsimp only at a1 a2 a3 a4 a5 a6 a7 a8
    obtain ⟨k, rfl⟩ := Int.eq_ofNat_of_zero_le a1
    obtain ⟨o, rfl⟩ := Int.eq_ofNat_of_zero_le a3
    obtain ⟨d, rfl⟩ := Int.eq_ofNat_of_zero_le a5
    obtain ⟨s, rfl⟩ := Int.eq_ofNat_of_zero_le a7
    refine Run.seq ?_
    refine Run.seq ?_
    refine Run.region ?_
    refine RunL.ok (OpOk.move rfl) rfl ?_
    refine RunL.ok (OpOk.move rfl) rfl ?_
    refine RunL.ok (OpOk.lenR rfl rfl rd.left.left rfl) rfl ?_
    refine RunL.ok (OpOk.asT (OpOk.lss rfl rfl) (by omega)) rfl ?_
    refine RunL.nil ?_
    refine Run.condT rfl ?_
    refine Run.skip ?_
    refine Run.seq ?_
    refine Run.block ?_
    refine Run.know (fun w s => (s.conv rfl).ownRd0) (fun rdy1 => ?_)
    (apply Run.drawD [34] (by rfl) (Eq.trans rfl rfl); case hchk => kernel_rfl)
    refine Sd.quiet 0 _ _ rfl rfl rfl rfl rfl (QOp.ok (fun X => OpOk.move rfl)) ?_
    refine Sd.quiet 1 _ _ rfl rfl rfl rfl rfl (QOp.ok (fun X => OpOk.move rfl)) ?_
    refine Sd.quiet 2 _ _ rfl rfl rfl rfl rfl (QOp.ok (fun X => OpOk.move rfl)) ?_
    refine Sd.quiet 3 _ _ rfl rfl rfl rfl rfl (QOp.ok (fun X => OpOk.idxN rfl ti111 rfl rd.left.left.left rfl (by omega))) ?_
    refine Sd.quiet 4 _ _ rfl rfl rfl rfl rfl (QOp.ok (fun X => OpOk.fieldAddrA fld111_0 rfl)) ?_
    refine Sd.quiet 5 _ _ rfl rfl rfl rfl rfl (QOp.ok (fun X => OpOk.loadFl1E hoe rfl rfl rfl rd.left.left.left (fun _ => rfl) rfl (by omega) rfl)) ?_
    refine Sd.quiet 6 _ _ rfl rfl rfl rfl rfl (QOp.ok (fun X => OpOk.convInt rfl rfl rfl (wrapU8 (by omega) (by omega)))) ?_
    refine Sd.quiet 7 _ _ rfl rfl rfl rfl rfl (QOp.ok (fun X => OpOk.move rfl)) ?_
    refine Sd.quiet 8 _ _ rfl rfl rfl rfl rfl (QOp.ok (fun X => OpOk.move rfl)) ?_
    refine Sd.quiet 9 _ _ rfl rfl rfl rfl rfl (QOp.ok (fun X => OpOk.idxN rfl ti111 rfl rd.left.left.left rfl (by omega))) ?_
    refine Sd.quiet 10 _ _ rfl rfl rfl rfl rfl (QOp.ok (fun X => OpOk.fieldAddrA fld111_1 rfl)) ?_
    refine Sd.quiet 11 _ _ rfl rfl rfl rfl rfl (QOp.ok (fun X => OpOk.loadFl1E hoe rfl rfl rfl rd.left.left.left (fun _ => rfl) rfl (by omega) rfl)) ?_
    refine Sd.quiet 12 _ _ rfl rfl rfl rfl rfl (QOp.ok (fun X => OpOk.convInt rfl rfl rfl (wrapU8 (by omega) (by omega)))) ?_
    refine Sd.quiet 13 _ _ rfl rfl rfl rfl rfl (QOp.ok (fun X => OpOk.move rfl)) ?_
    refine Sd.quiet 14 _ _ rfl rfl rfl rfl rfl (QOp.ok (fun X => OpOk.move rfl)) ?_
    refine Sd.quiet 15 _ _ rfl rfl rfl rfl rfl (QOp.ok (fun X => OpOk.idxN rfl ti111 rfl rd.left.left.left rfl (by omega))) ?_
    refine Sd.quiet 16 _ _ rfl rfl rfl rfl rfl (QOp.ok (fun X => OpOk.fieldAddrA fld111_2 rfl)) ?_
    refine Sd.quiet 17 _ _ rfl rfl rfl rfl rfl (QOp.ok (fun X => OpOk.loadFl1E hoe rfl rfl rfl rd.left.left.left (fun _ => rfl) rfl (by omega) rfl)) ?_
    refine Sd.quiet 18 _ _ rfl rfl rfl rfl rfl (QOp.ok (fun X => OpOk.quoN _ 256 rfl rfl rfl rfl (by omega) (by omega))) ?_
    refine Sd.quiet 19 _ _ rfl rfl rfl rfl rfl (QOp.ok (fun X => OpOk.convInt rfl rfl rfl (wrapU8 (by omega) (by omega)))) ?_
    refine Sd.quiet 20 _ _ rfl rfl rfl rfl rfl (QOp.ok (fun X => OpOk.move rfl)) ?_
    refine Sd.quiet 21 _ _ rfl rfl rfl rfl rfl (QOp.ok (fun X => OpOk.move rfl)) ?_
    refine Sd.quiet 22 _ _ rfl rfl rfl rfl rfl (QOp.ok (fun X => OpOk.idxN rfl ti111 rfl rd.left.left.left rfl (by omega))) ?_
    refine Sd.quiet 23 _ _ rfl rfl rfl rfl rfl (QOp.ok (fun X => OpOk.fieldAddrA fld111_2 rfl)) ?_
    refine Sd.quiet 24 _ _ rfl rfl rfl rfl rfl (QOp.ok (fun X => OpOk.loadFl1E hoe rfl rfl rfl rd.left.left.left (fun _ => rfl) rfl (by omega) rfl)) ?_
    refine Sd.quiet 25 _ _ rfl rfl rfl rfl rfl (QOp.ok (fun X => OpOk.convInt rfl rfl rfl (wrapU8m _))) ?_
    refine Sd.quiet 26 _ _ rfl rfl rfl rfl rfl (QOp.ok (fun X => OpOk.move rfl)) ?_
    refine Sd.quiet 27 _ _ rfl rfl rfl rfl rfl (QOp.ok (fun X => OpOk.move rfl)) ?_
    refine Sd.quiet 28 _ _ rfl rfl rfl rfl rfl (QOp.ok (fun X => OpOk.idxN rfl ti111 rfl rd.left.left.left rfl (by omega))) ?_
    refine Sd.quiet 29 _ _ rfl rfl rfl rfl rfl (QOp.ok (fun X => OpOk.fieldAddrA fld111_3 rfl)) ?_
    refine Sd.quiet 30 _ _ rfl rfl rfl rfl rfl (QOp.ok (fun X => OpOk.loadFl1E hoe rfl rfl rfl rd.left.left.left (fun _ => rfl) rfl (by omega) rfl)) ?_
    refine Sd.quiet 31 _ _ rfl rfl rfl rfl rfl (QOp.ok (fun X => OpOk.convInt rfl rfl rfl (wrapU8 (by omega) (by omega)))) ?_
    (refine Sd.exec 32 rfl rfl rfl rfl rfl ?hrest (by rfl) (fun Xy2 Ky2 hKy2 => ?_); case hrest => kernel_rfl)
    refine RunL.mem (fl2 (sep_emp _) rfl) ?_
    refine RunL.lits rfl ti5 rfl rfl rfl (by simp [Value.cells]) (by decide) rfl (fun vy3 rdy3 => ?_)
    refine RunL.know (fun w s => (s.conv rfl).ownRd0) (fun rdy4 => ?_)
    refine Sd.ret hKy2 (Eq.trans (frc (frl rfl) rfl) (gp2 rfl rfl)) ⟨_, (emp_sep _).symm⟩ ?_
    (refine Sd.exec 33 rfl rfl rfl rfl rfl ?hrest (by rfl) (fun Xy5 Ky5 hKy5 => ?_); case hrest => kernel_rfl)
    refine RunL.mem (fl2 rfl rfl) ?_
    refine RunL.append rfl ti5 rfl rfl rfl rfl (Rd.right rdy4).left (by first | assumption | simp [Value.oneCell']) rfl (by decide) (by omega) (by simp only [maxLen]; omega) rfl (fun vy6 rdy6 => ?_)
    refine RunL.know (fun w s => (s.conv rfl).ownRd0) (fun rdy7 => ?_)
    refine Sd.ret hKy5 (Eq.trans rfl (gp2 (sep_emp _).symm (asg rfl))) ⟨_, rfl⟩ ?_
    (apply Sd.tail; case hall => kernel_rfl)
    refine RunL.mem (fl2 (flS rfl) (sep_emp _)) ?_
    refine RunL.ok (OpOk.assign rfl) rfl ?_
    refine RunL.nil ?_
    refine Run.inBlock ?_
    refine Run.region ?_
    refine RunL.ok (OpOk.move rfl) rfl ?_
    refine RunL.ok (OpOk.addN _ 1 rfl rfl rfl rfl (by omega)) rfl ?_
    refine RunL.ok (OpOk.assign rfl) rfl ?_
    refine RunL.nil ?_
    rw [B_ent (by omega) (by omega) (by omega) (by omega), ← B_append, htk, show 3 + 5 * i + 5 = 3 + 5 * (i + 1) by omega]
    refine Run.jump ((ih (i + 1, _, vy6) (by dsimp only; omega) (by dsimp only; omega))) ⟨rfl, rfl, rfl, trivial⟩ (Grew.of (congrArg (· * _) (asg as1)) (Grew.refl _))
  · obtain rfl : i = es.length := by omega
    clear ih
    rw [List.take_length]
    refine Run.seq ?_
    refine Run.seq ?_
    refine Run.region ?_
    refine RunL.ok (OpOk.move rfl) rfl ?_
    refine RunL.ok (OpOk.move rfl) rfl ?_
    refine RunL.ok (OpOk.lenR rfl rfl rd.left.left rfl) rfl ?_
    refine RunL.ok (OpOk.asF (OpOk.lss rfl rfl) (by omega)) rfl ?_
    refine RunL.nil ?_
    refine Run.condF rfl ?_
    refine Run.exit rfl ?_
    refine Run.seq ?_
    refine Run.region ?_
    refine RunL.ok (OpOk.move rfl) rfl ?_
    refine RunL.ok (OpOk.assign rfl) rfl ?_
    refine RunL.nil ?_
    refine Run.ret1 Try.func53 rfl rfl ?_
    exact ⟨_, (congrArg (· * _) as1)⟩
end
end Go.Proofs.Yteopadjihklkmaa
end

section
namespace Go.Proofs.Yteopadjihklkmaa
open Go Go.Proofs
set_option maxRecDepth 100000
set_option maxHeartbeats 4000000
set_option linter.unusedSimpArgs false
set_option linter.unusedVariables false
def imgB (bs : List UInt8) : List UInt8 := laid bs (List.replicate 512 0)
theorem imgB_len (bs : List UInt8) : (imgB bs).length = 512 := by rw [imgB, laid_length, List.length_replicate]
section
variable {w0 : World} {A : Asn} {u : Value} {m m2 cap cap2 : Nat} {bs xs : List UInt8} {a b c d : Int} {ad ad2 : Option Addr} {es : List En}
theorem s41 (rd : Rd w0 A u 1 m (B bs)) : Spec Try.prog w0 41 [u] A (fun v' A' => A' = A * own 5 1 v' 512 (B (imgB bs))) := by
  have hl := rd.lenB
  subst hl
  have hmx := rd.max
  refine Spec.of_run [(0, u)] Try.func41 rfl (Nat.le_of_ble_eq_true rfl) (by repeat (first | exact trivial | refine ⟨rfl, ?_⟩)) ?_
  refine Run.seq ?_
  refine Run.region ?_
  refine RunL.ok (OpOk.assign rfl) rfl ?_
  refine RunL.nil ?_
  refine Run.seq ?_
  refine Run.region ?_
  refine RunL.makeB (m := 512) rfl ti5 rfl rfl (by omega) rfl (fun vx1 rdx1 => ?_)
  refine RunL.ok (OpOk.assign rfl) rfl ?_
  refine RunL.nil ?_
  refine Run.seq ?_
  refine Run.region ?_
  refine RunL.ok (OpOk.move rfl) rfl ?_
  refine RunL.ok (OpOk.move rfl) rfl ?_
  refine RunL.copyB rfl ti5 rfl rfl rfl rfl rd.left rfl (fun rdx2 => ?_)
  refine RunL.nil ?_
  refine Run.seq ?_
  refine Run.region ?_
  refine RunL.ok (OpOk.move rfl) rfl ?_
  refine RunL.ok (OpOk.assign rfl) rfl ?_
  refine RunL.nil ?_
  refine Run.ret1 Try.func41 rfl rfl ?_
  exact (frc rfl rfl)
theorem s38 (rd : Rd w0 A u 1 m (B bs)) : Spec Try.prog w0 38 [u] A (fun v' A' => ∃ p J, v' = .pointer (some ⟨p, 0, none⟩) ∧ A' = A * J * pts p (.cells (B (imgB bs) ++ [Value.int .i64 (-1)]).toArray 177 (0, 0))) := by
  have hl := imgB_len bs
  refine Spec.of_run [(0, u)] Try.func38 rfl (Nat.le_of_ble_eq_true rfl) (by repeat (first | exact trivial | refine ⟨rfl, ?_⟩)) ?_
  refine Run.seq ?_
  refine Run.region ?_
  refine RunL.ok (OpOk.assign rfl) rfl ?_
  refine RunL.nil ?_
  refine Run.seq ?_
  refine Run.region ?_
  refine RunL.call cal55 rfl (s55) rfl (fun vx1 Ax1 hx1 => ?_)
  obtain ⟨x2, ⟨rfl, rfl⟩⟩ := hx1
  refine RunL.ok (OpOk.assign rfl) rfl ?_
  refine RunL.nil ?_
  refine Run.seq ?_
  refine Run.seq ?_
  refine Run.region ?_
  refine RunL.ok (OpOk.move rfl) rfl ?_
  refine RunL.ok (OpOk.eqlPN rfl rfl) rfl ?_
  refine RunL.ok (OpOk.move rfl) rfl ?_
  refine RunL.on rfl rfl ?_
  refine RunL.ok (OpOk.move rfl) rfl ?_
  refine RunL.on rfl rfl ?_
  refine RunL.ok (OpOk.move rfl) rfl ?_
  refine RunL.on rfl rfl ?_
  refine RunL.call cal41 rfl (s41 rd.left) rfl (fun vx3 Ax3 hx3 => ?_)
  obtain rfl := hx3
  refine RunL.on rfl rfl ?_
  refine RunL.know (fun w s => (s.conv rfl).ownRd0) (fun rdx4 => ?_)
  refine RunL.mem (frc (frl rfl) rfl) ?_
  refine RunL.call cal81 rfl (s81c (Rd.right rdx4) rfl rfl) rfl (fun vx7 Ax7 hx7 => ?_)
  obtain ⟨rfl, rfl⟩ := hx7
  refine RunL.on rfl rfl ?_
  refine RunL.ok (OpOk.as (c := false) (OpOk.neq rfl rfl) (by rw [decide_eq_true (by omega)]; rfl)) rfl ?_
  refine RunL.ok (OpOk.pickF rfl rfl) rfl ?_
  refine RunL.nil ?_
  refine Run.condF rfl ?_
  refine Run.skip ?_
  refine Run.seq ?_
  refine Run.region ?_
  refine RunL.ok (OpOk.move rfl) rfl ?_
  refine RunL.ok (OpOk.assign rfl) rfl ?_
  refine RunL.nil ?_
  refine Run.ret1 Try.func38 rfl rfl ?_
  exact ⟨_, _, rfl, (congrArg (· * _) as1)⟩
end
end Go.Proofs.Yteopadjihklkmaa
end

section
namespace Go.Proofs.Yteopadjihklkmaa
open Go Go.Proofs
set_option maxRecDepth 100000
set_option maxHeartbeats 4000000
set_option linter.unusedSimpArgs false
set_option linter.unusedVariables false
/-- A row: which sector, what. -/
abbrev Rw := Nat × SV × List UInt8
def encT104 : Rw → List Value := fun (s, v, _) => [.int .i64 (s : Int), v.1]
instance : OneC encT104 := ⟨fun ⟨s, v, b⟩ u hu => by
  simp only [encT104, List.mem_cons, List.not_mem_nil, or_false] at hu
  rcases hu with rfl | rfl
  · rfl
  · exact v.2⟩
def GR (w0 : World) (A : Asn) (p : Rw) : Prop := Rd w0 A p.2.1.1 1 p.2.2.length (B p.2.2)
instance {w0 : World} : Lift (GR w0) := ⟨fun h => Rd.left h, fun h => Rd.right h⟩
def rc (p : Rw) : Nat × List UInt8 := (p.1, p.2.2)
def doneF : List UInt8 → List (Nat × List UInt8) → List UInt8
  | xs, [] => xs
  | xs, (s, b) :: r => doneF (setSec xs s b) r
def okRow (p : Nat × List UInt8) : Prop := p.1 ≤ 15 ∧ p.2.length = 32
theorem doneF_append : ∀ (a b : List (Nat × List UInt8)) (xs : List UInt8), doneF xs (a ++ b) = doneF (doneF xs a) b
  | [], _, _ => rfl
  | (s, c) :: r, b, xs => doneF_append r b (setSec xs s c)
theorem doneF_len : ∀ (l : List (Nat × List UInt8)) (xs : List UInt8), xs.length = 512 → (∀ p ∈ l, okRow p) → (doneF xs l).length = 512
  | [], _, h, _ => h
  | (s, b) :: r, xs, h, ho => by
    have hb := ho (s, b) (List.mem_cons_self ..)
    rw [doneF]
    exact doneF_len r _ (setSec_len h hb.1 hb.2) (fun p hp => ho p (List.mem_cons_of_mem _ hp))
def rowsF : Nat → List (List UInt8) → List (Nat × List UInt8)
  | _, [] => []
  | a, b :: r => (a, b) :: rowsF (a + 1) r
theorem rowsF_len : ∀ (l : List (List UInt8)) (a : Nat), (rowsF a l).length = l.length
  | [], _ => rfl
  | _ :: r, a => by rw [rowsF, List.length_cons, rowsF_len r, List.length_cons]
theorem wrote_all : ∀ (l : List (List UInt8)) (xs : List UInt8) (w : Int) (a : Nat), w < 0 ∨ (l.length : Int) ≤ w → wroteF xs w a l = (doneF xs (rowsF a l), if w < 0 then w else w - l.length, 0)
  | [], xs, w, a, h => by
    rw [wroteF]
    simp [rowsF, doneF]
  | b :: r, xs, w, a, h => by
    rw [List.length_cons] at h ⊢
    rw [wroteF, if_neg (by omega), wrote_all r _ _ _ (by split <;> omega), rowsF, doneF]
    congr 2
    split <;> split <;> first | omega | (split <;> omega)
theorem wrote_part : ∀ (l : List (List UInt8)) (xs : List UInt8) (w a : Nat), w < l.length → wroteF xs (w : Int) a l = (doneF xs ((rowsF a l).take w), 0, 30)
  | [], xs, w, a, h => by simp at h
  | b :: r, xs, 0, a, h => rfl
  | b :: r, xs, w + 1, a, h => by
    rw [List.length_cons] at h
    rw [wroteF, if_neg (by omega), if_pos (by omega), show ((w + 1 : Nat) : Int) - 1 = (w : Int) by omega, wrote_part r _ _ _ (by omega), rowsF, List.take_succ_cons, doneF]
section
variable {w0 : World} {A : Asn} {u r : Value} {m : Nat} {xs : List UInt8} {rows : List Rw}
theorem setByte {xs b : List UInt8} {s k : Nat} (h : xs.length = 512) (hs : s ≤ 15) (hb : b.length = 32) (hk : k < 32) : (xs.take (32 * s) ++ (b.take k ++ xs.drop (32 * s + k))).set (32 * s + k) (b.getD k 0) = xs.take (32 * s) ++ (b.take (k + 1) ++ xs.drop (32 * s + (k + 1))) := by
  have h1 : (xs.take (32 * s)).length = 32 * s := by rw [List.length_take]; omega
  have h2 : (b.take k).length = k := by rw [List.length_take]; omega
  have h3 : xs.drop (32 * s + k) = xs.getD (32 * s + k) 0 :: xs.drop (32 * s + (k + 1)) := drop_next (by omega)
  rw [List.set_append_right _ _ (by omega), h1, show 32 * s + k - 32 * s = k by omega, List.set_append_right _ _ (by omega), h2, Nat.sub_self, h3, List.set_cons_zero, take_next (by omega : k < b.length), List.append_assoc]
  rfl
theorem s54 {n : Int} (rd : Rd w0 A u 1 m (B xs)) (rdr : Rd w0 A r 2 rows.length (Fl encT104 rows)) (al : Alls (GR w0) A rows) (hm : m = 512) (hok : ∀ p ∈ rows, okRow (rc p)) (hn : 0 ≤ n) : Spec Try.prog w0 54 [u, r, .int .i64 n] A (fun v' A' => ∃ J, A' = A * J * own 5 1 v' 512 (B (doneF xs ((rows.map rc).take n.toNat)))) := by
  subst hm
  have hl := rd.lenB
  have hmr := rdr.max
  obtain ⟨N, rfl⟩ := Int.eq_ofNat_of_zero_le hn
  rw [Int.toNat_natCast]
  have hdl : ∀ i, (doneF xs ((rows.map rc).take i)).length = 512 := fun i => doneF_len _ _ hl (fun p hp => by
    have hp := List.mem_of_mem_take hp
    rw [List.mem_map] at hp
    obtain ⟨q, hq, rfl⟩ := hp
    exact hok q hq)
  have hdn : ∀ i, i < rows.length → doneF xs ((rows.map rc).take (i + 1)) = setSec (doneF xs ((rows.map rc).take i)) (rows.getD i default).1 (rows.getD i default).2.2 := fun i hi => by
    have e : (rows.map rc).getD i default = ((rows.getD i default).1, (rows.getD i default).2.2) := by
      rw [List.getD_eq_getElem?_getD, List.getD_eq_getElem?_getD, List.getElem?_map, List.getElem?_eq_getElem hi]; rfl
    rw [take_next (by rw [List.length_map]; exact hi : i < (rows.map rc).length), doneF_append, e, doneF, doneF]
  refine Spec.of_run [(0, u), (1, r), (2, .int .i64 (N : Int))] Try.func54 rfl (Nat.le_of_ble_eq_true rfl) (by repeat (first | exact trivial | refine ⟨rfl, ?_⟩)) ?_
  refine Run.seq ?_
  refine Run.region ?_
  refine RunL.ok (OpOk.assign rfl) rfl ?_
  refine RunL.nil ?_
  refine Run.seq ?_
  refine Run.region ?_
  refine RunL.lit0B rfl ti5 rfl (fun vx1 rdx1 => ?_)
  refine RunL.ok (OpOk.move rfl) rfl ?_
  refine RunL.appendB0 rfl ti5 rfl rfl rfl rfl rd.left (by omega) rfl (fun vx2 rdx2 => ?_)
  refine RunL.ok (OpOk.assign rfl) rfl ?_
  refine RunL.nil ?_
  refine Run.seq ?_
  refine Run.seq ?_
  refine Run.region ?_
  refine RunL.ok (OpOk.assign rfl) rfl ?_
  refine RunL.nil ?_
  refine Run.block ?_
  refine Run.mem (A' := A * emp * own 5 1 vx2 512 (B xs)) (by rw [sep_emp]) ?_
  refine Run.jump ((Run.loopJ (X := Nat × Asn) (fun x => [(8, .int .i64 (x.1 : Int)), (7, vx2), (1, r), (2, .int .i64 (N : Int))]) (fun x => A * x.2 * own 5 1 vx2 512 (B (doneF xs ((rows.map rc).take x.1)))) (fun x => x.1 ≤ rows.length ∧ x.1 ≤ N) (fun x => rows.length - x.1) (0, emp) ⟨Nat.zero_le _, Nat.zero_le _⟩ (fun x hx ih => ?_))) ⟨rfl, rfl, rfl, rfl, trivial⟩ (Grew.of (frc rfl rfl) (Grew.refl _))
  obtain ⟨i, J⟩ := x
  simp only at hx ih ⊢
  obtain ⟨hi, hiN⟩ := hx
  rcases Nat.lt_or_ge i rows.length with hlt | hge
  · rcases Nat.lt_or_ge i N with hlN | hgN
    · have hdi := hdl i
      have hdn1 := hdn i hlt
      obtain ⟨e, hoe⟩ : ∃ e, rows.getD i default = e := ⟨_, rfl⟩
      have hoke := hok _ (getD_mem hlt)
      have rdi : Rd w0 A (rows.getD i default).2.1.1 1 (rows.getD i default).2.2.length (B (rows.getD i default).2.2) := al.get hlt
      rw [hoe] at hoke hdn1 rdi
      obtain ⟨s, v, b⟩ := e
      obtain ⟨hs15, hb32⟩ := hoke
      dsimp only [rc] at hs15 hb32 rdi hdn1
      generalize doneF xs ((rows.map rc).take i) = ys at hdi hdn1 ⊢
      have hset := fun k (hk : k < 32) => setByte hdi hs15 hb32 hk
      have hnb := b
      refine Run.seq ?_
      refine Run.seq ?_
      refine Run.region ?_
      refine RunL.ok (OpOk.move rfl) rfl ?_
      refine RunL.ok (OpOk.move rfl) rfl ?_
      refine RunL.ok (OpOk.lenR rfl rfl rdr.left.left rfl) rfl ?_
      refine RunL.ok (OpOk.asT (OpOk.lss rfl rfl) (by omega)) rfl ?_
      refine RunL.ok (OpOk.move rfl) rfl ?_
      refine RunL.on rfl rfl ?_
      refine RunL.ok (OpOk.move rfl) rfl ?_
      refine RunL.on rfl rfl ?_
      refine RunL.ok (OpOk.move rfl) rfl ?_
      refine RunL.on rfl rfl ?_
      refine RunL.ok (OpOk.asT (OpOk.lss rfl rfl) (by omega)) rfl ?_
      refine RunL.ok (OpOk.pickT rfl rfl) rfl ?_
      refine RunL.nil ?_
      refine Run.condT rfl ?_
      refine Run.skip ?_
      refine Run.seq ?_
      refine Run.block ?_
      refine Run.seq ?_
      refine Run.region ?_
      refine RunL.ok (OpOk.assign rfl) rfl ?_
      refine RunL.nil ?_
      refine Run.block ?_
      refine Run.mem (A' := A * J * own 5 1 vx2 512 (B (ys.take (32 * s) ++ (b.take 0 ++ ys.drop (32 * s + 0))))) (by rw [List.take_zero, List.nil_append, Nat.add_zero, List.take_append_drop]) ?_
      refine Run.jump ((Run.loopJ (X := Nat) (fun k => [(9, .int .i64 (k : Int)), (8, .int .i64 (i : Int)), (7, vx2), (1, r), (2, .int .i64 (N : Int))]) (fun k => A * J * own 5 1 vx2 512 (B (ys.take (32 * s) ++ (b.take k ++ ys.drop (32 * s + k))))) (fun k => k ≤ 32) (fun k => 32 - k) 0 (Nat.zero_le _) (fun k hk ih2 => ?_))) ⟨rfl, rfl, rfl, rfl, rfl, trivial⟩ ((Grew.refl _))
      rcases Nat.lt_or_ge k 32 with hkl | hkg
      · have hsk := hset k hkl
        refine Run.seq ?_
        refine Run.seq ?_
        refine Run.region ?_
        refine RunL.ok (OpOk.move rfl) rfl ?_
        refine RunL.ok (OpOk.asT (OpOk.lss rfl rfl) (by omega)) rfl ?_
        refine RunL.nil ?_
        refine Run.condT rfl ?_
        refine Run.skip ?_
        refine Run.seq ?_
        refine Run.block ?_
        refine Run.know (fun w s => (s.conv rfl).ownRd0) (fun rdz1 => ?_)
        (apply Run.drawD [18] (by rfl) (sep_emp _).symm; case hchk => kernel_rfl)
        refine Sd.quiet 0 _ _ rfl rfl rfl rfl rfl (QOp.ok (fun X => OpOk.move rfl)) ?_
        refine Sd.quiet 1 _ _ rfl rfl rfl rfl rfl (QOp.ok (fun X => OpOk.move rfl)) ?_
        refine Sd.quiet 2 _ _ rfl rfl rfl rfl rfl (QOp.ok (fun X => OpOk.move rfl)) ?_
        refine Sd.quiet 3 _ _ rfl rfl rfl rfl rfl (QOp.ok (fun X => OpOk.idxN rfl ti104 rfl rdr.left.left.left.left rfl (by omega))) ?_
        refine Sd.quiet 4 _ _ rfl rfl rfl rfl rfl (QOp.ok (fun X => OpOk.fieldAddrA fld104_0 rfl)) ?_
        refine Sd.quiet 5 _ _ rfl rfl rfl rfl rfl (QOp.ok (fun X => OpOk.loadFl1E hoe rfl rfl rfl rdr.left.left.left.left (fun _ => rfl) rfl (by omega) rfl)) ?_
        refine Sd.quiet 6 _ _ rfl rfl rfl rfl rfl (QOp.ok (fun X => OpOk.mulN 32 _ rfl rfl rfl rfl (by omega))) ?_
        refine Sd.quiet 7 _ _ rfl rfl rfl rfl rfl (QOp.ok (fun X => OpOk.move rfl)) ?_
        refine Sd.quiet 8 _ _ rfl rfl rfl rfl rfl (QOp.ok (fun X => OpOk.addN _ _ rfl rfl rfl rfl (by omega))) ?_
        refine Sd.quiet 9 _ _ rfl rfl rfl rfl rfl (QOp.ok (fun X => OpOk.move rfl)) ?_
        refine Sd.quiet 10 _ _ rfl rfl rfl rfl rfl (QOp.ok (fun X => OpOk.move rfl)) ?_
        refine Sd.quiet 11 _ _ rfl rfl rfl rfl rfl (QOp.ok (fun X => OpOk.idxN rfl ti104 rfl rdr.left.left.left.left rfl (by omega))) ?_
        refine Sd.quiet 12 _ _ rfl rfl rfl rfl rfl (QOp.ok (fun X => OpOk.fieldAddrA fld104_1 rfl)) ?_
        refine Sd.quiet 13 _ _ rfl rfl rfl rfl rfl (QOp.ok (fun X => OpOk.loadFl1E hoe rfl rfl rfl rdr.left.left.left.left (fun _ => rfl) rfl (by omega) rfl)) ?_
        refine Sd.quiet 14 _ _ rfl rfl rfl rfl rfl (QOp.ok (fun X => OpOk.move rfl)) ?_
        refine Sd.quiet 15 _ _ rfl rfl rfl rfl rfl (QOp.ok (fun X => OpOk.idx1N rfl ti5 rfl rdi.left.left.left.left rfl (by omega))) ?_
        refine Sd.quiet 16 _ _ rfl rfl rfl rfl rfl (QOp.ok (fun X => OpOk.load rfl rfl rfl (Rd.getB rdi.left.left.left.left (by omega)))) ?_
        refine Sd.quiet 17 _ _ rfl rfl rfl rfl rfl (QOp.ok (fun X => OpOk.idx1N rfl ti5 rfl (Rd.right rdz1).left.left rfl (by omega))) ?_
        (apply Sd.tail; case hall => kernel_rfl)
        refine RunL.mem (fl2 (sep_emp _) (sep_emp _)) ?_
        refine RunL.storeB _ ti5 rfl rfl rfl rfl (by omega) ?_
        refine RunL.nil ?_
        refine Run.inBlock ?_
        refine Run.region ?_
        refine RunL.ok (OpOk.move rfl) rfl ?_
        refine RunL.ok (OpOk.addN _ 1 rfl rfl rfl rfl (by omega)) rfl ?_
        refine RunL.ok (OpOk.assign rfl) rfl ?_
        refine RunL.nil ?_
        rw [hsk]
        refine Run.jump ((ih2 (k + 1) (by omega) (by omega))) ⟨rfl, rfl, rfl, rfl, rfl, trivial⟩ ((Grew.refl _))
      · obtain rfl : k = 32 := by omega
        clear ih2
        have e32 : ys.take (32 * s) ++ (b.take 32 ++ ys.drop (32 * s + 32)) = doneF xs ((rows.map rc).take (i + 1)) := by
          rw [hdn1, setSec, List.take_of_length_le (by omega : b.length ≤ 32)]
        rw [e32]
        refine Run.seq ?_
        refine Run.seq ?_
        refine Run.region ?_
        refine RunL.ok (OpOk.move rfl) rfl ?_
        refine RunL.ok (OpOk.asF (OpOk.lss rfl rfl) (by omega)) rfl ?_
        refine RunL.nil ?_
        refine Run.condF rfl ?_
        refine Run.exit rfl ?_
        refine Run.inBlock ?_
        refine Run.region ?_
        refine RunL.ok (OpOk.move rfl) rfl ?_
        refine RunL.ok (OpOk.addN _ 1 rfl rfl rfl rfl (by omega)) rfl ?_
        refine RunL.ok (OpOk.assign rfl) rfl ?_
        refine RunL.nil ?_
        refine Run.jump ((ih (i + 1, _) ⟨by dsimp only; omega, by dsimp only; omega⟩ (by dsimp only; omega))) ⟨rfl, rfl, rfl, rfl, trivial⟩ (Grew.of (congrArg (· * _) as1) (Grew.refl _))
    · obtain rfl : i = N := by omega
      clear ih
      refine Run.seq ?_
      refine Run.seq ?_
      refine Run.region ?_
      refine RunL.ok (OpOk.move rfl) rfl ?_
      refine RunL.ok (OpOk.move rfl) rfl ?_
      refine RunL.ok (OpOk.lenR rfl rfl rdr.left.left rfl) rfl ?_
      refine RunL.ok (OpOk.asT (OpOk.lss rfl rfl) (by omega)) rfl ?_
      refine RunL.ok (OpOk.move rfl) rfl ?_
      refine RunL.on rfl rfl ?_
      refine RunL.ok (OpOk.move rfl) rfl ?_
      refine RunL.on rfl rfl ?_
      refine RunL.ok (OpOk.move rfl) rfl ?_
      refine RunL.on rfl rfl ?_
      refine RunL.ok (OpOk.asF (OpOk.lss rfl rfl) (by omega)) rfl ?_
      refine RunL.ok (OpOk.pickT rfl rfl) rfl ?_
      refine RunL.nil ?_
      refine Run.condF rfl ?_
      refine Run.exit rfl ?_
      refine Run.seq ?_
      refine Run.region ?_
      refine RunL.ok (OpOk.move rfl) rfl ?_
      refine RunL.ok (OpOk.assign rfl) rfl ?_
      refine RunL.nil ?_
      refine Run.ret1 Try.func54 rfl rfl ?_
      exact ⟨_, (congrArg (· * _) as1)⟩
  · obtain rfl : i = rows.length := by omega
    clear ih
    have hte : (rows.map rc).take rows.length = (rows.map rc).take N := by
      rw [List.take_of_length_le (by rw [List.length_map]; exact Nat.le_refl _), List.take_of_length_le (by rw [List.length_map]; exact hiN)]
    rw [hte]
    refine Run.seq ?_
    refine Run.seq ?_
    refine Run.region ?_
    refine RunL.ok (OpOk.move rfl) rfl ?_
    refine RunL.ok (OpOk.move rfl) rfl ?_
    refine RunL.ok (OpOk.lenR rfl rfl rdr.left.left rfl) rfl ?_
    refine RunL.ok (OpOk.asF (OpOk.lss rfl rfl) (by omega)) rfl ?_
    refine RunL.ok (OpOk.move rfl) rfl ?_
    refine RunL.off rfl rfl rfl rfl ?_
    refine RunL.off rfl rfl rfl rfl ?_
    refine RunL.off rfl rfl rfl rfl ?_
    refine RunL.ok (OpOk.pickF rfl rfl) rfl ?_
    refine RunL.nil ?_
    refine Run.condF rfl ?_
    refine Run.exit rfl ?_
    refine Run.seq ?_
    refine Run.region ?_
    refine RunL.ok (OpOk.move rfl) rfl ?_
    refine RunL.ok (OpOk.assign rfl) rfl ?_
    refine RunL.nil ?_
    refine Run.ret1 Try.func54 rfl rfl ?_
    exact ⟨_, (congrArg (· * _) as1)⟩
end
end Go.Proofs.Yteopadjihklkmaa
end

section
namespace Go.Proofs.Yteopadjihklkmaa
open Go Go.Proofs
set_option maxRecDepth 100000
set_option maxHeartbeats 4000000
set_option linter.unusedSimpArgs false
set_option linter.unusedVariables false
section
variable {w0 : World} {A : Asn} {a b q c k o i s : Int} {ad : Option Addr} {m cap n f : Nat} {es : List En} {u : Value} {bs : List UInt8}
theorem s52a (rd : Rd w0 A u 1 m (B bs)) (hm : m ≤ 30) : Spec Try.prog w0 52 [u] A (fun v' A' => ∃ ad2 cap2 J, v' = .slice ad2 32 cap2 ∧ A' = A * J * own 5 1 (.slice ad2 32 cap2) 32 (B (sectB bs))) := by
  refine Spec.learn2 (s52 rd hm) ?_
  rintro v' A' w ⟨J, rfl⟩ hs
  obtain ⟨ad2, cap2, rfl, _, _⟩ := hs.ownRd0.form
  exact ⟨ad2, cap2, J, rfl, rfl⟩
end
end Go.Proofs.Yteopadjihklkmaa
end

section
namespace Go.Proofs.Yteopadjihklkmaa
open Go Go.Proofs
set_option maxRecDepth 100000
set_option maxHeartbeats 4000000
set_option linter.unusedSimpArgs false
set_option linter.unusedVariables false
/-- The entries behind a Store. -/
def putE (es : List En) (x : En) : List En := if atE x.2.1 x.2.2.1 es < 0 then es ++ [x] else es.set (atE x.2.1 x.2.2.1 es).toNat x
/-- What a Store writes, how it ends, the entries then. -/
def storesP (q : Int) (t : Nat) (es : List En) (k o i : Int) (bs : List UInt8) : List (Nat × List UInt8) × Int × List En :=
  if ¬ rightP (k, o, i, 0) then ([], 2, []) else if 64 < bs.length then ([], 11, []) else if atE o i es < 0 ∧ 5 ≤ es.length then ([], 20, []) else if 65535 ≤ q then ([], 29, []) else if freeE es < 0 then ([], 21, []) else
    ([(3 + 2 * (freeE es).toNat, (full64 bs).take 32), (4 + 2 * (freeE es).toNat, (full64 bs).drop 32), (3 - t, sectB (listB (q + 1) (putE es (k, o, i, freeE es))))], 0, putE es (k, o, i, freeE es))
section
variable {w0 : World} {A : Asn} {a b q k o i s w : Int} {ad : Option Addr} {m cap n t : Nat} {es : List En} {u : Value} {bs xs : List UInt8}
end
end Go.Proofs.Yteopadjihklkmaa
end

section
namespace Go.Proofs.Yteopadjihklkmaa
open Go Go.Proofs
set_option maxRecDepth 100000
set_option maxHeartbeats 4000000
set_option linter.unusedSimpArgs false
set_option linter.unusedVariables false
abbrev Out := List (Nat × List UInt8) × Int × List En
/-- How many rows are written; how it ends. -/
def donN (R : Out) (w : Int) : Nat := if 0 ≤ w ∧ w < R.1.length then w.toNat else R.1.length
def errN (R : Out) (w : Int) : Int := if 0 ≤ w ∧ w < R.1.length then 30 else R.2.1
/-- A view: number, issuer, count, copy, entries. -/
abbrev Vw := Int × Int × Int × Int × List En
def vwN (R : Out) (w a b q t : Int) : Vw := if errN R w = 0 then (a, b, q + 1, 3 - t, R.2.2) else (0, 0, 0, 0, [])
/-- A change of a card, told. -/
def ChangeR (A : Asn) (p : Nat) (xs : List UInt8) (w a b q t : Int) (R : Out) : Value → Asn → Prop := fun v' A' => ∃ ad cap w2 J,
  v' = .tuple #[.agg #[.int .i64 (vwN R w a b q t).1, .int .i64 (vwN R w a b q t).2.1, .int .i64 (vwN R w a b q t).2.2.1, .int .i64 (vwN R w a b q t).2.2.2.1, .slice ad (vwN R w a b q t).2.2.2.2.length cap], .int .i64 (errN R w)] ∧ (w < 0 → w2 = w) ∧
  A' = A * J * own 111 4 (.slice ad (vwN R w a b q t).2.2.2.2.length cap) (vwN R w a b q t).2.2.2.2.length (Fl encT111 (vwN R w a b q t).2.2.2.2) * pts p (.cells (B ((doneF xs (R.1.take (donN R w)))) ++ [Value.int .i64 (w2)]).toArray 177 (0, 0))
section
variable {w0 : World} {A : Asn} {p : Nat} {a b q k o i s w : Int} {ad : Option Addr} {m cap n t : Nat} {es : List En} {u : Value} {bs xs : List UInt8}
theorem ChangeR.refuse {R : Out} {e : Int} {J : Asn} {tt : Int} (hR : R.1 = []) (he : R.2.1 = e) (hne : e ≠ 0) (hw : w = w) : ChangeR A p xs w a b q tt R (.tuple #[.agg #[.int .i64 0, .int .i64 0, .int .i64 0, .int .i64 0, .slice none 0 0], .int .i64 e]) (A * pts p (.cells (B (xs) ++ [Value.int .i64 (w)]).toArray 177 (0, 0)) * J) := by
  have hE : errN R w = e := by rw [errN, hR, if_neg (by intro h; have h2 := h.2; simp at h2; omega), he]
  have hV : vwN R w a b q tt = (0, 0, 0, 0, []) := by rw [vwN, hE, if_neg hne]
  unfold ChangeR
  rw [hV, hE, hR, List.take_nil, doneF]
  refine ⟨none, 0, w, J, rfl, fun _ => rfl, ?_⟩
  show _ = A * J * own 111 4 (.slice none 0 0) 0 [] * _
  rw [own_nil_eq, sep_emp, sep_assoc, sep_comm _ J, ← sep_assoc]
theorem ChangeR.torn {R : Out} {J : Asn} {tt w2 : Int} {ys : List UInt8} (hw : 0 ≤ w) (hw2 : w < R.1.length) (hy : ys = doneF xs (R.1.take w.toNat)) : ChangeR A p xs w a b q tt R (.tuple #[.agg #[.int .i64 0, .int .i64 0, .int .i64 0, .int .i64 0, .slice none 0 0], .int .i64 30]) (A * J * pts p (.cells (B (ys) ++ [Value.int .i64 (w2)]).toArray 177 (0, 0))) := by
  have hE : errN R w = 30 := by rw [errN, if_pos ⟨hw, hw2⟩]
  have hV : vwN R w a b q tt = (0, 0, 0, 0, []) := by rw [vwN, hE, if_neg (by decide)]
  have hN : donN R w = w.toNat := by rw [donN, if_pos ⟨hw, hw2⟩]
  subst hy
  unfold ChangeR
  rw [hV, hE, hN]
  refine ⟨none, 0, w2, J, rfl, fun h => by omega, ?_⟩
  show _ = A * J * own 111 4 (.slice none 0 0) 0 [] * _
  rw [own_nil_eq, sep_emp]
theorem ChangeR.done {R : Out} {J : Asn} {tt t2 w2 : Int} {ys : List UInt8} {m2 cap2 : Nat} {ad2 : Option Addr} (hw : w < 0 ∨ R.1.length ≤ w) (h0 : R.2.1 = 0) (hy : ys = doneF xs R.1) (hm : m2 = R.2.2.length) (ht : t2 = 3 - tt) (hw2 : w < 0 → w2 = w) : ChangeR A p xs w a b q tt R (.tuple #[.agg #[.int .i64 a, .int .i64 b, .int .i64 (q + 1), .int .i64 t2, .slice ad2 m2 cap2], .int .i64 0]) (A * J * own 111 4 (.slice ad2 m2 cap2) m2 (Fl encT111 R.2.2) * pts p (.cells (B (ys) ++ [Value.int .i64 (w2)]).toArray 177 (0, 0))) := by
  have hE : errN R w = 0 := by rw [errN, if_neg (by omega), h0]
  have hV : vwN R w a b q tt = (a, b, q + 1, 3 - tt, R.2.2) := by rw [vwN, if_pos hE]
  have hN : donN R w = R.1.length := by rw [donN, if_neg (by omega)]
  subst hy hm ht
  unfold ChangeR
  rw [hV, hE, hN, List.take_length]
  exact ⟨ad2, cap2, w2, J, rfl, hw2, rfl⟩
theorem body_rows (f : Nat) (x y z : List UInt8) (t : Nat) : ([(3 + 2 * f, x), (4 + 2 * f, y), (t, z)] : List (Nat × List UInt8)) = rowsF (3 + 2 * f) [x, y] ++ [(t, z)] := by
  simp only [rowsF, List.cons_append, List.nil_append]
  rw [show 3 + 2 * f + 1 = 4 + 2 * f by omega]
theorem storeR (rd : Rd w0 A (.slice ad m cap) 4 m (Fl encT111 es)) (rdb : Rd w0 A u 1 n (B bs)) (hes : ∀ e ∈ es, okE e) (hm : m ≤ 5) (hq0 : 0 ≤ q) (ht : 1 ≤ t) (ht2 : t ≤ 2) (hx : xs.length = 512) (hw : w ≤ 9223372036854775807) :
    Spec Try.prog w0 57 [.pointer (some ⟨p, 0, none⟩), .agg #[.int .i64 a, .int .i64 b, .int .i64 q, .int .i64 (t : Int), .slice ad m cap], .agg #[.int .i64 k, .int .i64 o, .int .i64 i, .int .i64 s], u] (A * pts p (.cells (B (xs) ++ [Value.int .i64 (w)]).toArray 177 (0, 0))) (ChangeR A p xs w a b q t (storesP q t es k o i bs)) := by
  have hl0 := rd.lenFl (fun _ => rfl) (by decide)
  have hl1 := rdb.lenB
  have hfr := freeE_range es
  have har := atE_range o i es
  unfold storesP
  by_cases h1 : rightP (k, o, i, 0)
  · rw [if_neg (by simpa using h1)]
    by_cases h2 : 64 < bs.length
    · rw [if_pos h2]
      refine (s57b (s := s) rd.left rdb.left h1 (by omega)).mono ?_
      rintro v' A' ⟨J, rfl, rfl⟩
      exact ChangeR.refuse rfl rfl (by decide) rfl
    · rw [if_neg h2]
      by_cases h3 : atE o i es < 0 ∧ 5 ≤ es.length
      · rw [if_pos h3]
        refine (s57c (s := s) rd.left rdb.left h1 (by omega) h3.1 (by omega)).mono ?_
        rintro v' A' ⟨J, rfl, rfl⟩
        exact ChangeR.refuse rfl rfl (by decide) rfl
      · rw [if_neg h3]
        have hroom : roomP o i es := by unfold roomP; omega
        by_cases h4 : 65535 ≤ q
        · rw [if_pos h4]
          refine (s57d (s := s) rd.left rdb.left h1 (by omega) hroom h4).mono ?_
          rintro v' A' ⟨J, rfl, rfl⟩
          exact ChangeR.refuse rfl rfl (by decide) rfl
        · rw [if_neg h4]
          by_cases h5 : freeE es < 0
          · rw [if_pos h5]
            refine (s57e (s := s) rd.left rdb.left h1 (by omega) hroom (by omega) h5).mono ?_
            rintro v' A' ⟨J, rfl, rfl⟩
            exact ChangeR.refuse rfl rfl (by decide) rfl
          · rw [if_neg h5]
            obtain ⟨f, hf⟩ := Int.eq_ofNat_of_zero_le (by omega : 0 ≤ freeE es)
            rw [hf, Int.toNat_natCast, body_rows]
            have hct : 3 - (t : Int) = ((3 - t : Nat) : Int) := by omega
            have h64 : (full64 bs).length = 64 := full64_len (by omega)
            have hly : (doneF xs (rowsF (3 + 2 * f) [(full64 bs).take 32, (full64 bs).drop 32])).length = 512 := doneF_len _ _ hx (fun r hr => by
              simp only [rowsF, List.mem_cons, List.not_mem_nil, or_false] at hr
              rcases hr with rfl | rfl
              · exact ⟨by dsimp only; omega, by dsimp only; rw [List.length_take]; omega⟩
              · exact ⟨by dsimp only; omega, by dsimp only; rw [List.length_drop]; omega⟩)
            by_cases h6 : 0 ≤ w ∧ w < 2
            · obtain ⟨W, rfl⟩ := Int.eq_ofNat_of_zero_le h6.1
              refine (s57f (s := s) rd rdb hf (by omega) h1 (by omega) hroom (by omega) hx hw ⟨wrote_part _ _ W _ (by show W < 2; omega)⟩).mono ?_
              rintro v' A' ⟨J, rfl, rfl⟩
              refine ChangeR.torn h6.1 ?_ ?_
              · dsimp only
                rw [List.length_append, rowsF_len]
                show (W : Int) < ((2 + 1 : Nat) : Int)
                omega
              · dsimp only
                rw [Int.toNat_natCast, List.take_append_of_le_length (by rw [rowsF_len]; show W ≤ 2; omega)]
            · have hWa := wrote_all [(full64 bs).take 32, (full64 bs).drop 32] xs w (3 + 2 * f) (by show w < 0 ∨ ((2 : Nat) : Int) ≤ w; omega)
              generalize hw2 : (if w < 0 then w else w - ([(full64 bs).take 32, (full64 bs).drop 32] : List (List UInt8)).length) = w2 at hWa
              have hw2b : (w < 0 → w2 = w) ∧ (0 ≤ w → w2 = w - 2) := by
                rw [← hw2]
                constructor
                · intro h; rw [if_pos h]
                · intro h; rw [if_neg (by omega)]; rfl
              have hput : ∀ (es2 : List En), wroteF (doneF xs (rowsF (3 + 2 * f) [(full64 bs).take 32, (full64 bs).drop 32])) w2 (3 - t) [sectB (listB (q + 1) es2)] = if w2 = 0 then (doneF xs (rowsF (3 + 2 * f) [(full64 bs).take 32, (full64 bs).drop 32]), w2, 30) else (doneF xs (rowsF (3 + 2 * f) [(full64 bs).take 32, (full64 bs).drop 32] ++ [(3 - t, sectB (listB (q + 1) es2))]), (if 0 < w2 then w2 - 1 else w2), 0) := fun es2 => by
                rw [doneF_append]
                rfl
              by_cases h7 : w = 2
              · have h0 : w2 = 0 := by have := hw2b.2 (by omega); omega
                rw [h0] at hput hWa
                have hfin : ∀ (es2 : List En) (J : Asn), ChangeR A p xs w a b q t (rowsF (3 + 2 * f) [(full64 bs).take 32, (full64 bs).drop 32] ++ [(3 - t, sectB (listB (q + 1) es2))], 0, es2) (.tuple #[.agg #[.int .i64 0, .int .i64 0, .int .i64 0, .int .i64 0, .slice none 0 0], .int .i64 30]) (A * J * pts p (.cells (B ((doneF xs (rowsF (3 + 2 * f) [(full64 bs).take 32, (full64 bs).drop 32]))) ++ [Value.int .i64 (0)]).toArray 177 (0, 0))) := fun es2 J => by
                  refine ChangeR.torn (by omega) ?_ ?_
                  · dsimp only
                    rw [List.length_append, rowsF_len, h7]
                    show (2 : Int) < ((2 + 1 : Nat) : Int)
                    omega
                  · dsimp only
                    rw [h7, show (2 : Int).toNat = 2 from rfl, List.take_left' (show (rowsF (3 + 2 * f) [List.take 32 (full64 bs), List.drop 32 (full64 bs)]).length = 2 from rowsF_len _ _)]
                by_cases h8 : atE o i es < 0
                · have hpe : putE es (k, o, i, (f : Int)) = es ++ [(k, o, i, (f : Int))] := by rw [putE, if_pos h8]
                  rw [hpe]
                  refine (s57g (s := s) (j := 0) h8 (by omega) rd rdb hf (by omega) h1 (by omega) hes hq0 (by omega) hx hly hw (by decide) hct (by omega) ⟨hWa⟩ ⟨hput _⟩).mono ?_
                  rintro v' A' ⟨J, rfl, rfl⟩
                  exact hfin _ J
                · obtain ⟨j, hj⟩ := Int.eq_ofNat_of_zero_le (by omega : 0 ≤ atE o i es)
                  have hpe : putE es (k, o, i, (f : Int)) = es.set j (k, o, i, (f : Int)) := by rw [putE, if_neg h8]; dsimp only; rw [hj, Int.toNat_natCast]
                  rw [hpe]
                  refine (s57i (s := s) hj (by omega) hm rd rdb hf (by omega) h1 (by omega) hes hq0 (by omega) hx hly hw (by decide) hct (by omega) ⟨hWa⟩ ⟨hput _⟩).mono ?_
                  rintro v' A' ⟨J, rfl, rfl⟩
                  exact hfin _ J
              · have h0 : w2 ≠ 0 := by
                  rcases Int.lt_or_le w 0 with h | h
                  · rw [hw2b.1 h]; omega
                  · rw [hw2b.2 h]; omega
                have hw2m : w2 ≤ 9223372036854775807 := by
                  rcases Int.lt_or_le w 0 with h | h
                  · rw [hw2b.1 h]; omega
                  · rw [hw2b.2 h]; omega
                have hput2 := fun es2 => (hput es2).trans (if_neg h0)
                have hfin : ∀ (es2 : List En) (J : Asn) (ad2 : Option Addr) (m2 cap2 : Nat), m2 = es2.length → ChangeR A p xs w a b q t (rowsF (3 + 2 * f) [(full64 bs).take 32, (full64 bs).drop 32] ++ [(3 - t, sectB (listB (q + 1) es2))], 0, es2) (.tuple #[.agg #[.int .i64 a, .int .i64 b, .int .i64 (q + 1), .int .i64 ((3 - t : Nat) : Int), .slice ad2 m2 cap2], .int .i64 0]) (A * J * own 111 4 (.slice ad2 m2 cap2) m2 (Fl encT111 es2) * pts p (.cells (B ((doneF xs (rowsF (3 + 2 * f) [(full64 bs).take 32, (full64 bs).drop 32] ++ [(3 - t, sectB (listB (q + 1) es2))]))) ++ [Value.int .i64 ((if 0 < w2 then w2 - 1 else w2))]).toArray 177 (0, 0))) := fun es2 J ad2 m2 cap2 hm2 => by
                  refine ChangeR.done (R := (rowsF (3 + 2 * f) [(full64 bs).take 32, (full64 bs).drop 32] ++ [(3 - t, sectB (listB (q + 1) es2))], 0, es2)) ?_ rfl rfl hm2 hct.symm (fun h => by rw [hw2b.1 h, if_neg (by omega)])
                  dsimp only
                  rw [List.length_append, rowsF_len]
                  show w < 0 ∨ ((2 + 1 : Nat) : Int) ≤ w
                  omega
                by_cases h8 : atE o i es < 0
                · have hpe : putE es (k, o, i, (f : Int)) = es ++ [(k, o, i, (f : Int))] := by rw [putE, if_pos h8]
                  rw [hpe]
                  refine (s57h (s := s) (j := 0) h8 (by omega) rd rdb hf (by omega) h1 (by omega) hes hq0 (by omega) hx hly hw hw2m hct (by omega) ⟨hWa⟩ ⟨hput2 _⟩).mono ?_
                  rintro v' A' ⟨ad2, cap2, J, rfl, rfl⟩
                  exact hfin _ J ad2 _ cap2 (by simp)
                · obtain ⟨j, hj⟩ := Int.eq_ofNat_of_zero_le (by omega : 0 ≤ atE o i es)
                  have hpe : putE es (k, o, i, (f : Int)) = es.set j (k, o, i, (f : Int)) := by rw [putE, if_neg h8]; dsimp only; rw [hj, Int.toNat_natCast]
                  rw [hpe]
                  refine (s57j (s := s) hj (by omega) hm rd rdb hf (by omega) h1 (by omega) hes hq0 (by omega) hx hly hw hw2m hct (by omega) ⟨hWa⟩ ⟨hput2 _⟩).mono ?_
                  rintro v' A' ⟨ad2, cap2, J, rfl, rfl⟩
                  exact hfin _ J ad2 _ cap2 (by simp)
  · rw [if_pos h1]
    refine (s57a (s := s) rd.left h1).mono ?_
    rintro v' A' ⟨J, rfl, rfl⟩
    exact ChangeR.refuse rfl rfl (by decide) rfl
end
end Go.Proofs.Yteopadjihklkmaa
end

section
namespace Go.Proofs.Yteopadjihklkmaa
open Go Go.Proofs
set_option maxRecDepth 100000
set_option maxHeartbeats 4000000
set_option linter.unusedSimpArgs false
set_option linter.unusedVariables false
theorem face_says {a b : Int} (hn : namedP a b) : sealed ((sectB (faceB a b)).take (32 - 2)) = sectB (faceB a b) ∧ faceOk (sectB (faceB a b)) ∧ cardB (sectB (faceB a b)) = a ∧ issB (sectB (faceB a b)) = b := by
  have hpl : (pad (faceB a b)).length = 30 := pad_len (by show 5 ≤ 30; decide)
  have ht : (sectB (faceB a b)).take (32 - 2) = pad (faceB a b) := by
    rw [sectB, sealed, List.take_append_of_le_length (by omega), List.take_of_length_le (by omega)]
  obtain ⟨h1, h2, h3, h4⟩ := hn
  have hc : cardB (sectB (faceB a b)) = a := by
    rw [cardB, ht]
    exact by2_of (by rw [pad_at (by show 2 < 5; decide)]; rfl) (by rw [pad_at (by show 2 + 1 < 5; decide)]; rfl) (by omega) h2
  have hi : issB (sectB (faceB a b)) = b := by
    rw [issB, ht]
    exact by1_of (by rw [pad_at (by show 4 < 5; decide)]; rfl) (by omega) (by omega)
  refine ⟨by rw [ht]; rfl, ?_, hc, hi⟩
  unfold faceOk
  rw [hc, hi]
  exact ⟨⟨h1, h2, h3, h4⟩, rfl⟩
/-- What a change leaves and tells. -/
structure OutIs (xs : List UInt8) (R : Out) (w a b q t : Int) (zs : List UInt8) (e a2 b2 q2 t2 : Int) (es2 : List En) : Prop where
  out : errN R w = e ∧ vwN R w a b q t = (a2, b2, q2, t2, es2) ∧ doneF xs (R.1.take (donN R w)) = zs
/-- What Format leaves. -/
def fmt2 (xs : List UInt8) : List UInt8 := setSec (setSec xs 1 (sectB (listB 1 []))) 2 (List.replicate 32 0)
def fmtF (xs : List UInt8) (a b : Int) : List UInt8 := setSec (fmt2 xs) 0 (sectB (faceB a b))
theorem d0_len : (sectB (listB 1 [])).length = 32 := by decide +kernel
theorem face_len (a b : Int) : (sectB (faceB a b)).length = 32 := by rw [sectB, sealed_length, pad_len (by show 5 ≤ 30; decide)]
theorem fmt2_len {xs : List UInt8} (h : xs.length = 512) : (fmt2 xs).length = 512 := setSec_len (setSec_len h (by decide) d0_len) (by decide) (by simp)
theorem fmt_says {xs : List UInt8} (h : xs.length = 512) {a b : Int} (hn : namedP a b) : Says (fmtF xs a b) 1 1 [] ∧ cardB (secOf (fmtF xs a b) 0) = a ∧ issB (secOf (fmtF xs a b) 0) = b := by
  obtain ⟨f1, f2, f3, f4⟩ := face_says hn
  have h1 : (setSec xs 1 (sectB (listB 1 []))).length = 512 := setSec_len h (by decide) d0_len
  have h2 := fmt2_len h
  have hfl := face_len a b
  have e0 : secOf (fmtF xs a b) 0 = sectB (faceB a b) := sec_set_same h2 (by decide) hfl
  have e1 : secOf (fmtF xs a b) 1 = sectB (listB 1 []) := by
    rw [fmtF, sec_set_other h2 (by decide) (by decide) hfl (by decide), fmt2, sec_set_other h1 (by decide) (by decide) (by simp) (by decide), sec_set_same h (by decide) d0_len]
  have e2 : secOf (fmtF xs a b) 2 = List.replicate 32 0 := by
    rw [fmtF, sec_set_other h2 (by decide) (by decide) hfl (by decide), fmt2, sec_set_same h1 (by decide) (by simp)]
  obtain ⟨l1, l2, l3⟩ := laid_ok (q := 1) (es := []) (by decide) (by decide) (by decide) ⟨fun e he => (by cases he), List.Pairwise.nil⟩
  have hno : okB (List.replicate 32 0) = false := by decide +kernel
  refine ⟨⟨setSec_len h2 (by decide) hfl, by rw [e0]; exact f1, by rw [e0]; exact f2, ?_, .inl rfl⟩, by rw [e0]; exact f3, by rw [e0]; exact f4⟩
  rw [bestF_two, bestF_one, e1, e2, hno, l1, l2, l3]
  rw [if_neg (fun h => by cases h.1), if_pos ⟨rfl, by decide⟩]
section
variable {w0 : World} {A : Asn} {p : Nat} {xs : List UInt8} {w q : Int} {t m : Nat} {es : List En} {u : Value}
theorem s39f (h : Says xs q t es) : Spec Try.prog w0 39 [.pointer (some ⟨p, 0, none⟩)] (A * pts p (.cells (B (xs) ++ [Value.int .i64 (w)]).toArray 177 (0, 0))) (fun v' A' => ∃ ad cap J, v' = .tuple #[.agg #[.int .i64 (cardB (secOf xs 0)), .int .i64 (issB (secOf xs 0)), .int .i64 q, .int .i64 (t : Int), .slice ad es.length cap], .int .i64 0] ∧ A' = A * J * own 111 4 (.slice ad es.length cap) es.length (Fl encT111 es) * pts p (.cells (B (xs) ++ [Value.int .i64 (w)]).toArray 177 (0, 0))) := by
  have hb := h.best
  have ht := h.copy
  have := s39e (w0 := w0) (A := A) (p := p) (w := w) h.len h.sld h.face (by rw [hb]; dsimp only; omega)
  rw [hb] at this
  exact this
section
variable {a b k o i s a2 b2 q2 t2 e : Int} {ad : Option Addr} {cap n : Nat} {es2 : List En} {bs zs : List UInt8}
theorem s57k (rd : Rd w0 A (.slice ad m cap) 4 m (Fl encT111 es)) (rdb : Rd w0 A u 1 n (B bs)) (h : Says xs q t es) (hw : w ≤ 9223372036854775807) (hO : OutIs xs (storesP q t es k o i bs) w a b q t zs e a2 b2 q2 t2 es2) :
    Spec Try.prog w0 57 [.pointer (some ⟨p, 0, none⟩), .agg #[.int .i64 a, .int .i64 b, .int .i64 q, .int .i64 (t : Int), .slice ad m cap], .agg #[.int .i64 k, .int .i64 o, .int .i64 i, .int .i64 s], u] (A * pts p (.cells (B (xs) ++ [Value.int .i64 (w)]).toArray 177 (0, 0))) (fun v' A' => ∃ ad cap w2 J, v' = .tuple #[.agg #[.int .i64 a2, .int .i64 b2, .int .i64 q2, .int .i64 t2, .slice ad es2.length cap], .int .i64 e] ∧ (w < 0 → w2 = w) ∧ A' = A * J * own 111 4 (.slice ad es2.length cap) es2.length (Fl encT111 es2) * pts p (.cells (B (zs) ++ [Value.int .i64 (w2)]).toArray 177 (0, 0))) := by
  have hl0 := rd.lenFl (fun _ => rfl) (by decide)
  obtain ⟨he, hv, hz⟩ := hO.out
  obtain ⟨f1, f2, f3, f4, _⟩ := h.facts
  have ht := h.copy
  have := storeR (w0 := w0) (A := A) (p := p) (q := q) (t := t) (a := a) (b := b) (k := k) (o := o) (i := i) (s := s) rd rdb (fun e he => okE_good (f4.1 e he)) (by omega) (by omega) (by omega) (by omega) h.len hw
  unfold ChangeR at this
  rw [hv, he, hz] at this
  exact this
/-- A whole Format. -/
theorem s51d (hn : namedP a b) (hx : xs.length = 512) (hw : w < 0) : Spec Try.prog w0 51 [.pointer (some ⟨p, 0, none⟩), .int .i64 a, .int .i64 b] (A * pts p (.cells (B (xs) ++ [Value.int .i64 (w)]).toArray 177 (0, 0))) (fun v' A' => ∃ J, v' = .int .i64 0 ∧ A' = A * J * pts p (.cells (B ((fmtF xs a b)) ++ [Value.int .i64 (w)]).toArray 177 (0, 0))) := by
  refine s51c hn hx (ys := fmt2 xs) (w2 := w) (e := 0) ⟨?_⟩ ⟨?_⟩ (by omega) (fmt2_len hx) (by omega) rfl
  · simp only [wroteF]
    rw [if_neg (by omega), if_neg (by omega), if_neg (by omega), if_neg (by omega)]
    rfl
  · simp only [wroteF]
    rw [if_neg (by omega), if_neg (by omega)]
    rfl
end
theorem s37 : Spec Try.prog w0 37 [] A (fun v' A' => ∃ J, v' = .bool true ∧ A' = A * J) := by
  have hz0 : (List.replicate 512 (0 : UInt8)).length = 512 := by simp
  have hn : namedP 7 1 := ⟨by decide, by decide, by decide, by decide⟩
  obtain ⟨hS, hc, hi⟩ := fmt_says hz0 hn
  have rw_c := hc
  have rw_i := hi
  have hR : storesP 1 1 [] 1 2 9 [1] = ([(3, (full64 [1]).take 32), (4, (full64 [1]).drop 32), (2, sectB (listB 2 [(1, 2, 9, 0)]))], 0, [(1, 2, 9, 0)]) := by rfl
  have hE : errN (storesP 1 1 [] 1 2 9 [1]) (-1) = 0 := by rw [hR]; rfl
  have hV : vwN (storesP 1 1 [] 1 2 9 [1]) (-1) 7 1 1 ((1 : Nat) : Int) = (7, 1, 2, 2, [(1, 2, 9, 0)]) := by rw [hR]; rfl
  generalize hys : fmtF (List.replicate 512 0) 7 1 = ys at hS hc hi rw_c rw_i
  obtain ⟨zs, hz⟩ : ∃ zs, doneF ys ((storesP 1 1 [] 1 2 9 [1]).1.take (donN (storesP 1 1 [] 1 2 9 [1]) (-1))) = zs := ⟨_, rfl⟩
  have hSZ : zs.length = 512 ∧ secOf zs 3 = (full64 [1]).take 32 := by
    rw [hR] at hz
    have e : zs = setSec (setSec (setSec ys 3 ((full64 [1]).take 32)) 4 ((full64 [1]).drop 32)) 2 (sectB (listB 2 [(1, 2, 9, 0)])) := hz.symm
    have h1 : (setSec ys 3 ((full64 [1]).take 32)).length = 512 := setSec_len hS.len (by decide) (by decide)
    have h2 : (setSec (setSec ys 3 ((full64 [1]).take 32)) 4 ((full64 [1]).drop 32)).length = 512 := setSec_len h1 (by decide) (by decide)
    have h3 : (sectB (listB 2 [(1, 2, 9, 0)])).length = 32 := by decide +kernel
    rw [e]
    refine ⟨setSec_len h2 (by decide) h3, ?_⟩
    rw [sec_set_other h2 (by decide) (by decide) h3 (by decide), sec_set_other h1 (by decide) (by decide) (by decide) (by decide), sec_set_same hS.len (by decide) (by decide)]
  have hO : OutIs ys (storesP 1 1 [] 1 2 9 [1]) (-1) 7 1 1 ((1 : Nat) : Int) zs 0 7 1 2 2 [(1, 2, 9, 0)] := ⟨hE, hV, hz⟩
  obtain ⟨hzl, hz3⟩ := hSZ
  have hb0 : ((((secOf zs (3 + 2 * 0 : Int).toNat ++ secOf zs (3 + 2 * 0 + 1 : Int).toNat).getD (Int.toNat 0) 0).toNat : Nat) : Int) = 1 := by
    show ((((secOf zs 3 ++ secOf zs 4).getD 0 0).toNat : Nat) : Int) = 1
    rw [hz3]
    rfl
  refine Spec.of_run [] Try.func37 rfl (Nat.le_of_ble_eq_true rfl) (by repeat (first | exact trivial | refine ⟨rfl, ?_⟩)) ?_
  refine Run.seq ?_
  refine Run.region ?_
  refine RunL.ok (OpOk.assign rfl) rfl ?_
  refine RunL.nil ?_
  refine Run.seq ?_
  refine Run.region ?_
  refine RunL.call cal55 rfl (s55) rfl (fun vx1 Ax1 hx1 => ?_)
  obtain ⟨x2, ⟨rfl, rfl⟩⟩ := hx1
  refine RunL.ok (OpOk.assign rfl) rfl ?_
  refine RunL.nil ?_
  refine Run.seq ?_
  refine Run.seq ?_
  refine Run.region ?_
  refine RunL.ok (OpOk.move rfl) rfl ?_
  refine RunL.ok (OpOk.eqlPN rfl rfl) rfl ?_
  refine RunL.ok (OpOk.move rfl) rfl ?_
  refine RunL.on rfl rfl ?_
  refine RunL.ok (OpOk.move rfl) rfl ?_
  refine RunL.on rfl rfl ?_
  refine RunL.call cal51 rfl (s51d (by assumption) rfl (by omega)) rfl (fun vx6 Ax6 hx6 => ?_)
  obtain ⟨x7, ⟨rfl, rfl⟩⟩ := hx6
  refine RunL.on rfl rfl ?_
  refine RunL.ok (OpOk.as (c := false) (OpOk.neq rfl rfl) (by rw [decide_eq_true (by omega)]; rfl)) rfl ?_
  refine RunL.ok (OpOk.pickF rfl rfl) rfl ?_
  refine RunL.nil ?_
  refine Run.condF rfl ?_
  refine Run.skip ?_
  refine Run.seq ?_
  refine Run.region ?_
  refine RunL.ok (OpOk.move rfl) rfl ?_
  rw [hys]
  refine RunL.call cal39 rfl (s39f (by assumption)) rfl (fun vy5 Ay5 hy5 => ?_)
  obtain ⟨y6, ⟨y7, ⟨y8, ⟨rfl, rfl⟩⟩⟩⟩ := hy5
  refine RunL.ok (OpOk.move rfl) rfl ?_
  refine RunL.ok (OpOk.ext20 rfl) rfl ?_
  refine RunL.ok (OpOk.ext21 rfl) rfl ?_
  refine RunL.alloc ti86 rfl (fun by9 => ?_)
  refine RunL.storeAll ti86 rfl rfl rfl (ones rfl) rfl rfl ?_
  refine RunL.ok (OpOk.assign rfl) rfl ?_
  refine RunL.nil ?_
  refine Run.seq ?_
  refine Run.seq ?_
  rw [rw_c]
  rw [rw_i]
  refine Run.region ?_
  refine RunL.ok (OpOk.move rfl) rfl ?_
  refine RunL.ok (OpOk.as (c := false) (OpOk.neq rfl rfl) (by rw [decide_eq_true (by omega)]; rfl)) rfl ?_
  refine RunL.ok (OpOk.move rfl) rfl ?_
  refine RunL.on rfl rfl ?_
  refine RunL.ok (OpOk.fieldAddr fld86_0 rfl) rfl ?_
  refine RunL.on rfl rfl ?_
  refine RunL.ok (OpOk.load rfl rfl rfl (Blk.out Blk.pts _ _ (by first | rfl | assumption))) rfl ?_
  refine RunL.on rfl rfl ?_
  refine RunL.ok (OpOk.as (c := false) (OpOk.neq rfl rfl) (by rw [decide_eq_true (by omega)]; rfl)) rfl ?_
  refine RunL.ok (OpOk.pickF rfl rfl) rfl ?_
  refine RunL.ok (OpOk.move rfl) rfl ?_
  refine RunL.on rfl rfl ?_
  refine RunL.ok (OpOk.fieldAddr fld86_2 rfl) rfl ?_
  refine RunL.on rfl rfl ?_
  refine RunL.ok (OpOk.load rfl rfl rfl (Blk.out Blk.pts _ _ (by first | rfl | assumption))) rfl ?_
  refine RunL.on rfl rfl ?_
  refine RunL.ok (OpOk.as (c := false) (OpOk.neq rfl rfl) (by rw [decide_eq_true (by omega)]; rfl)) rfl ?_
  refine RunL.ok (OpOk.pickF rfl rfl) rfl ?_
  refine RunL.ok (OpOk.move rfl) rfl ?_
  refine RunL.on rfl rfl ?_
  refine RunL.ok (OpOk.fieldAddr fld86_3 rfl) rfl ?_
  refine RunL.on rfl rfl ?_
  refine RunL.ok (OpOk.load rfl rfl rfl (Blk.out Blk.pts _ _ (by first | rfl | assumption))) rfl ?_
  refine RunL.on rfl rfl ?_
  refine RunL.ok (OpOk.as (c := false) (OpOk.neq rfl rfl) (by rw [decide_eq_true (by omega)]; rfl)) rfl ?_
  refine RunL.ok (OpOk.pickF rfl rfl) rfl ?_
  refine RunL.nil ?_
  refine Run.condF rfl ?_
  refine Run.skip ?_
  refine Run.seq ?_
  refine Run.region ?_
  refine RunL.ok (OpOk.move rfl) rfl ?_
  refine RunL.ok (OpOk.loadS rfl rfl ti86 rfl Blk.pts rfl) rfl ?_
  refine RunL.ok (OpOk.build (cells := #[.int (IntKind.i64) (1), .int (IntKind.i64) (2), .int (IntKind.i64) (9), .int (IntKind.i64) (0)]) rfl (fun w => run_build w 111 _ _ (by rfl))) rfl ?_
  refine RunL.litB (xs := [1]) rfl ti5 rfl rfl rfl (by decide) rfl (fun vy10 rdy10 => ?_)
  refine RunL.know (fun w s => (s.conv (frl (frl (frl rfl)))).ownRd0) (fun rdy11 => ?_)
  refine RunL.know (fun w s => (s.conv rfl).ownRd0) (fun rdy12 => ?_)
  refine RunL.mem (frc (frl (frl rfl)) rfl) ?_
  refine RunL.call cal57 rfl (s57k (Rd.right rdy11).left.left (Rd.right rdy12) (by assumption) (by omega) (by assumption)) rfl (fun vy13 Ay13 hy13 => ?_)
  obtain ⟨y14, ⟨y15, ⟨y16, ⟨y17, ⟨rfl, ⟨y18, rfl⟩⟩⟩⟩⟩⟩ := hy13
  refine RunL.ok (OpOk.move rfl) rfl ?_
  refine RunL.ok (OpOk.ext20 rfl) rfl ?_
  refine RunL.ok (OpOk.ext21 rfl) rfl ?_
  refine RunL.alloc ti86 rfl (fun by19 => ?_)
  refine RunL.storeAll ti86 rfl rfl rfl (ones rfl) rfl rfl ?_
  refine RunL.ok (OpOk.assign rfl) rfl ?_
  refine RunL.nil ?_
  refine Run.seq ?_
  refine Run.region ?_
  refine RunL.ok (OpOk.move rfl) rfl ?_
  refine RunL.mem (frc (frl rfl) rfl) ?_
  refine RunL.call cal42 rfl (s42b (by assumption) (by omega) (by omega)) rfl (fun vy21 Ay21 hy21 => ?_)
  obtain ⟨y22, ⟨y23, ⟨rfl, rfl⟩⟩⟩ := hy21
  refine RunL.ok (OpOk.move rfl) rfl ?_
  refine RunL.ok (OpOk.ext20 rfl) rfl ?_
  refine RunL.ok (OpOk.ext21 rfl) rfl ?_
  refine RunL.ok (OpOk.assign rfl) rfl ?_
  refine RunL.ok (OpOk.assign rfl) rfl ?_
  refine RunL.nil ?_
  refine Run.seq ?_
  refine Run.region ?_
  refine RunL.ok (OpOk.move rfl) rfl ?_
  refine RunL.ok (OpOk.asT (OpOk.eql rfl rfl) (by omega)) rfl ?_
  refine RunL.ok (OpOk.move rfl) rfl ?_
  refine RunL.on rfl rfl ?_
  refine RunL.ok (OpOk.move rfl) rfl ?_
  refine RunL.on rfl rfl ?_
  refine RunL.ok (OpOk.asT (OpOk.eql rfl rfl) (by omega)) rfl ?_
  refine RunL.ok (OpOk.pickT rfl rfl) rfl ?_
  refine RunL.ok (OpOk.move rfl) rfl ?_
  refine RunL.on rfl rfl ?_
  refine RunL.ok (OpOk.fieldAddr fld86_2 rfl) rfl ?_
  refine RunL.on rfl rfl ?_
  refine RunL.ok (OpOk.load rfl rfl rfl (Blk.out Blk.pts.left.left.left _ _ (by first | rfl | assumption))) rfl ?_
  refine RunL.on rfl rfl ?_
  refine RunL.ok (OpOk.asT (OpOk.eql rfl rfl) (by omega)) rfl ?_
  refine RunL.ok (OpOk.pickT rfl rfl) rfl ?_
  refine RunL.ok (OpOk.move rfl) rfl ?_
  refine RunL.on rfl rfl ?_
  refine RunL.ok (OpOk.fieldAddr fld86_3 rfl) rfl ?_
  refine RunL.on rfl rfl ?_
  refine RunL.ok (OpOk.load rfl rfl rfl (Blk.out Blk.pts.left.left.left _ _ (by first | rfl | assumption))) rfl ?_
  refine RunL.on rfl rfl ?_
  refine RunL.ok (OpOk.asT (OpOk.eql rfl rfl) (by omega)) rfl ?_
  refine RunL.ok (OpOk.pickT rfl rfl) rfl ?_
  refine RunL.ok (OpOk.move rfl) rfl ?_
  refine RunL.on rfl rfl ?_
  refine RunL.ok (OpOk.fieldAddr fld86_4 rfl) rfl ?_
  refine RunL.on rfl rfl ?_
  refine RunL.ok (OpOk.load rfl rfl rfl (Blk.out Blk.pts.left.left.left _ _ (by first | rfl | assumption))) rfl ?_
  refine RunL.on rfl rfl ?_
  refine RunL.ok (OpOk.lenV rfl rfl rfl) rfl ?_
  refine RunL.on rfl rfl ?_
  refine RunL.ok (OpOk.eql rfl rfl) rfl ?_
  refine RunL.ok (OpOk.pickT rfl rfl) rfl ?_
  refine RunL.ok (OpOk.move rfl) rfl ?_
  refine RunL.on rfl rfl ?_
  refine RunL.ok (OpOk.move rfl) rfl ?_
  refine RunL.on rfl rfl ?_
  refine RunL.know (fun w s => (s.conv (frl rfl)).ownRd0) (fun rdy24 => ?_)
  refine RunL.ok (OpOk.lenR rfl rfl (Rd.right rdy24).left rfl) rfl ?_
  refine RunL.on rfl rfl ?_
  refine RunL.ok (OpOk.asT (OpOk.eql rfl rfl) (by omega)) rfl ?_
  refine RunL.ok (OpOk.pickT rfl rfl) rfl ?_
  refine RunL.ok (OpOk.move rfl) rfl ?_
  refine RunL.on rfl rfl ?_
  refine RunL.ok (OpOk.move rfl) rfl ?_
  refine RunL.on rfl rfl ?_
  refine RunL.ok (OpOk.idx1 rfl ti5 rfl (Rd.right rdy24).left rfl (by omega) (by omega)) rfl ?_
  refine RunL.on rfl rfl ?_
  refine RunL.ok (OpOk.load rfl rfl rfl (Rd.getB (Rd.right rdy24).left (by omega))) rfl ?_
  refine RunL.on rfl rfl ?_
  refine RunL.ok (OpOk.asT (OpOk.eql rfl rfl) (by omega)) rfl ?_
  refine RunL.ok (OpOk.pickT rfl rfl) rfl ?_
  refine RunL.ok (OpOk.assign rfl) rfl ?_
  refine RunL.nil ?_
  refine Run.ret1 Try.func37 rfl rfl ?_
  exact ⟨_, rfl, (asg (asg (asg (asg (asg (asg (asg (asg (asg (asg as1))))))))))⟩
end
end Go.Proofs.Yteopadjihklkmaa
end
