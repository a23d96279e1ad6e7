/- The makers of looks that hold maps; what the looks say. -/
import Derived.Test.YteopadjihklkmaaAuB
import Derived.Test.YteopadjihklkmaaPos
namespace Go.Proofs.Yteopadjihklkmaa
open Go Go.Proofs
set_option maxRecDepth 100000
set_option maxHeartbeats 4000000
set_option linter.unusedSimpArgs false
abbrev Jn := Int × Int × Int × Int × Int × Int × Int × Int × Int × Int
def encT47 (j : Jn) : List Value := [.int .i64 j.1, .int .i64 j.2.1, .int .i64 j.2.2.1, .int .i64 j.2.2.2.1, .int .i64 j.2.2.2.2.1, .int .i64 j.2.2.2.2.2.1, .int .i64 j.2.2.2.2.2.2.1, .int .i64 j.2.2.2.2.2.2.2.1, .int .i64 j.2.2.2.2.2.2.2.2.1, .int .i64 j.2.2.2.2.2.2.2.2.2]
instance : OneC encT47 := ⟨fun a u hu => by
  simp only [encT47, List.mem_cons, List.not_mem_nil, or_false] at hu
  rcases hu with rfl | rfl | rfl | rfl | rfl | rfl | rfl | rfl | rfl | rfl <;> rfl⟩
theorem setT137 : SetT Try.prog 137 := ⟨_, _, Try.underlying137, key2 two139, fun w => by rfl⟩
abbrev ekT188 := k2
abbrev vvT188 : Jn → Value := fun j => .agg (encT47 j).toArray
theorem mapT188 : MapT Try.prog 188 k2 vvT188 (.agg (encT47 (0, 0, 0, 0, 0, 0, 0, 0, 0, 0)).toArray) := ⟨_, _, Try.underlying188, key2 two139, fun w => by rfl⟩
theorem OpOk.lenSet0 {P : Program} {n : Nat} {w0 : World} {E : Env} {A : Asn} {ty : TypeId} {x : Operand} {b : Nat} {c : Array TypeId} {t kt et : TypeId} (hu : P.underlying t = some (.map kt et)) (h : SetAt w0 A b []) (hx : ev E x = some (.map (some b))) (hc : c = #[t]) : OpOk P n w0 (.call { callee := .builtin .len, args := #[x], argTypes := c }) ty E A (.int .i64 0) := by
  subst hc
  refine .read fun f w _ _ _ _ he hs => ?_
  obtain ⟨es, clock, m, hb, hm, hg⟩ := h.out w hs
  have hm0 : m = [] := by
    cases m with
    | nil => rfl
    | cons p r =>
      have := hg p.1
      simp [mget] at this
  subst hm0
  have hl : es.size = 0 := by have := congrArg List.length hm; simpa using this
  simp [execOp, he.eval hx, resolve, invoke, builtin, Builtin.len_, run_underlying hu, MapKept.run_getObj_map hb, goInt, Result.andThen, hl]
/-- What Whole has when no journey is told. -/
def wholeA (b : Nat) : Asn := setA b []
section
variable {w0 : World} {A : Asn}
theorem s60 : Spec Try.prog w0 60 [] A (fun v' A' => ∃ b, v' = .iface 185 (.agg #[.map (some b)]) ∧ A' = A * setA b []) := by
  refine Spec.of_run [] Try.func60 rfl (Nat.le_of_ble_eq_true rfl) (by repeat (first | exact trivial | refine ⟨rfl, ?_⟩)) ?_
  refine Run.seq ?_
  refine Run.region ?_
  refine RunL.ok (OpOk.assign rfl) rfl ?_
  refine RunL.nil ?_
  refine Run.seq ?_
  refine Run.region ?_
  refine RunL.makeS rfl (fun bx1 => ?_)
  refine RunL.ok (OpOk.build (cells := #[.map (some bx1)]) rfl (fun w => run_build w 185 _ _ (by rfl))) rfl ?_
  refine RunL.ok (OpOk.makeIface (fun w => by kernel_rfl) rfl) rfl ?_
  refine RunL.ok (OpOk.assign rfl) rfl ?_
  refine RunL.nil ?_
  refine Run.ret1 Try.func60 rfl rfl ?_
  exact ⟨_, rfl, rfl⟩
theorem s62 : Spec Try.prog w0 62 [.slice none 0 0] A (fun v' A' => ∃ b J, v' = .iface 190 (.agg #[.map (some b)]) ∧ A' = A * J * mapA k2 vvT188 b ([] : List ((Int × Int) × Jn))) := by
  refine Spec.of_run [(0, .slice none 0 0)] Try.func62 rfl (Nat.le_of_ble_eq_true rfl) (by repeat (first | exact trivial | refine ⟨rfl, ?_⟩)) ?_
  refine Run.seq ?_
  refine Run.region ?_
  refine RunL.ok (OpOk.assign rfl) rfl ?_
  refine RunL.nil ?_
  refine Run.seq ?_
  refine Run.region ?_
  refine RunL.makeM (ek := ekT188) (vv := vvT188) rfl (fun bx1 => ?_)
  refine RunL.ok (OpOk.build (cells := #[.map (some bx1)]) rfl (fun w => run_build w 190 _ _ (by rfl))) rfl ?_
  refine RunL.alloc ti190 rfl (fun bx2 => ?_)
  refine RunL.storeAll ti190 rfl rfl rfl (ones rfl) rfl rfl ?_
  refine RunL.nil ?_
  refine Run.seq ?_
  refine Run.seq ?_
  refine Run.region ?_
  refine RunL.ok (OpOk.move rfl) rfl ?_
  refine RunL.ok (OpOk.lenV rfl rfl rfl) rfl ?_
  refine RunL.ok (OpOk.move rfl) rfl ?_
  refine RunL.nil ?_
  refine Run.block ?_
  refine Run.jump ((Run.loopJ (X := Unit) (fun _ => [(13, .int .i64 0), (12, .int .i64 0), (11, .slice none 0 0), (3, .pointer (some ⟨bx2, 0, none⟩))]) (fun _ => A * mapA k2 vvT188 bx1 ([] : List ((Int × Int) × Jn)) * pts bx2 (.cells (Value.agg #[.map (some bx1)]).cells 190 (0, 0))) (fun _ => True) (fun _ => 0) () trivial (fun x hx ih => ?_))) ⟨rfl, rfl, rfl, rfl, trivial⟩ ((Grew.refl _))
  clear ih
  refine Run.seq ?_
  refine Run.region ?_
  refine RunL.ok (OpOk.asF (OpOk.lss rfl rfl) (by omega)) rfl ?_
  refine RunL.nil ?_
  refine Run.seq ?_
  refine Run.condF rfl ?_
  refine Run.exit rfl ?_
  refine Run.seq ?_
  refine Run.region ?_
  refine RunL.ok (OpOk.loadS rfl rfl ti190 rfl Blk.pts rfl) rfl ?_
  refine RunL.ok (OpOk.makeIface (fun w => by kernel_rfl) rfl) rfl ?_
  refine RunL.ok (OpOk.assign rfl) rfl ?_
  refine RunL.nil ?_
  refine Run.ret1 Try.func62 rfl rfl ?_
  exact ⟨_, _, rfl, (Eq.trans (frc (frl rfl) rfl) (congrArg (· * _) as1))⟩
theorem s63 : Spec Try.prog w0 63 [.slice none 0 0] A (fun v' A' => ∃ b J, v' = .iface 193 (.agg #[.map (some b)]) ∧ A' = A * J * wholeA b) := by
  refine Spec.of_run [(0, .slice none 0 0)] Try.func63 rfl (Nat.le_of_ble_eq_true rfl) (by repeat (first | exact trivial | refine ⟨rfl, ?_⟩)) ?_
  refine Run.seq ?_
  refine Run.region ?_
  refine RunL.ok (OpOk.assign rfl) rfl ?_
  refine RunL.nil ?_
  refine Run.seq ?_
  refine Run.region ?_
  refine RunL.makeS rfl (fun bx1 => ?_)
  refine RunL.ok (OpOk.build (cells := #[.map (some bx1)]) rfl (fun w => run_build w 193 _ _ (by rfl))) rfl ?_
  refine RunL.alloc ti193 rfl (fun bx2 => ?_)
  refine RunL.storeAll ti193 rfl rfl rfl (ones rfl) rfl rfl ?_
  refine RunL.nil ?_
  refine Run.seq ?_
  refine Run.seq ?_
  refine Run.region ?_
  refine RunL.ok (OpOk.move rfl) rfl ?_
  refine RunL.ok (OpOk.lenV rfl rfl rfl) rfl ?_
  refine RunL.ok (OpOk.move rfl) rfl ?_
  refine RunL.nil ?_
  refine Run.block ?_
  refine Run.jump ((Run.loopJ (X := Unit) (fun _ => [(10, .int .i64 0), (9, .int .i64 0), (8, .slice none 0 0), (3, .pointer (some ⟨bx2, 0, none⟩))]) (fun _ => A * setA bx1 [] * pts bx2 (.cells (Value.agg #[.map (some bx1)]).cells 193 (0, 0))) (fun _ => True) (fun _ => 0) () trivial (fun x hx ih => ?_))) ⟨rfl, rfl, rfl, rfl, trivial⟩ ((Grew.refl _))
  clear ih
  refine Run.seq ?_
  refine Run.region ?_
  refine RunL.ok (OpOk.asF (OpOk.lss rfl rfl) (by omega)) rfl ?_
  refine RunL.nil ?_
  refine Run.seq ?_
  refine Run.condF rfl ?_
  refine Run.exit rfl ?_
  refine Run.seq ?_
  refine Run.region ?_
  refine RunL.ok (OpOk.loadS rfl rfl ti193 rfl Blk.pts rfl) rfl ?_
  refine RunL.ok (OpOk.makeIface (fun w => by kernel_rfl) rfl) rfl ?_
  refine RunL.ok (OpOk.assign rfl) rfl ?_
  refine RunL.nil ?_
  refine Run.ret1 Try.func63 rfl rfl ?_
  refine ⟨bx1, pts bx2 (.cells (Value.agg #[.map (some bx1)]).cells 193 (0, 0)), rfl, ?_⟩
  unfold wholeA
  ac_rfl
theorem s138 {b : Nat} {ks : List (Int × Int)} {p : Po} :
    Spec Try.prog w0 138 [.agg #[.map (some b)], .agg (encT126 p).toArray] (A * setA b ks) (fun v' A' => ∃ J, v' = .bool (!decide ((p.1, p.2.1) ∈ ks)) ∧ A' = A * J * setA b (ks ++ [(p.1, p.2.1)])) := by
  have hone := p.2.2.1.2
  refine Spec.of_run [(0, .agg #[.map (some b)]), (1, .agg (encT126 p).toArray)] Try.func138 rfl (Nat.le_of_ble_eq_true rfl) (by repeat (first | exact trivial | refine ⟨rfl, ?_⟩)) ?_
  refine Run.seq ?_
  refine Run.region ?_
  refine RunL.box rfl rfl (fun bx1 => ?_)
  refine RunL.box rfl rfl (fun bx2 => ?_)
  refine RunL.ok (OpOk.assign rfl) rfl ?_
  refine RunL.nil ?_
  refine Run.seq ?_
  refine Run.region ?_
  refine RunL.ok (OpOk.fieldAddr fld126_0 rfl) rfl ?_
  refine RunL.ok (OpOk.load rfl rfl rfl (Blk.out Blk.pts _ _ (by first | rfl | assumption))) rfl ?_
  refine RunL.ok (OpOk.fieldAddr fld126_1 rfl) rfl ?_
  refine RunL.ok (OpOk.load rfl rfl rfl (Blk.out Blk.pts _ _ (by first | rfl | assumption))) rfl ?_
  refine RunL.ok (OpOk.build (cells := #[.int (IntKind.i64) (p.fst), .int (IntKind.i64) (p.snd.fst)]) rfl (fun w => run_build w 139 _ _ (by rfl))) rfl ?_
  refine RunL.alloc ti139 rfl (fun bx3 => ?_)
  refine RunL.storeAll ti139 rfl rfl rfl (ones rfl) rfl rfl ?_
  refine RunL.nil ?_
  refine Run.seq ?_
  refine Run.region ?_
  refine RunL.ok (OpOk.fieldAddr fld185_1 rfl) rfl ?_
  refine RunL.ok (OpOk.load rfl rfl rfl (Blk.out Blk.pts.left.left _ _ (by first | rfl | assumption))) rfl ?_
  refine RunL.ok (OpOk.loadS rfl rfl ti139 rfl Blk.pts rfl) rfl ?_
  refine RunL.ok (OpOk.lookS setT137 SetAt.here.left.left.left rfl rfl) rfl ?_
  refine RunL.ok (OpOk.assign rfl) rfl ?_
  refine RunL.nil ?_
  refine Run.seq ?_
  refine Run.region ?_
  refine RunL.ok (OpOk.fieldAddr fld185_1 rfl) rfl ?_
  refine RunL.ok (OpOk.load rfl rfl rfl (Blk.out Blk.pts.left.left _ _ (by first | rfl | assumption))) rfl ?_
  refine RunL.ok (OpOk.loadS rfl rfl ti139 rfl Blk.pts rfl) rfl ?_
  refine RunL.putS setT137 rfl rfl rfl (frl (frl (frl rfl))) ?_
  refine RunL.nil ?_
  refine Run.seq ?_
  refine Run.region ?_
  refine RunL.ok (OpOk.move rfl) rfl ?_
  refine RunL.ok (OpOk.not rfl) rfl ?_
  refine RunL.ok (OpOk.assign rfl) rfl ?_
  refine RunL.nil ?_
  refine Run.ret1 Try.func138 rfl rfl ?_
  exact ⟨_, rfl, (congrArg (· * _) (asg (asg as1)))⟩
theorem s139 {p : Po} (rd : Rd w0 A p.2.2.1.1 2 p.2.2.2.length (Fl encT132 p.2.2.2)) (hin : ∀ s ∈ p.2.2.2, inI s.2) (hlim : p.2.2.2.length ≤ 8796093022208) :
    Spec Try.prog w0 139 [.agg #[], .agg (encT126 p).toArray] A (fun v' A' => ∃ J, v' = .bool (decide (sumO 0 (p.2.2.2.map Prod.snd) = some 0)) ∧ A' = A * J) := by
  have hone := p.2.2.1.2
  refine Spec.of_run [(0, .agg #[]), (1, .agg (encT126 p).toArray)] Try.func139 rfl (Nat.le_of_ble_eq_true rfl) (by repeat (first | exact trivial | refine ⟨rfl, ?_⟩)) ?_
  refine Run.seq ?_
  refine Run.region ?_
  refine RunL.box rfl rfl (fun bx1 => ?_)
  refine RunL.box rfl rfl (fun bx2 => ?_)
  refine RunL.ok (OpOk.assign rfl) rfl ?_
  refine RunL.nil ?_
  refine Run.seq ?_
  refine Run.region ?_
  refine RunL.ok (OpOk.fieldAddr fld126_2 rfl) rfl ?_
  refine RunL.ok (OpOk.load rfl rfl rfl (Blk.out Blk.pts _ _ (by first | rfl | assumption))) rfl ?_
  refine RunL.call cal140 rfl (s140 rd.left.left (by assumption) (by assumption)) rfl (fun vx3 Ax3 hx3 => ?_)
  obtain ⟨x4, ⟨rfl, rfl⟩⟩ := hx3
  refine RunL.ok (OpOk.assign rfl) rfl ?_
  refine RunL.nil ?_
  refine Run.ret1 Try.func139 rfl rfl ?_
  exact ⟨_, rfl, (asg (asg as1))⟩
theorem s141 {b : Nat} {p : Po} :
    Spec Try.prog w0 141 [.agg #[.map (some b)], .agg (encT126 p).toArray] (A * mapA k2 vvT188 b ([] : List ((Int × Int) × Jn))) (fun v' A' => ∃ J, v' = .bool false ∧ A' = A * J * mapA k2 vvT188 b ([] : List ((Int × Int) × Jn))) := by
  have hone := p.2.2.1.2
  have hg : mget ([] : List ((Int × Int) × Jn)) (p.1, p.2.1) = none := rfl
  refine Spec.of_run [(0, .agg #[.map (some b)]), (1, .agg (encT126 p).toArray)] Try.func141 rfl (Nat.le_of_ble_eq_true rfl) (by repeat (first | exact trivial | refine ⟨rfl, ?_⟩)) ?_
  refine Run.seq ?_
  refine Run.region ?_
  refine RunL.box rfl rfl (fun bx1 => ?_)
  refine RunL.box rfl rfl (fun bx2 => ?_)
  refine RunL.ok (OpOk.assign rfl) rfl ?_
  refine RunL.nil ?_
  refine Run.seq ?_
  refine Run.region ?_
  refine RunL.ok (OpOk.fieldAddr fld190_1 rfl) rfl ?_
  refine RunL.ok (OpOk.load rfl rfl rfl (Blk.out Blk.pts.left _ _ (by first | rfl | assumption))) rfl ?_
  refine RunL.ok (OpOk.fieldAddr fld126_0 rfl) rfl ?_
  refine RunL.ok (OpOk.load rfl rfl rfl (Blk.out Blk.pts _ _ (by first | rfl | assumption))) rfl ?_
  refine RunL.ok (OpOk.fieldAddr fld126_1 rfl) rfl ?_
  refine RunL.ok (OpOk.load rfl rfl rfl (Blk.out Blk.pts _ _ (by first | rfl | assumption))) rfl ?_
  refine RunL.ok (OpOk.build (cells := #[.int (IntKind.i64) (p.fst), .int (IntKind.i64) (p.snd.fst)]) rfl (fun w => run_build w 139 _ _ (by rfl))) rfl ?_
  refine RunL.ok (OpOk.lookOkF (a := (p.fst, p.snd.fst)) mapT188 MapAt.here.left.left rfl rfl (by first | assumption | rfl)) rfl ?_
  refine RunL.ok (OpOk.move rfl) rfl ?_
  refine RunL.ok (OpOk.ext20 rfl) rfl ?_
  refine RunL.ok (OpOk.ext21 rfl) rfl ?_
  refine RunL.alloc ti47 rfl (fun bx3 => ?_)
  refine RunL.storeAll ti47 rfl rfl rfl (fun w hw => OneC.one (enc := encT47) ((0, 0, 0, 0, 0, 0, 0, 0, 0, 0)) w hw) rfl rfl ?_
  refine RunL.ok (OpOk.assign rfl) rfl ?_
  refine RunL.nil ?_
  refine Run.seq ?_
  refine Run.seq ?_
  (apply Run.drawD [] (by rfl) (sep_emp _).symm; case hchk => kernel_rfl)
  refine Sd.quiet 0 _ _ rfl rfl rfl rfl rfl (QOp.ok (fun X => OpOk.move rfl)) ?_
  refine Sd.quiet 1 _ _ rfl rfl rfl rfl rfl (QOp.ok (fun X => OpOk.not rfl)) ?_
  refine Sd.quiet 2 _ _ rfl rfl rfl rfl rfl (QOp.ok (fun X => OpOk.move rfl)) ?_
  refine Sd.skip 3 _ rfl rfl rfl rfl rfl ?_
  refine Sd.skip 4 _ rfl rfl rfl rfl rfl ?_
  refine Sd.skip 5 _ rfl rfl rfl rfl rfl ?_
  refine Sd.skip 6 _ rfl rfl rfl rfl rfl ?_
  refine Sd.quiet 7 _ _ rfl rfl rfl rfl rfl (QOp.ok (fun X => OpOk.pickT rfl rfl)) ?_
  refine Sd.quiet 8 _ _ rfl rfl rfl rfl rfl (QOp.ok (fun X => OpOk.move rfl)) ?_
  refine Sd.skip 9 _ rfl rfl rfl rfl rfl ?_
  refine Sd.skip 10 _ rfl rfl rfl rfl rfl ?_
  refine Sd.skip 11 _ rfl rfl rfl rfl rfl ?_
  refine Sd.skip 12 _ rfl rfl rfl rfl rfl ?_
  refine Sd.skip 13 _ rfl rfl rfl rfl rfl ?_
  refine Sd.skip 14 _ rfl rfl rfl rfl rfl ?_
  refine Sd.skip 15 _ rfl rfl rfl rfl rfl ?_
  refine Sd.skip 16 _ rfl rfl rfl rfl rfl ?_
  refine Sd.skip 17 _ rfl rfl rfl rfl rfl ?_
  refine Sd.skip 18 _ rfl rfl rfl rfl rfl ?_
  refine Sd.skip 19 _ rfl rfl rfl rfl rfl ?_
  refine Sd.quiet 20 _ _ rfl rfl rfl rfl rfl (QOp.ok (fun X => OpOk.pickT rfl rfl)) ?_
  (apply Sd.tail; case hall => kernel_rfl)
  refine RunL.mem (fl2 (sep_emp _) (sep_emp _)) ?_
  refine RunL.nil ?_
  refine Run.condT rfl ?_
  refine Run.seq ?_
  refine Run.region ?_
  refine RunL.ok (OpOk.assign rfl) rfl ?_
  refine RunL.nil ?_
  refine Run.ret1 Try.func141 rfl rfl ?_
  exact ⟨_, rfl, (Eq.trans (frc (frl (frl (frl rfl))) rfl) (congrArg (· * _) (asg (asg as1))))⟩
theorem s142 {b : Nat} :
    Spec Try.prog w0 142 [.agg #[.map (some b)]] (A * setA b []) (fun v' A' => ∃ J, v' = .bool true ∧ A' = A * J * setA b []) := by
  refine Spec.of_run [(0, .agg #[.map (some b)])] Try.func142 rfl (Nat.le_of_ble_eq_true rfl) (by repeat (first | exact trivial | refine ⟨rfl, ?_⟩)) ?_
  refine Run.seq ?_
  refine Run.region ?_
  refine RunL.box rfl rfl (fun bx1 => ?_)
  refine RunL.ok (OpOk.assign rfl) rfl ?_
  refine RunL.nil ?_
  refine Run.seq ?_
  refine Run.region ?_
  refine RunL.ok (OpOk.fieldAddr fld193_0 rfl) rfl ?_
  refine RunL.ok (OpOk.load rfl rfl rfl (Blk.out Blk.pts _ _ (by first | rfl | assumption))) rfl ?_
  refine RunL.ok (OpOk.lenSet0 Try.underlying137 (by first | exact SetAt.here | exact SetAt.here.left) rfl rfl) rfl ?_
  refine RunL.ok (OpOk.asT (OpOk.eql rfl rfl) (by omega)) rfl ?_
  refine RunL.ok (OpOk.assign rfl) rfl ?_
  refine RunL.nil ?_
  refine Run.ret1 Try.func142 rfl rfl ?_
  exact ⟨_, rfl, (Eq.trans (frc (frl rfl) rfl) (congrArg (· * _) as1))⟩
end
end Go.Proofs.Yteopadjihklkmaa
