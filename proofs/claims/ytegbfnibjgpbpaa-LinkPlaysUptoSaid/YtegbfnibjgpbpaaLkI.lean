/- The pool's scripts: their operations, the closure that is swept with. -/
import Derived.Test.YtegbfnibjgpbpaaLkH
import Derived.Test.YtegbfnibjgpbpaaSto
import Derived.Test.YtegbfnibjgpbpaaCow
namespace Go.Proofs.Ytegbfnibjgpbpaa
open Go Go.Proofs
set_option maxRecDepth 100000
set_option maxHeartbeats 4000000
set_option linter.unusedSimpArgs false
abbrev LOp := Int × Int × List UInt8 × SV × List (List UInt8)
def encT39 : LOp → List Value := fun (k, i, s, v, _) => [.int .i64 k, .int .i64 i, S s, v.1]
instance : OneC encT39 := ⟨fun ⟨k, i, s, v, l⟩ u hu => by
  simp only [encT39, List.mem_cons, List.not_mem_nil, or_false] at hu
  rcases hu with rfl | rfl | rfl | rfl
  · rfl
  · rfl
  · rfl
  · exact v.2⟩
structure LOpG (w0 : World) (o : LOp) : Prop where
  rd : Rd w0 (old w0) o.2.2.2.1.1 1 o.2.2.2.2.length (Fl encS o.2.2.2.2)
  hi : -9223372036854775808 ≤ o.2.1 ∧ o.2.1 ≤ 9223372036854775807
section
variable {w0 : World} {A : Asn} {p : Nat} {v : Value} {ss : List (List UInt8)}
theorem playsC {b1 b2 b3 b4 : Nat} {lv : Value} {i : Nat} {k oi : Int} {o x : List UInt8} {os : SV} {ol : List (List UInt8)} (hi : i < ss.length) (hx : ss.getD i default = x) (hs : ss.length ≤ 4194304) :
    Spec Try.prog w0 29 [S x, .pointer (some ⟨b1, 0, none⟩), .pointer (some ⟨b2, 0, none⟩), .pointer (some ⟨b3, 0, none⟩), .pointer (some ⟨b4, 0, none⟩)] (A * pts b1 (.cells #[.bool true] 4 (0, 0)) * pts b2 (.cells #[.int .i64 (i : Int)] 3 (0, 0)) * pts b3 (.cells #[lv] 22 (0, 0)) * own 9 1 lv ss.length (Fl encS ss) * pts b4 (.cells (Value.agg (encT39 (k, oi, o, os, ol)).toArray).cells 39 (0, 0)))
      (fun v' A' => v' = .bool (decide (x = o)) ∧ A' = A * pts b1 (.cells #[.bool true] 4 (0, 0)) * pts b2 (.cells #[.int .i64 ((i + 1 : Nat) : Int)] 3 (0, 0)) * pts b3 (.cells #[lv] 22 (0, 0)) * own 9 1 lv ss.length (Fl encS ss) * pts b4 (.cells (Value.agg (encT39 (k, oi, o, os, ol)).toArray).cells 39 (0, 0))) := by
  refine Spec.of_run [(0, S x), (1, .pointer (some ⟨b1, 0, none⟩)), (2, .pointer (some ⟨b2, 0, none⟩)), (3, .pointer (some ⟨b3, 0, none⟩)), (4, .pointer (some ⟨b4, 0, none⟩))] Try.func29 rfl (Nat.le_of_ble_eq_true rfl) (by repeat (first | exact trivial | refine ⟨rfl, ?_⟩)) ?_
  refine Run.seq ?_
  refine Run.region ?_
  refine RunL.ok (OpOk.assign rfl) rfl ?_
  refine RunL.nil ?_
  refine Run.seq ?_
  refine Run.region ?_
  refine RunL.ok (OpOk.load rfl rfl rfl (Blk.out Blk.pts.left.left.left.left _ _ (by first | rfl | assumption))) rfl ?_
  refine RunL.ok (OpOk.move rfl) rfl ?_
  refine RunL.on rfl rfl ?_
  refine RunL.ok (OpOk.load rfl rfl rfl (Blk.out Blk.pts.left.left.left _ _ (by first | rfl | assumption))) rfl ?_
  refine RunL.on rfl rfl ?_
  refine RunL.ok (OpOk.load rfl rfl rfl (Blk.out Blk.pts.left.left _ _ (by first | rfl | assumption))) rfl ?_
  refine RunL.on rfl rfl ?_
  refine RunL.know (fun w s => (s.conv (frl rfl)).ownRd0) (fun rdx1 => ?_)
  refine RunL.ok (OpOk.lenR rfl rfl (Rd.right rdx1).left rfl) rfl ?_
  refine RunL.on rfl rfl ?_
  refine RunL.ok (OpOk.asT (OpOk.lss rfl rfl) (by omega)) rfl ?_
  refine RunL.ok (OpOk.pickT rfl rfl) rfl ?_
  refine RunL.ok (OpOk.move rfl) rfl ?_
  refine RunL.on rfl rfl ?_
  refine RunL.ok (OpOk.load rfl rfl rfl (Blk.out Blk.pts.left.left _ _ (by first | rfl | assumption))) rfl ?_
  refine RunL.on rfl rfl ?_
  refine RunL.ok (OpOk.load rfl rfl rfl (Blk.out Blk.pts.left.left.left _ _ (by first | rfl | assumption))) rfl ?_
  refine RunL.on rfl rfl ?_
  refine RunL.ok (OpOk.idx1N rfl ti9 rfl (Rd.right rdx1).left rfl (by omega)) rfl ?_
  refine RunL.on rfl rfl ?_
  refine RunL.ok (OpOk.loadStr rfl rfl rfl (Rd.right rdx1).left (by omega)) rfl ?_
  refine RunL.on rfl rfl ?_
  refine RunL.ok (OpOk.move rfl) rfl ?_
  refine RunL.on rfl rfl ?_
  refine RunL.ok (OpOk.asT (OpOk.eqlSS rfl rfl) (by omega)) rfl ?_
  refine RunL.ok (OpOk.pickT rfl rfl) rfl ?_
  refine RunL.store ti4 rfl rfl rfl (frl (frl (frl (frl rfl)))) (by exact Nat.le_of_ble_eq_true rfl) (.inl rfl) ?_
  refine RunL.nil ?_
  refine Run.seq ?_
  refine Run.region ?_
  refine RunL.ok (OpOk.load rfl rfl rfl (Blk.out Blk.pts.left.left.left.left _ _ (by first | rfl | assumption))) rfl ?_
  refine RunL.ok (OpOk.addN _ 1 rfl rfl rfl rfl (by omega)) rfl ?_
  refine RunL.store ti3 rfl rfl rfl (frl (frl (frl (frl rfl)))) (by exact Nat.le_of_ble_eq_true rfl) (.inl rfl) ?_
  refine RunL.nil ?_
  refine Run.seq ?_
  refine Run.region ?_
  refine RunL.ok (OpOk.move rfl) rfl ?_
  refine RunL.ok (OpOk.fieldAddr fld39_2 rfl) rfl ?_
  refine RunL.ok (OpOk.load rfl rfl rfl (Blk.out Blk.pts.left.left _ _ (by first | rfl | assumption))) rfl ?_
  refine RunL.ok (OpOk.eqlSS rfl rfl) rfl ?_
  refine RunL.ok (OpOk.assign rfl) rfl ?_
  refine RunL.nil ?_
  refine Run.keep (A * pts b1 (Obj.cells #[Value.bool true] 4) * pts b2 (Obj.cells #[Value.int IntKind.i64 ↑(i + 1)] 3) *       pts b3 (Obj.cells #[lv] 22) *     own 9 1 lv ss.length (Fl encS ss) *   pts b4 (Obj.cells (Value.agg (encT39 (k, oi, o, os, ol)).toArray).cells 39)) (Grew.of (frc (frl (frl rfl)) (frc (frl (frl rfl)) (frc (frl (frl rfl)) (frc rfl (frc rfl rfl))))) (Grew.refl _)) ?_
  refine Run.ret1 Try.func29 rfl rfl ?_
  exact ⟨rfl, rfl⟩
theorem s16f {b1 b2 b3 b4 : Nat} {lv : Value} {k oi : Int} {o : List UInt8} {os : SV} {ol : List (List UInt8)} (hs : ss.length ≤ 4194304) :
    Spec Try.prog w0 16 [.pointer (some ⟨p, 0, none⟩), .func (.func 29) #[] #[.pointer (some ⟨b1, 0, none⟩), .pointer (some ⟨b2, 0, none⟩), .pointer (some ⟨b3, 0, none⟩), .pointer (some ⟨b4, 0, none⟩)]] (A * pts b1 (.cells #[.bool true] 4 (0, 0)) * pts b2 (.cells #[.int .i64 0] 3 (0, 0)) * pts b3 (.cells #[lv] 22 (0, 0)) * own 9 1 lv ss.length (Fl encS ss) * pts b4 (.cells (Value.agg (encT39 (k, oi, o, os, ol)).toArray).cells 39 (0, 0)) * pts p (.cells #[v] 26 (0, 0)) * own 9 1 v (ss).length (Fl encS (ss)))
      (fun v' A' => ∃ J v2, A' = A * J * pts b1 (.cells #[.bool true] 4 (0, 0)) * pts b2 (.cells #[.int .i64 (ss.length : Int)] 3 (0, 0)) * pts b3 (.cells #[lv] 22 (0, 0)) * own 9 1 lv ss.length (Fl encS ss) * pts b4 (.cells (Value.agg (encT39 (k, oi, o, os, ol)).toArray).cells 39 (0, 0)) * pts p (.cells #[v2] 26 (0, 0)) * own 9 1 v2 (only o true ss).length (Fl encS (only o true ss)) * own 9 1 v' (only o false ss).length (Fl encS (only o false ss))) := by
  have h := sweep (w0 := w0) (A := A) (p := p) (v := v) (ss := ss) (Y := Nat) (fun i y => y = i) (fun y => pts b1 (.cells #[.bool true] 4 (0, 0)) * pts b2 (.cells #[.int .i64 (y : Int)] 3 (0, 0)) * pts b3 (.cells #[lv] 22 (0, 0)) * own 9 1 lv ss.length (Fl encS ss) * pts b4 (.cells (Value.agg (encT39 (k, oi, o, os, ol)).toArray).cells 39 (0, 0))) (fun x => decide (x = o)) (kf := 29) (cap := [.pointer (some ⟨b1, 0, none⟩), .pointer (some ⟨b2, 0, none⟩), .pointer (some ⟨b3, 0, none⟩), .pointer (some ⟨b4, 0, none⟩)]) cal29 (fun i y X hi hy => by
    subst hy
    refine Spec.mem (by ac_rfl) ((playsC (w0 := w0) (A := X) (b1 := b1) (b2 := b2) (b3 := b3) (b4 := b4) (lv := lv) (k := k) (oi := oi) (o := o) (os := os) (ol := ol) hi rfl hs).mono ?_)
    rintro v' A' ⟨rfl, rfl⟩
    exact ⟨rfl, y + 1, emp, rfl, by rw [sep_emp]; ac_rfl⟩) 0 rfl hs
  rw [only_F1, only_T1] at h
  refine (Spec.mem (by ac_rfl) h).mono ?_
  rintro v' A' ⟨y, J, v2, rfl, rfl⟩
  exact ⟨J, v2, by ac_rfl⟩
end
end Go.Proofs.Ytegbfnibjgpbpaa
