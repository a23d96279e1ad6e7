/- A file that only grows. -/
import Derived.Test.YteopadjihklkmaaCat
namespace Go.Proofs.Yteopadjihklkmaa
open Go Go.Proofs
set_option maxRecDepth 100000
set_option maxHeartbeats 4000000
theorem s24a {w0 : World} {A : Asn} {s : Int} (hs : s < 0) : Spec Try.prog w0 24 [.int .i64 s] A (fun v' A' => v' = .tuple #[.pointer none, .int .i64 2] ∧ A' = A) := by
  refine Spec.of_run [(0, .int .i64 s)] Try.func24 rfl (Nat.le_of_ble_eq_true rfl) (by repeat (first | exact trivial | refine ⟨rfl, ?_⟩)) ?_
  refine Run.seq ?_
  refine Run.region ?_
  refine RunL.ok (OpOk.assign rfl) rfl ?_
  refine RunL.ok (OpOk.assign rfl) rfl ?_
  refine RunL.nil ?_
  refine Run.seq ?_
  refine Run.seq ?_
  refine Run.region ?_
  refine RunL.ok (OpOk.move rfl) rfl ?_
  refine RunL.ok (OpOk.asT (OpOk.lss rfl rfl) (by omega)) rfl ?_
  refine RunL.nil ?_
  refine Run.condT rfl ?_
  refine Run.seq ?_
  refine Run.region ?_
  refine RunL.ok (OpOk.assign rfl) rfl ?_
  refine RunL.ok (OpOk.assign rfl) rfl ?_
  refine RunL.nil ?_
  refine Run.ret2 Try.func24 rfl rfl rfl ?_
  exact ⟨rfl, rfl⟩
theorem s24b {w0 : World} {A : Asn} {s : Int} (hs : 0 ≤ s) : Spec Try.prog w0 24 [.int .i64 s] A (fun v' A' => ∃ p v, v' = .tuple #[.pointer (some ⟨p, 0, none⟩), .int .i64 0] ∧ A' = A * pts p (.cells #[.int .i64 (s), .int .i64 (-1), v] 145 (0, 0)) * own 5 1 v ((List.nil : List UInt8)).length (B ((List.nil : List UInt8)))) := by
  refine Spec.of_run [(0, .int .i64 s)] Try.func24 rfl (Nat.le_of_ble_eq_true rfl) (by repeat (first | exact trivial | refine ⟨rfl, ?_⟩)) ?_
  refine Run.seq ?_
  refine Run.region ?_
  refine RunL.ok (OpOk.assign rfl) rfl ?_
  refine RunL.ok (OpOk.assign rfl) rfl ?_
  refine RunL.nil ?_
  refine Run.seq ?_
  refine Run.seq ?_
  refine Run.region ?_
  refine RunL.ok (OpOk.move rfl) rfl ?_
  refine RunL.ok (OpOk.asF (OpOk.lss rfl rfl) (by omega)) rfl ?_
  refine RunL.nil ?_
  refine Run.condF rfl ?_
  refine Run.skip ?_
  refine Run.seq ?_
  refine Run.region ?_
  refine RunL.ok (OpOk.move rfl) rfl ?_
  refine RunL.ok (OpOk.build (cells := #[.int (IntKind.i64) (s), .int (IntKind.i64) (-1), .slice (none) (0) (0)]) rfl (fun w => run_build w 145 _ _ (by rfl))) rfl ?_
  refine RunL.box rfl rfl (fun bx1 => ?_)
  refine RunL.ok (OpOk.assign rfl) rfl ?_
  refine RunL.ok (OpOk.assign rfl) rfl ?_
  refine RunL.nil ?_
  refine Run.ret2 Try.func24 rfl rfl rfl ?_
  refine ⟨_, .slice none 0 0, rfl, ?_⟩
  rw [show B (List.nil : List UInt8) = [] from rfl, show (List.nil : List UInt8).length = 0 from rfl, own_nil_eq, sep_emp]
  rfl
theorem s26 {w0 : World} {A : Asn} {p : Nat} {v : Value} {s w n : Int} {bs : List UInt8} :
    Spec Try.prog w0 26 [.pointer (some ⟨p, 0, none⟩), .int .i64 n] (A * pts p (.cells #[.int .i64 (s), .int .i64 (w), v] 145 (0, 0)) * own 5 1 v (bs).length (B (bs))) (fun v' A' => v' = .tuple #[] ∧ A' = A * pts p (.cells #[.int .i64 (s), .int .i64 (max n (-1)), v] 145 (0, 0)) * own 5 1 v (bs).length (B (bs))) := by
  refine Spec.of_run [(0, .pointer (some ⟨p, 0, none⟩)), (1, .int .i64 n)] Try.func26 rfl (Nat.le_of_ble_eq_true rfl) (by repeat (first | exact trivial | refine ⟨rfl, ?_⟩)) ?_
  refine Run.region ?_
  refine RunL.ok (OpOk.move rfl) rfl ?_
  refine RunL.ok (OpOk.move rfl) rfl ?_
  refine RunL.ok (OpOk.max2 rfl rfl rfl) rfl ?_
  refine RunL.ok (OpOk.nilOk rfl) rfl ?_
  refine RunL.ok (OpOk.fieldAddr fld145_1 rfl) rfl ?_
  refine RunL.store ti3 rfl rfl rfl (frl rfl) (by exact Nat.le_of_ble_eq_true rfl) (.inl rfl) ?_
  refine RunL.nil ?_
  refine Run.keep (A * pts p (Obj.cells #[Value.int IntKind.i64 s, Value.int IntKind.i64 (max n (-1)), v] 145) * own 5 1 v bs.length (B bs)) (Grew.of (frc (frl rfl) (frc rfl rfl)) (Grew.refl _)) ?_
  refine Run.fall0 Try.func26 rfl ?_
  exact ⟨rfl, rfl⟩
theorem s32 {w0 : World} {A : Asn} {p : Nat} {v : Value} {s w : Int} {bs : List UInt8} (hlim : bs.length ≤ 140737488355328) :
    Spec Try.prog w0 32 [.pointer (some ⟨p, 0, none⟩)] (A * pts p (.cells #[.int .i64 (s), .int .i64 (w), v] 145 (0, 0)) * own 5 1 v (bs).length (B (bs))) (fun v' A' => A' = A * pts p (.cells #[.int .i64 (s), .int .i64 (w), v] 145 (0, 0)) * own 5 1 v (bs).length (B (bs)) * own 5 1 v' bs.length (B bs)) := by
  refine Spec.of_run [(0, .pointer (some ⟨p, 0, none⟩))] Try.func32 rfl (Nat.le_of_ble_eq_true rfl) (by repeat (first | exact trivial | refine ⟨rfl, ?_⟩)) ?_
  refine Run.seq ?_
  refine Run.region ?_
  refine RunL.ok (OpOk.assign rfl) rfl ?_
  refine RunL.nil ?_
  refine Run.seq ?_
  refine Run.region ?_
  refine RunL.ok (OpOk.move rfl) rfl ?_
  refine RunL.ok (OpOk.nilOk rfl) rfl ?_
  refine RunL.ok (OpOk.fieldAddr fld145_2 rfl) rfl ?_
  refine RunL.ok (OpOk.load rfl rfl rfl (Blk.out Blk.pts.left _ _ (by first | rfl | assumption))) rfl ?_
  refine RunL.know (fun w s => (s.conv rfl).ownRd0) (fun rdx1 => ?_)
  refine RunL.call cal77 rfl (s77 (Rd.right rdx1) (by assumption)) rfl (fun vx2 Ax2 hx2 => ?_)
  obtain rfl := hx2
  refine RunL.ok (OpOk.assign rfl) rfl ?_
  refine RunL.nil ?_
  refine Run.ret1 Try.func32 rfl rfl ?_
  exact rfl
theorem s73a {w0 : World} {A : Asn} {p : Nat} {v : Value} {s w n : Int} {bs : List UInt8} (h : n < 0 ∨ (bs.length : Int) < n) :
    Spec Try.prog w0 73 [.pointer (some ⟨p, 0, none⟩), .int .i64 n] (A * pts p (.cells #[.int .i64 (s), .int .i64 (w), v] 145 (0, 0)) * own 5 1 v (bs).length (B (bs))) (fun v' A' => v' = .int .i64 2 ∧ A' = A * pts p (.cells #[.int .i64 (s), .int .i64 (w), v] 145 (0, 0)) * own 5 1 v (bs).length (B (bs))) := by
  refine Spec.of_run [(0, .pointer (some ⟨p, 0, none⟩)), (1, .int .i64 n)] Try.func73 rfl (Nat.le_of_ble_eq_true rfl) (by repeat (first | exact trivial | refine ⟨rfl, ?_⟩)) ?_
  refine Run.seq ?_
  refine Run.region ?_
  refine RunL.ok (OpOk.assign rfl) rfl ?_
  refine RunL.nil ?_
  refine Run.seq ?_
  refine Run.seq ?_
  refine Run.region ?_
  refine RunL.ok (OpOk.move rfl) rfl ?_
  refine RunL.ok (OpOk.lss rfl rfl) rfl ?_
  refine RunL.ok (OpOk.move rfl) rfl ?_
  refine RunL.splitD (t := 7) rfl (fun x1 => ?_) (fun x1 => ?_)
  · refine RunL.off rfl rfl rfl rfl ?_
    refine RunL.off rfl rfl rfl rfl ?_
    refine RunL.off rfl rfl rfl rfl ?_
    refine RunL.off rfl rfl rfl rfl ?_
    refine RunL.off rfl rfl rfl rfl ?_
    refine RunL.off rfl rfl rfl rfl ?_
    refine RunL.off rfl rfl rfl rfl ?_
    refine RunL.ok (OpOk.pickT rfl rfl) rfl ?_
    refine RunL.nil ?_
    refine Run.condT rfl ?_
    refine Run.seq ?_
    refine Run.region ?_
    refine RunL.ok (OpOk.assign rfl) rfl ?_
    refine RunL.nil ?_
    refine Run.ret1 Try.func73 rfl rfl ?_
    exact ⟨rfl, rfl⟩
  refine RunL.on rfl rfl ?_
  refine RunL.ok (OpOk.move rfl) rfl ?_
  refine RunL.on rfl rfl ?_
  refine RunL.ok (OpOk.move rfl) rfl ?_
  refine RunL.on rfl rfl ?_
  refine RunL.ok (OpOk.nilOk rfl) rfl ?_
  refine RunL.on rfl rfl ?_
  refine RunL.ok (OpOk.fieldAddr fld145_2 rfl) rfl ?_
  refine RunL.on rfl rfl ?_
  refine RunL.ok (OpOk.load rfl rfl rfl (Blk.out Blk.pts.left _ _ (by first | rfl | assumption))) rfl ?_
  refine RunL.on rfl rfl ?_
  refine RunL.know (fun w s => (s.conv rfl).ownRd0) (fun rdx2 => ?_)
  refine RunL.ok (OpOk.lenR rfl rfl (Rd.right rdx2) rfl) rfl ?_
  refine RunL.on rfl rfl ?_
  refine RunL.ok (OpOk.asT (OpOk.gtr rfl rfl) (by omega)) rfl ?_
  refine RunL.ok (OpOk.pickF rfl rfl) rfl ?_
  refine RunL.nil ?_
  refine Run.condT rfl ?_
  refine Run.seq ?_
  refine Run.region ?_
  refine RunL.ok (OpOk.assign rfl) rfl ?_
  refine RunL.nil ?_
  refine Run.ret1 Try.func73 rfl rfl ?_
  exact ⟨rfl, rfl⟩
theorem s73b {w0 : World} {A : Asn} {p : Nat} {v : Value} {s w : Int} {n : Int} {bs : List UInt8} (h0 : 0 ≤ n) (h : n ≤ (bs.length : Int)) :
    Spec Try.prog w0 73 [.pointer (some ⟨p, 0, none⟩), .int .i64 n] (A * pts p (.cells #[.int .i64 (s), .int .i64 (w), v] 145 (0, 0)) * own 5 1 v (bs).length (B (bs))) (fun v' A' => ∃ v2, v' = .int .i64 0 ∧ A' = A * pts p (.cells #[.int .i64 (s), .int .i64 (w), v2] 145 (0, 0)) * own 5 1 v2 (bs.take n.toNat).length (B (bs.take n.toNat))) := by
  obtain ⟨n, rfl⟩ := Int.eq_ofNat_of_zero_le h0
  have h : n ≤ bs.length := by omega
  rw [Int.toNat_natCast]
  refine Spec.of_run [(0, .pointer (some ⟨p, 0, none⟩)), (1, .int .i64 (n : Int))] Try.func73 rfl (Nat.le_of_ble_eq_true rfl) (by repeat (first | exact trivial | refine ⟨rfl, ?_⟩)) ?_
  have hl : (bs.take n).length = n := by rw [List.length_take]; omega
  refine Run.seq ?_
  refine Run.region ?_
  refine RunL.ok (OpOk.assign rfl) rfl ?_
  refine RunL.nil ?_
  refine Run.seq ?_
  refine Run.seq ?_
  refine Run.region ?_
  refine RunL.ok (OpOk.move rfl) rfl ?_
  refine RunL.ok (OpOk.asF (OpOk.lss rfl rfl) (by omega)) rfl ?_
  refine RunL.ok (OpOk.move rfl) rfl ?_
  refine RunL.on rfl rfl ?_
  refine RunL.ok (OpOk.move rfl) rfl ?_
  refine RunL.on rfl rfl ?_
  refine RunL.ok (OpOk.move rfl) rfl ?_
  refine RunL.on rfl rfl ?_
  refine RunL.ok (OpOk.nilOk rfl) rfl ?_
  refine RunL.on rfl rfl ?_
  refine RunL.ok (OpOk.fieldAddr fld145_2 rfl) rfl ?_
  refine RunL.on rfl rfl ?_
  refine RunL.ok (OpOk.load rfl rfl rfl (Blk.out Blk.pts.left _ _ (by first | rfl | assumption))) rfl ?_
  refine RunL.on rfl rfl ?_
  refine RunL.know (fun w s => (s.conv rfl).ownRd0) (fun rdx1 => ?_)
  refine RunL.ok (OpOk.lenR rfl rfl (Rd.right rdx1) rfl) rfl ?_
  refine RunL.on rfl rfl ?_
  refine RunL.ok (OpOk.asF (OpOk.gtr rfl rfl) (by omega)) rfl ?_
  refine RunL.ok (OpOk.pickF rfl rfl) rfl ?_
  refine RunL.nil ?_
  refine Run.condF rfl ?_
  refine Run.skip ?_
  refine Run.seq ?_
  refine Run.region ?_
  refine RunL.ok (OpOk.move rfl) rfl ?_
  refine RunL.ok (OpOk.move rfl) rfl ?_
  refine RunL.ok (OpOk.nilOk rfl) rfl ?_
  refine RunL.ok (OpOk.fieldAddr fld145_2 rfl) rfl ?_
  refine RunL.ok (OpOk.load rfl rfl rfl (Blk.out Blk.pts.left _ _ (by first | rfl | assumption))) rfl ?_
  refine RunL.ok (OpOk.move rfl) rfl ?_
  refine RunL.ok (OpOk.cut rfl ti5 rfl (Rd.right rdx1) rfl ⟨_, rfl⟩ (by omega) (by omega)) rfl ?_
  refine RunL.ok (OpOk.nilOk rfl) rfl ?_
  refine RunL.ok (OpOk.fieldAddr fld145_2 rfl) rfl ?_
  refine RunL.ent (Ent.ownCutB _ h) ?_
  rw [hl]
  refine RunL.know (fun w s => (s.conv rfl).ownRd0) (fun rdy1 => ?_)
  refine RunL.store ti63 rfl rfl (Rd.one rdy1) (frl rfl) (by exact Nat.le_of_ble_eq_true rfl) (.inl rfl) ?_
  refine RunL.nil ?_
  refine Run.seq ?_
  refine Run.region ?_
  refine RunL.ok (OpOk.assign rfl) rfl ?_
  refine RunL.nil ?_
  refine Run.ret1 Try.func73 rfl rfl ?_
  exact ⟨_, rfl, (frc (frl rfl) (frc rfl rfl))⟩
/-- How many bytes Append writes; is there no room? -/
def apN (w : Int) (all : List UInt8) : Nat := if 0 ≤ w then min all.length w.toNat else all.length
def apE (s w : Int) (bs all : List UInt8) : Int := if s - bs.length < all.length then 20 else if apN w all < all.length then 30 else 0
def apB (s w : Int) (bs all : List UInt8) : List UInt8 := if s - bs.length < all.length then bs else bs ++ all.take (apN w all)
def apW (s w : Int) (bs all : List UInt8) : Int := if s - bs.length < all.length then w else if 0 ≤ w then w - apN w all else w
theorem s31 {w0 : World} {A : Asn} {p m : Nat} {v u : Value} {s w : Int} {bs : List UInt8} {ls : List (Value × List UInt8)} (rd : Rd w0 A u 1 m (Fl encV ls)) (hin : Alls (GB w0) A ls) (hs : 0 ≤ s) (hs2 : s ≤ 9223372036854775807) (hw2 : w ≤ 9223372036854775807) (hlim : bs.length + (flatB ls).length ≤ 140737488355328) :
    Spec Try.prog w0 31 [.pointer (some ⟨p, 0, none⟩), u] (A * pts p (.cells #[.int .i64 (s), .int .i64 (w), v] 145 (0, 0)) * own 5 1 v (bs).length (B (bs))) (fun v' A' => ∃ v2 J, v' = .int .i64 (apE s w bs (flatB ls)) ∧ A' = A * J * pts p (.cells #[.int .i64 (s), .int .i64 (apW s w bs (flatB ls)), v2] 145 (0, 0)) * own 5 1 v2 (apB s w bs (flatB ls)).length (B (apB s w bs (flatB ls)))) := by
  refine Spec.of_run [(0, .pointer (some ⟨p, 0, none⟩)), (1, u)] Try.func31 rfl (Nat.le_of_ble_eq_true rfl) (by repeat (first | exact trivial | refine ⟨rfl, ?_⟩)) ?_
  rcases Int.lt_or_le (s - bs.length) (flatB ls).length with hf | hf
  · have e1 : apE s w bs (flatB ls) = 20 := if_pos hf
    have e2 : apB s w bs (flatB ls) = bs := if_pos hf
    have e3 : apW s w bs (flatB ls) = w := if_pos hf
    rw [e1, e2, e3]
    refine Run.seq ?_
    refine Run.region ?_
    refine RunL.ok (OpOk.assign rfl) rfl ?_
    refine RunL.nil ?_
    refine Run.seq ?_
    refine Run.region ?_
    refine RunL.ok (OpOk.move rfl) rfl ?_
    refine RunL.call cal78 rfl (s78 rd.left.left hin.left.left (by omega)) rfl (fun vx1 Ax1 hx1 => ?_)
    obtain rfl := hx1
    refine RunL.ok (OpOk.assign rfl) rfl ?_
    refine RunL.nil ?_
    refine Run.seq ?_
    refine Run.seq ?_
    refine Run.know (fun w s => (s.conv (frl rfl)).ownRd0) (fun rdx2 => ?_)
    refine Run.know (fun w s => (s.conv rfl).ownRd0) (fun rdx3 => ?_)
    (apply Run.drawD [] (by rfl) (sep_emp _).symm; case hchk => kernel_rfl)
    refine Sd.quiet 0 _ _ rfl rfl rfl rfl rfl (QOp.ok (fun X => OpOk.move rfl)) ?_
    refine Sd.quiet 1 _ _ rfl rfl rfl rfl rfl (QOp.ok (fun X => OpOk.lenR rfl rfl (Rd.right rdx3).left.left rfl)) ?_
    refine Sd.quiet 2 _ _ rfl rfl rfl rfl rfl (QOp.ok (fun X => OpOk.move rfl)) ?_
    refine Sd.quiet 3 _ _ rfl rfl rfl rfl rfl (QOp.ok (fun X => OpOk.nilOk rfl)) ?_
    refine Sd.quiet 4 _ _ rfl rfl rfl rfl rfl (QOp.ok (fun X => OpOk.fieldAddr fld145_0 rfl)) ?_
    refine Sd.quiet 5 _ _ rfl rfl rfl rfl rfl (QOp.ok (fun X => OpOk.load rfl rfl rfl (Blk.out Blk.pts.left.left.left.left _ _ (by first | rfl | assumption)))) ?_
    refine Sd.quiet 6 _ _ rfl rfl rfl rfl rfl (QOp.ok (fun X => OpOk.move rfl)) ?_
    refine Sd.quiet 7 _ _ rfl rfl rfl rfl rfl (QOp.ok (fun X => OpOk.nilOk rfl)) ?_
    refine Sd.quiet 8 _ _ rfl rfl rfl rfl rfl (QOp.ok (fun X => OpOk.fieldAddr fld145_2 rfl)) ?_
    refine Sd.quiet 9 _ _ rfl rfl rfl rfl rfl (QOp.ok (fun X => OpOk.load rfl rfl rfl (Blk.out Blk.pts.left.left.left.left _ _ (by first | rfl | assumption)))) ?_
    refine Sd.quiet 10 _ _ rfl rfl rfl rfl rfl (QOp.ok (fun X => OpOk.lenR rfl rfl (Rd.right rdx2).left.left.left rfl)) ?_
    refine Sd.quiet 11 _ _ rfl rfl rfl rfl rfl (QOp.ok (fun X => OpOk.sub rfl rfl (wrapI (by omega) (by omega)))) ?_
    refine Sd.quiet 12 _ _ rfl rfl rfl rfl rfl (QOp.ok (fun X => OpOk.asT (OpOk.gtr rfl rfl) (by omega))) ?_
    (apply Sd.tail; case hall => kernel_rfl)
    refine RunL.mem (fl2 (sep_emp _) (sep_emp _)) ?_
    refine RunL.nil ?_
    refine Run.condT rfl ?_
    refine Run.seq ?_
    refine Run.region ?_
    refine RunL.ok (OpOk.assign rfl) rfl ?_
    refine RunL.nil ?_
    refine Run.ret1 Try.func31 rfl rfl ?_
    exact ⟨_, _, rfl, (Eq.trans (frc (frl rfl) (frc (frl rfl) rfl)) (congrArg (· * _) (congrArg (· * _) as1)))⟩
  · have e0 : ∀ n, ((flatB ls).take n).length = min n (flatB ls).length := fun n => List.length_take
    rcases Int.lt_or_le w 0 with hw | hw
    · have hN : apN w (flatB ls) = (flatB ls).length := if_neg (by omega)
      have e1 : apE s w bs (flatB ls) = 0 := by unfold apE; rw [if_neg (by omega), hN, if_neg (by omega)]
      have e2 : apB s w bs (flatB ls) = bs ++ (flatB ls).take (flatB ls).length := by unfold apB; rw [if_neg (by omega), hN]
      have e3 : apW s w bs (flatB ls) = w := by unfold apW; rw [if_neg (by omega), if_neg (by omega)]
      have e4 : ((flatB ls).take (flatB ls).length).length = (flatB ls).length := by rw [e0]; omega
      rw [e1, e2, e3, List.length_append, e4]
      refine Run.seq ?_
      refine Run.region ?_
      refine RunL.ok (OpOk.assign rfl) rfl ?_
      refine RunL.nil ?_
      refine Run.seq ?_
      refine Run.region ?_
      refine RunL.ok (OpOk.move rfl) rfl ?_
      refine RunL.call cal78 rfl (s78 rd.left.left hin.left.left (by omega)) rfl (fun vx1 Ax1 hx1 => ?_)
      obtain rfl := hx1
      refine RunL.ok (OpOk.assign rfl) rfl ?_
      refine RunL.nil ?_
      refine Run.seq ?_
      refine Run.seq ?_
      refine Run.know (fun w s => (s.conv (frl rfl)).ownRd0) (fun rdx2 => ?_)
      refine Run.know (fun w s => (s.conv rfl).ownRd0) (fun rdx3 => ?_)
      (apply Run.drawD [] (by rfl) (sep_emp _).symm; case hchk => kernel_rfl)
      refine Sd.quiet 0 _ _ rfl rfl rfl rfl rfl (QOp.ok (fun X => OpOk.move rfl)) ?_
      refine Sd.quiet 1 _ _ rfl rfl rfl rfl rfl (QOp.ok (fun X => OpOk.lenR rfl rfl (Rd.right rdx3).left.left rfl)) ?_
      refine Sd.quiet 2 _ _ rfl rfl rfl rfl rfl (QOp.ok (fun X => OpOk.move rfl)) ?_
      refine Sd.quiet 3 _ _ rfl rfl rfl rfl rfl (QOp.ok (fun X => OpOk.nilOk rfl)) ?_
      refine Sd.quiet 4 _ _ rfl rfl rfl rfl rfl (QOp.ok (fun X => OpOk.fieldAddr fld145_0 rfl)) ?_
      refine Sd.quiet 5 _ _ rfl rfl rfl rfl rfl (QOp.ok (fun X => OpOk.load rfl rfl rfl (Blk.out Blk.pts.left.left.left.left _ _ (by first | rfl | assumption)))) ?_
      refine Sd.quiet 6 _ _ rfl rfl rfl rfl rfl (QOp.ok (fun X => OpOk.move rfl)) ?_
      refine Sd.quiet 7 _ _ rfl rfl rfl rfl rfl (QOp.ok (fun X => OpOk.nilOk rfl)) ?_
      refine Sd.quiet 8 _ _ rfl rfl rfl rfl rfl (QOp.ok (fun X => OpOk.fieldAddr fld145_2 rfl)) ?_
      refine Sd.quiet 9 _ _ rfl rfl rfl rfl rfl (QOp.ok (fun X => OpOk.load rfl rfl rfl (Blk.out Blk.pts.left.left.left.left _ _ (by first | rfl | assumption)))) ?_
      refine Sd.quiet 10 _ _ rfl rfl rfl rfl rfl (QOp.ok (fun X => OpOk.lenR rfl rfl (Rd.right rdx2).left.left.left rfl)) ?_
      refine Sd.quiet 11 _ _ rfl rfl rfl rfl rfl (QOp.ok (fun X => OpOk.sub rfl rfl (wrapI (by omega) (by omega)))) ?_
      refine Sd.quiet 12 _ _ rfl rfl rfl rfl rfl (QOp.ok (fun X => OpOk.asF (OpOk.gtr rfl rfl) (by omega))) ?_
      (apply Sd.tail; case hall => kernel_rfl)
      refine RunL.mem (fl2 (sep_emp _) (sep_emp _)) ?_
      refine RunL.nil ?_
      refine Run.condF rfl ?_
      refine Run.skip ?_
      refine Run.seq ?_
      refine Run.region ?_
      refine RunL.ok (OpOk.move rfl) rfl ?_
      refine RunL.ok (OpOk.lenR rfl rfl (Rd.right rdx3) rfl) rfl ?_
      refine RunL.ok (OpOk.assign rfl) rfl ?_
      refine RunL.nil ?_
      refine Run.seq ?_
      refine Run.seq ?_
      refine Run.region ?_
      refine RunL.ok (OpOk.move rfl) rfl ?_
      refine RunL.ok (OpOk.nilOk rfl) rfl ?_
      refine RunL.ok (OpOk.fieldAddr fld145_1 rfl) rfl ?_
      refine RunL.ok (OpOk.load rfl rfl rfl (Blk.out Blk.pts.left.left _ _ (by first | rfl | assumption))) rfl ?_
      refine RunL.ok (OpOk.asF (OpOk.geq rfl rfl) (by omega)) rfl ?_
      refine RunL.nil ?_
      refine Run.condF rfl ?_
      refine Run.skip ?_
      refine Run.seq ?_
      (apply Run.drawD [11] (by rfl) (Eq.trans (frc (frl rfl) rfl) rfl); case hchk => kernel_rfl)
      refine Sd.quiet 0 _ _ rfl rfl rfl rfl rfl (QOp.ok (fun X => OpOk.move rfl)) ?_
      refine Sd.quiet 1 _ _ rfl rfl rfl rfl rfl (QOp.ok (fun X => OpOk.move rfl)) ?_
      refine Sd.quiet 2 _ _ rfl rfl rfl rfl rfl (QOp.ok (fun X => OpOk.nilOk rfl)) ?_
      refine Sd.quiet 3 _ _ rfl rfl rfl rfl rfl (QOp.ok (fun X => OpOk.fieldAddr fld145_2 rfl)) ?_
      refine Sd.quiet 4 _ _ rfl rfl rfl rfl rfl (QOp.ok (fun X => OpOk.load rfl rfl rfl (Blk.out Blk.pts.left.left.left _ _ (by first | rfl | assumption)))) ?_
      refine Sd.quiet 5 _ _ rfl rfl rfl rfl rfl (QOp.ok (fun X => OpOk.move rfl)) ?_
      refine Sd.quiet 6 _ _ rfl rfl rfl rfl rfl (QOp.ok (fun X => OpOk.move rfl)) ?_
      refine Sd.quiet 7 _ _ rfl rfl rfl rfl rfl (QOp.ok (fun X => OpOk.cut rfl ti5 rfl (Rd.right rdx3).left.left rfl ⟨_, rfl⟩ (by omega) (by omega))) ?_
      refine Sd.quiet 9 _ _ rfl rfl rfl rfl rfl (QOp.ok (fun X => OpOk.nilOk rfl)) ?_
      refine Sd.quiet 10 _ _ rfl rfl rfl rfl rfl (QOp.ok (fun X => OpOk.fieldAddr fld145_2 rfl)) ?_
      (refine Sd.exec 8 rfl rfl rfl rfl rfl ?hrest (by rfl) (fun Xx4 Kx4 hKx4 => ?_); case hrest => kernel_rfl)
      refine RunL.mem (fl2 (sep_emp _) rfl) ?_
      refine RunL.appendB rfl ti5 rfl rfl rfl rfl (Rd.cutB0 (Rd.right rdx3).left.left (by omega)) (by omega) rfl (fun vx5 rdx5 => ?_)
      refine RunL.know (fun w s => (s.conv rfl).ownRd0) (fun rdx6 => ?_)
      refine Sd.ret hKx4 (Eq.trans rfl (gp2 (sep_emp _).symm rfl)) ⟨_, (emp_sep _).symm⟩ ?_
      (apply Sd.tail; case hall => kernel_rfl)
      refine RunL.mem (fl2 rfl (sep_emp _)) ?_
      refine RunL.store ti63 rfl rfl (Rd.one rdx6) (frl (frl rfl)) (by exact Nat.le_of_ble_eq_true rfl) (.inl rfl) ?_
      refine RunL.nil ?_
      refine Run.seq ?_
      refine Run.seq ?_
      refine Run.region ?_
      refine RunL.ok (OpOk.move rfl) rfl ?_
      refine RunL.ok (OpOk.move rfl) rfl ?_
      refine RunL.ok (OpOk.lenR rfl rfl (Rd.right rdx3).left.left rfl) rfl ?_
      refine RunL.ok (OpOk.asF (OpOk.lss rfl rfl) (by omega)) rfl ?_
      refine RunL.nil ?_
      refine Run.condF rfl ?_
      refine Run.skip ?_
      refine Run.seq ?_
      refine Run.region ?_
      refine RunL.ok (OpOk.assign rfl) rfl ?_
      refine RunL.nil ?_
      refine Run.ret1 Try.func31 rfl rfl ?_
      exact ⟨_, _, rfl, (Eq.trans (frc (frl rfl) (frc rfl rfl)) (congrArg (· * _) (congrArg (· * _) as1)))⟩
    · obtain ⟨w, rfl⟩ := Int.eq_ofNat_of_zero_le hw
      have hN : apN w (flatB ls) = min (flatB ls).length w := if_pos (by omega)
      rcases Nat.lt_or_ge w (flatB ls).length with hn | hn
      · have e1 : apE s w bs (flatB ls) = 30 := by unfold apE; rw [if_neg (by omega), hN, if_pos (by omega)]
        have e2 : apB s w bs (flatB ls) = bs ++ (flatB ls).take w := by unfold apB; rw [if_neg (by omega), hN, Nat.min_eq_right (by omega)]
        have e3 : apW s w bs (flatB ls) = ((w - w : Nat) : Int) := by unfold apW; rw [if_neg (by omega), if_pos (by omega), hN]; omega
        have e4 : ((flatB ls).take w).length = w := by rw [e0]; omega
        rw [e1, e2, e3, List.length_append, e4]
        refine Run.seq ?_
        refine Run.region ?_
        refine RunL.ok (OpOk.assign rfl) rfl ?_
        refine RunL.nil ?_
        refine Run.seq ?_
        refine Run.region ?_
        refine RunL.ok (OpOk.move rfl) rfl ?_
        refine RunL.call cal78 rfl (s78 rd.left.left hin.left.left (by omega)) rfl (fun vx1 Ax1 hx1 => ?_)
        obtain rfl := hx1
        refine RunL.ok (OpOk.assign rfl) rfl ?_
        refine RunL.nil ?_
        refine Run.seq ?_
        refine Run.seq ?_
        refine Run.know (fun w s => (s.conv (frl rfl)).ownRd0) (fun rdx2 => ?_)
        refine Run.know (fun w s => (s.conv rfl).ownRd0) (fun rdx3 => ?_)
        (apply Run.drawD [] (by rfl) (sep_emp _).symm; case hchk => kernel_rfl)
        refine Sd.quiet 0 _ _ rfl rfl rfl rfl rfl (QOp.ok (fun X => OpOk.move rfl)) ?_
        refine Sd.quiet 1 _ _ rfl rfl rfl rfl rfl (QOp.ok (fun X => OpOk.lenR rfl rfl (Rd.right rdx3).left.left rfl)) ?_
        refine Sd.quiet 2 _ _ rfl rfl rfl rfl rfl (QOp.ok (fun X => OpOk.move rfl)) ?_
        refine Sd.quiet 3 _ _ rfl rfl rfl rfl rfl (QOp.ok (fun X => OpOk.nilOk rfl)) ?_
        refine Sd.quiet 4 _ _ rfl rfl rfl rfl rfl (QOp.ok (fun X => OpOk.fieldAddr fld145_0 rfl)) ?_
        refine Sd.quiet 5 _ _ rfl rfl rfl rfl rfl (QOp.ok (fun X => OpOk.load rfl rfl rfl (Blk.out Blk.pts.left.left.left.left _ _ (by first | rfl | assumption)))) ?_
        refine Sd.quiet 6 _ _ rfl rfl rfl rfl rfl (QOp.ok (fun X => OpOk.move rfl)) ?_
        refine Sd.quiet 7 _ _ rfl rfl rfl rfl rfl (QOp.ok (fun X => OpOk.nilOk rfl)) ?_
        refine Sd.quiet 8 _ _ rfl rfl rfl rfl rfl (QOp.ok (fun X => OpOk.fieldAddr fld145_2 rfl)) ?_
        refine Sd.quiet 9 _ _ rfl rfl rfl rfl rfl (QOp.ok (fun X => OpOk.load rfl rfl rfl (Blk.out Blk.pts.left.left.left.left _ _ (by first | rfl | assumption)))) ?_
        refine Sd.quiet 10 _ _ rfl rfl rfl rfl rfl (QOp.ok (fun X => OpOk.lenR rfl rfl (Rd.right rdx2).left.left.left rfl)) ?_
        refine Sd.quiet 11 _ _ rfl rfl rfl rfl rfl (QOp.ok (fun X => OpOk.sub rfl rfl (wrapI (by omega) (by omega)))) ?_
        refine Sd.quiet 12 _ _ rfl rfl rfl rfl rfl (QOp.ok (fun X => OpOk.asF (OpOk.gtr rfl rfl) (by omega))) ?_
        (apply Sd.tail; case hall => kernel_rfl)
        refine RunL.mem (fl2 (sep_emp _) (sep_emp _)) ?_
        refine RunL.nil ?_
        refine Run.condF rfl ?_
        refine Run.skip ?_
        refine Run.seq ?_
        refine Run.region ?_
        refine RunL.ok (OpOk.move rfl) rfl ?_
        refine RunL.ok (OpOk.lenR rfl rfl (Rd.right rdx3) rfl) rfl ?_
        refine RunL.ok (OpOk.assign rfl) rfl ?_
        refine RunL.nil ?_
        refine Run.seq ?_
        refine Run.seq ?_
        refine Run.region ?_
        refine RunL.ok (OpOk.move rfl) rfl ?_
        refine RunL.ok (OpOk.nilOk rfl) rfl ?_
        refine RunL.ok (OpOk.fieldAddr fld145_1 rfl) rfl ?_
        refine RunL.ok (OpOk.load rfl rfl rfl (Blk.out Blk.pts.left.left _ _ (by first | rfl | assumption))) rfl ?_
        refine RunL.ok (OpOk.asT (OpOk.geq rfl rfl) (by omega)) rfl ?_
        refine RunL.nil ?_
        refine Run.condT rfl ?_
        refine Run.seq ?_
        refine Run.region ?_
        refine RunL.ok (OpOk.move rfl) rfl ?_
        refine RunL.ok (OpOk.move rfl) rfl ?_
        refine RunL.ok (OpOk.nilOk rfl) rfl ?_
        refine RunL.ok (OpOk.fieldAddr fld145_1 rfl) rfl ?_
        refine RunL.ok (OpOk.load rfl rfl rfl (Blk.out Blk.pts.left.left _ _ (by first | rfl | assumption))) rfl ?_
        refine RunL.ok (OpOk.min2R rfl rfl rfl (by omega)) rfl ?_
        refine RunL.ok (OpOk.assign rfl) rfl ?_
        refine RunL.nil ?_
        refine Run.region ?_
        refine RunL.ok (OpOk.move rfl) rfl ?_
        refine RunL.ok (OpOk.nilOk rfl) rfl ?_
        refine RunL.ok (OpOk.fieldAddr fld145_1 rfl) rfl ?_
        refine RunL.ok (OpOk.load rfl rfl rfl (Blk.out Blk.pts.left.left _ _ (by first | rfl | assumption))) rfl ?_
        refine RunL.ok (OpOk.move rfl) rfl ?_
        refine RunL.ok (OpOk.subN _ _ rfl rfl rfl rfl (by omega) (by omega)) rfl ?_
        refine RunL.ok (OpOk.nilOk rfl) rfl ?_
        refine RunL.ok (OpOk.fieldAddr fld145_1 rfl) rfl ?_
        refine RunL.store ti3 rfl rfl rfl (frl (frl rfl)) (by exact Nat.le_of_ble_eq_true rfl) (.inl rfl) ?_
        refine RunL.nil ?_
        refine Run.seq ?_
        (apply Run.drawD [11] (by rfl) (Eq.trans (frc (frl (frl rfl)) rfl) rfl); case hchk => kernel_rfl)
        refine Sd.quiet 0 _ _ rfl rfl rfl rfl rfl (QOp.ok (fun X => OpOk.move rfl)) ?_
        refine Sd.quiet 1 _ _ rfl rfl rfl rfl rfl (QOp.ok (fun X => OpOk.move rfl)) ?_
        refine Sd.quiet 2 _ _ rfl rfl rfl rfl rfl (QOp.ok (fun X => OpOk.nilOk rfl)) ?_
        refine Sd.quiet 3 _ _ rfl rfl rfl rfl rfl (QOp.ok (fun X => OpOk.fieldAddr fld145_2 rfl)) ?_
        refine Sd.quiet 4 _ _ rfl rfl rfl rfl rfl (QOp.ok (fun X => OpOk.load rfl rfl rfl (Blk.out Blk.pts.left.left _ _ (by first | rfl | assumption)))) ?_
        refine Sd.quiet 5 _ _ rfl rfl rfl rfl rfl (QOp.ok (fun X => OpOk.move rfl)) ?_
        refine Sd.quiet 6 _ _ rfl rfl rfl rfl rfl (QOp.ok (fun X => OpOk.move rfl)) ?_
        refine Sd.quiet 7 _ _ rfl rfl rfl rfl rfl (QOp.ok (fun X => OpOk.cut rfl ti5 rfl (Rd.right rdx3).left.left.left rfl ⟨_, rfl⟩ (by omega) (by omega))) ?_
        refine Sd.quiet 9 _ _ rfl rfl rfl rfl rfl (QOp.ok (fun X => OpOk.nilOk rfl)) ?_
        refine Sd.quiet 10 _ _ rfl rfl rfl rfl rfl (QOp.ok (fun X => OpOk.fieldAddr fld145_2 rfl)) ?_
        (refine Sd.exec 8 rfl rfl rfl rfl rfl ?hrest (by rfl) (fun Xx4 Kx4 hKx4 => ?_); case hrest => kernel_rfl)
        refine RunL.mem (fl2 (sep_emp _) rfl) ?_
        refine RunL.appendB rfl ti5 rfl rfl rfl rfl (Rd.cutB0 (Rd.right rdx3).left.left.left (by omega)) (by omega) rfl (fun vx5 rdx5 => ?_)
        refine RunL.know (fun w s => (s.conv rfl).ownRd0) (fun rdx6 => ?_)
        refine Sd.ret hKx4 (Eq.trans rfl (gp2 (sep_emp _).symm rfl)) ⟨_, (emp_sep _).symm⟩ ?_
        (apply Sd.tail; case hall => kernel_rfl)
        refine RunL.mem (fl2 rfl (sep_emp _)) ?_
        refine RunL.store ti63 rfl rfl (Rd.one rdx6) (frl rfl) (by exact Nat.le_of_ble_eq_true rfl) (.inl rfl) ?_
        refine RunL.nil ?_
        refine Run.seq ?_
        refine Run.seq ?_
        refine Run.region ?_
        refine RunL.ok (OpOk.move rfl) rfl ?_
        refine RunL.ok (OpOk.move rfl) rfl ?_
        refine RunL.ok (OpOk.lenR rfl rfl (Rd.right rdx3).left.left rfl) rfl ?_
        refine RunL.ok (OpOk.asT (OpOk.lss rfl rfl) (by omega)) rfl ?_
        refine RunL.nil ?_
        refine Run.condT rfl ?_
        refine Run.seq ?_
        refine Run.region ?_
        refine RunL.ok (OpOk.assign rfl) rfl ?_
        refine RunL.nil ?_
        refine Run.ret1 Try.func31 rfl rfl ?_
        exact ⟨_, _, rfl, (Eq.trans (frc (frl rfl) (frc rfl rfl)) (congrArg (· * _) (congrArg (· * _) as1)))⟩
      · have e1 : apE s w bs (flatB ls) = 0 := by unfold apE; rw [if_neg (by omega), hN, if_neg (by omega)]
        have e2 : apB s w bs (flatB ls) = bs ++ (flatB ls).take (flatB ls).length := by unfold apB; rw [if_neg (by omega), hN, Nat.min_eq_left (by omega)]
        have e3 : apW s w bs (flatB ls) = ((w - (flatB ls).length : Nat) : Int) := by unfold apW; rw [if_neg (by omega), if_pos (by omega), hN]; omega
        have e4 : ((flatB ls).take (flatB ls).length).length = (flatB ls).length := by rw [e0]; omega
        rw [e1, e2, e3, List.length_append, e4]
        refine Run.seq ?_
        refine Run.region ?_
        refine RunL.ok (OpOk.assign rfl) rfl ?_
        refine RunL.nil ?_
        refine Run.seq ?_
        refine Run.region ?_
        refine RunL.ok (OpOk.move rfl) rfl ?_
        refine RunL.call cal78 rfl (s78 rd.left.left hin.left.left (by omega)) rfl (fun vx1 Ax1 hx1 => ?_)
        obtain rfl := hx1
        refine RunL.ok (OpOk.assign rfl) rfl ?_
        refine RunL.nil ?_
        refine Run.seq ?_
        refine Run.seq ?_
        refine Run.know (fun w s => (s.conv (frl rfl)).ownRd0) (fun rdx2 => ?_)
        refine Run.know (fun w s => (s.conv rfl).ownRd0) (fun rdx3 => ?_)
        (apply Run.drawD [] (by rfl) (sep_emp _).symm; case hchk => kernel_rfl)
        refine Sd.quiet 0 _ _ rfl rfl rfl rfl rfl (QOp.ok (fun X => OpOk.move rfl)) ?_
        refine Sd.quiet 1 _ _ rfl rfl rfl rfl rfl (QOp.ok (fun X => OpOk.lenR rfl rfl (Rd.right rdx3).left.left rfl)) ?_
        refine Sd.quiet 2 _ _ rfl rfl rfl rfl rfl (QOp.ok (fun X => OpOk.move rfl)) ?_
        refine Sd.quiet 3 _ _ rfl rfl rfl rfl rfl (QOp.ok (fun X => OpOk.nilOk rfl)) ?_
        refine Sd.quiet 4 _ _ rfl rfl rfl rfl rfl (QOp.ok (fun X => OpOk.fieldAddr fld145_0 rfl)) ?_
        refine Sd.quiet 5 _ _ rfl rfl rfl rfl rfl (QOp.ok (fun X => OpOk.load rfl rfl rfl (Blk.out Blk.pts.left.left.left.left _ _ (by first | rfl | assumption)))) ?_
        refine Sd.quiet 6 _ _ rfl rfl rfl rfl rfl (QOp.ok (fun X => OpOk.move rfl)) ?_
        refine Sd.quiet 7 _ _ rfl rfl rfl rfl rfl (QOp.ok (fun X => OpOk.nilOk rfl)) ?_
        refine Sd.quiet 8 _ _ rfl rfl rfl rfl rfl (QOp.ok (fun X => OpOk.fieldAddr fld145_2 rfl)) ?_
        refine Sd.quiet 9 _ _ rfl rfl rfl rfl rfl (QOp.ok (fun X => OpOk.load rfl rfl rfl (Blk.out Blk.pts.left.left.left.left _ _ (by first | rfl | assumption)))) ?_
        refine Sd.quiet 10 _ _ rfl rfl rfl rfl rfl (QOp.ok (fun X => OpOk.lenR rfl rfl (Rd.right rdx2).left.left.left rfl)) ?_
        refine Sd.quiet 11 _ _ rfl rfl rfl rfl rfl (QOp.ok (fun X => OpOk.sub rfl rfl (wrapI (by omega) (by omega)))) ?_
        refine Sd.quiet 12 _ _ rfl rfl rfl rfl rfl (QOp.ok (fun X => OpOk.asF (OpOk.gtr rfl rfl) (by omega))) ?_
        (apply Sd.tail; case hall => kernel_rfl)
        refine RunL.mem (fl2 (sep_emp _) (sep_emp _)) ?_
        refine RunL.nil ?_
        refine Run.condF rfl ?_
        refine Run.skip ?_
        refine Run.seq ?_
        refine Run.region ?_
        refine RunL.ok (OpOk.move rfl) rfl ?_
        refine RunL.ok (OpOk.lenR rfl rfl (Rd.right rdx3) rfl) rfl ?_
        refine RunL.ok (OpOk.assign rfl) rfl ?_
        refine RunL.nil ?_
        refine Run.seq ?_
        refine Run.seq ?_
        refine Run.region ?_
        refine RunL.ok (OpOk.move rfl) rfl ?_
        refine RunL.ok (OpOk.nilOk rfl) rfl ?_
        refine RunL.ok (OpOk.fieldAddr fld145_1 rfl) rfl ?_
        refine RunL.ok (OpOk.load rfl rfl rfl (Blk.out Blk.pts.left.left _ _ (by first | rfl | assumption))) rfl ?_
        refine RunL.ok (OpOk.asT (OpOk.geq rfl rfl) (by omega)) rfl ?_
        refine RunL.nil ?_
        refine Run.condT rfl ?_
        refine Run.seq ?_
        refine Run.region ?_
        refine RunL.ok (OpOk.move rfl) rfl ?_
        refine RunL.ok (OpOk.move rfl) rfl ?_
        refine RunL.ok (OpOk.nilOk rfl) rfl ?_
        refine RunL.ok (OpOk.fieldAddr fld145_1 rfl) rfl ?_
        refine RunL.ok (OpOk.load rfl rfl rfl (Blk.out Blk.pts.left.left _ _ (by first | rfl | assumption))) rfl ?_
        refine RunL.ok (OpOk.min2L rfl rfl rfl (by omega)) rfl ?_
        refine RunL.ok (OpOk.assign rfl) rfl ?_
        refine RunL.nil ?_
        refine Run.region ?_
        refine RunL.ok (OpOk.move rfl) rfl ?_
        refine RunL.ok (OpOk.nilOk rfl) rfl ?_
        refine RunL.ok (OpOk.fieldAddr fld145_1 rfl) rfl ?_
        refine RunL.ok (OpOk.load rfl rfl rfl (Blk.out Blk.pts.left.left _ _ (by first | rfl | assumption))) rfl ?_
        refine RunL.ok (OpOk.move rfl) rfl ?_
        refine RunL.ok (OpOk.subN _ _ rfl rfl rfl rfl (by omega) (by omega)) rfl ?_
        refine RunL.ok (OpOk.nilOk rfl) rfl ?_
        refine RunL.ok (OpOk.fieldAddr fld145_1 rfl) rfl ?_
        refine RunL.store ti3 rfl rfl rfl (frl (frl rfl)) (by exact Nat.le_of_ble_eq_true rfl) (.inl rfl) ?_
        refine RunL.nil ?_
        refine Run.seq ?_
        (apply Run.drawD [11] (by rfl) (Eq.trans (frc (frl (frl rfl)) rfl) rfl); case hchk => kernel_rfl)
        refine Sd.quiet 0 _ _ rfl rfl rfl rfl rfl (QOp.ok (fun X => OpOk.move rfl)) ?_
        refine Sd.quiet 1 _ _ rfl rfl rfl rfl rfl (QOp.ok (fun X => OpOk.move rfl)) ?_
        refine Sd.quiet 2 _ _ rfl rfl rfl rfl rfl (QOp.ok (fun X => OpOk.nilOk rfl)) ?_
        refine Sd.quiet 3 _ _ rfl rfl rfl rfl rfl (QOp.ok (fun X => OpOk.fieldAddr fld145_2 rfl)) ?_
        refine Sd.quiet 4 _ _ rfl rfl rfl rfl rfl (QOp.ok (fun X => OpOk.load rfl rfl rfl (Blk.out Blk.pts.left.left _ _ (by first | rfl | assumption)))) ?_
        refine Sd.quiet 5 _ _ rfl rfl rfl rfl rfl (QOp.ok (fun X => OpOk.move rfl)) ?_
        refine Sd.quiet 6 _ _ rfl rfl rfl rfl rfl (QOp.ok (fun X => OpOk.move rfl)) ?_
        refine Sd.quiet 7 _ _ rfl rfl rfl rfl rfl (QOp.ok (fun X => OpOk.cut rfl ti5 rfl (Rd.right rdx3).left.left.left rfl ⟨_, rfl⟩ (by omega) (by omega))) ?_
        refine Sd.quiet 9 _ _ rfl rfl rfl rfl rfl (QOp.ok (fun X => OpOk.nilOk rfl)) ?_
        refine Sd.quiet 10 _ _ rfl rfl rfl rfl rfl (QOp.ok (fun X => OpOk.fieldAddr fld145_2 rfl)) ?_
        (refine Sd.exec 8 rfl rfl rfl rfl rfl ?hrest (by rfl) (fun Xx4 Kx4 hKx4 => ?_); case hrest => kernel_rfl)
        refine RunL.mem (fl2 (sep_emp _) rfl) ?_
        refine RunL.appendB rfl ti5 rfl rfl rfl rfl (Rd.cutB0 (Rd.right rdx3).left.left.left (by omega)) (by omega) rfl (fun vx5 rdx5 => ?_)
        refine RunL.know (fun w s => (s.conv rfl).ownRd0) (fun rdx6 => ?_)
        refine Sd.ret hKx4 (Eq.trans rfl (gp2 (sep_emp _).symm rfl)) ⟨_, (emp_sep _).symm⟩ ?_
        (apply Sd.tail; case hall => kernel_rfl)
        refine RunL.mem (fl2 rfl (sep_emp _)) ?_
        refine RunL.store ti63 rfl rfl (Rd.one rdx6) (frl rfl) (by exact Nat.le_of_ble_eq_true rfl) (.inl rfl) ?_
        refine RunL.nil ?_
        refine Run.seq ?_
        refine Run.seq ?_
        refine Run.region ?_
        refine RunL.ok (OpOk.move rfl) rfl ?_
        refine RunL.ok (OpOk.move rfl) rfl ?_
        refine RunL.ok (OpOk.lenR rfl rfl (Rd.right rdx3).left.left rfl) rfl ?_
        refine RunL.ok (OpOk.asF (OpOk.lss rfl rfl) (by omega)) rfl ?_
        refine RunL.nil ?_
        refine Run.condF rfl ?_
        refine Run.skip ?_
        refine Run.seq ?_
        refine Run.region ?_
        refine RunL.ok (OpOk.assign rfl) rfl ?_
        refine RunL.nil ?_
        refine Run.ret1 Try.func31 rfl rfl ?_
        exact ⟨_, _, rfl, (Eq.trans (frc (frl rfl) (frc rfl rfl)) (congrArg (· * _) (congrArg (· * _) as1)))⟩
theorem apE_full {s w : Int} {bs all : List UInt8} (hf : s - bs.length < all.length) : apE s w bs all = 20 ∧ apB s w bs all = bs ∧ apW s w bs all = w := ⟨if_pos hf, if_pos hf, if_pos hf⟩
theorem apE_free {s w : Int} {bs all : List UInt8} (hf : (all.length : Int) ≤ s - bs.length) (hw : w < 0) : apE s w bs all = 0 ∧ apB s w bs all = bs ++ all ∧ apW s w bs all = w := by
  have hN : apN w all = all.length := if_neg (by omega)
  refine ⟨?_, ?_, ?_⟩
  · unfold apE; rw [if_neg (by omega), hN, if_neg (by omega)]
  · unfold apB; rw [if_neg (by omega), hN, List.take_length]
  · unfold apW; rw [if_neg (by omega), if_neg (by omega)]
theorem apE_fits {s w : Int} {bs all : List UInt8} (hf : (all.length : Int) ≤ s - bs.length) (hw : 0 ≤ w) (hn : (all.length : Int) ≤ w) : apE s w bs all = 0 ∧ apB s w bs all = bs ++ all ∧ apW s w bs all = w - all.length := by
  have hN : apN w all = all.length := by unfold apN; rw [if_pos hw]; omega
  refine ⟨?_, ?_, ?_⟩
  · unfold apE; rw [if_neg (by omega), hN, if_neg (by omega)]
  · unfold apB; rw [if_neg (by omega), hN, List.take_length]
  · unfold apW; rw [if_neg (by omega), if_pos (by omega), hN]
theorem apE_torn {s w : Int} {bs all : List UInt8} (hf : (all.length : Int) ≤ s - bs.length) (hw : 0 ≤ w) (hn : w < all.length) : apE s w bs all = 30 ∧ apB s w bs all = bs ++ all.take w.toNat ∧ apW s w bs all = 0 := by
  have hN : apN w all = w.toNat := by unfold apN; rw [if_pos hw]; omega
  refine ⟨?_, ?_, ?_⟩
  · unfold apE; rw [if_neg (by omega), hN, if_pos (by omega)]
  · unfold apB; rw [if_neg (by omega), hN]
  · unfold apW; rw [if_neg (by omega), if_pos (by omega), hN]; omega
section
variable {w0 : World} {A : Asn} {p m : Nat} {v u : Value} {s w : Int} {bs : List UInt8} {ls : List (Value × List UInt8)}
theorem s31a (rd : Rd w0 A u 1 m (Fl encV ls)) (hin : Alls (GB w0) A ls) (hf : s - bs.length < (flatB ls).length) (hs : 0 ≤ s) (hs2 : s ≤ 9223372036854775807) (hw2 : w ≤ 9223372036854775807) (hlim : bs.length + (flatB ls).length ≤ 140737488355328) :
    Spec Try.prog w0 31 [.pointer (some ⟨p, 0, none⟩), u] (A * pts p (.cells #[.int .i64 (s), .int .i64 (w), v] 145 (0, 0)) * own 5 1 v (bs).length (B (bs))) (fun v' A' => ∃ v2 J, v' = .int .i64 20 ∧ A' = A * J * pts p (.cells #[.int .i64 (s), .int .i64 (w), v2] 145 (0, 0)) * own 5 1 v2 (bs).length (B (bs))) := by
  have h := s31 (p := p) (v := v) rd hin hs hs2 hw2 hlim
  obtain ⟨e1, e2, e3⟩ := apE_full (w := w) hf
  rwa [e1, e2, e3] at h
theorem s31b (rd : Rd w0 A u 1 m (Fl encV ls)) (hin : Alls (GB w0) A ls) (hf : ((flatB ls).length : Int) ≤ s - bs.length) (hw : w < 0) (hs : 0 ≤ s) (hs2 : s ≤ 9223372036854775807) (hlim : bs.length + (flatB ls).length ≤ 140737488355328) :
    Spec Try.prog w0 31 [.pointer (some ⟨p, 0, none⟩), u] (A * pts p (.cells #[.int .i64 (s), .int .i64 (w), v] 145 (0, 0)) * own 5 1 v (bs).length (B (bs))) (fun v' A' => ∃ v2 J, v' = .int .i64 0 ∧ A' = A * J * pts p (.cells #[.int .i64 (s), .int .i64 (w), v2] 145 (0, 0)) * own 5 1 v2 (bs ++ flatB ls).length (B (bs ++ flatB ls))) := by
  have h := s31 (p := p) (v := v) rd hin hs hs2 (by omega : w ≤ _) hlim
  obtain ⟨e1, e2, e3⟩ := apE_free hf hw
  rwa [e1, e2, e3] at h
theorem s31c (rd : Rd w0 A u 1 m (Fl encV ls)) (hin : Alls (GB w0) A ls) (hf : ((flatB ls).length : Int) ≤ s - bs.length) (hw : 0 ≤ w) (hn : ((flatB ls).length : Int) ≤ w) (hs : 0 ≤ s) (hs2 : s ≤ 9223372036854775807) (hw2 : w ≤ 9223372036854775807) (hlim : bs.length + (flatB ls).length ≤ 140737488355328) :
    Spec Try.prog w0 31 [.pointer (some ⟨p, 0, none⟩), u] (A * pts p (.cells #[.int .i64 (s), .int .i64 (w), v] 145 (0, 0)) * own 5 1 v (bs).length (B (bs))) (fun v' A' => ∃ v2 J, v' = .int .i64 0 ∧ A' = A * J * pts p (.cells #[.int .i64 (s), .int .i64 (w - (flatB ls).length), v2] 145 (0, 0)) * own 5 1 v2 (bs ++ flatB ls).length (B (bs ++ flatB ls))) := by
  have h := s31 (p := p) (v := v) rd hin hs hs2 hw2 hlim
  obtain ⟨e1, e2, e3⟩ := apE_fits hf hw hn
  rwa [e1, e2, e3] at h
theorem s31d (rd : Rd w0 A u 1 m (Fl encV ls)) (hin : Alls (GB w0) A ls) (hf : ((flatB ls).length : Int) ≤ s - bs.length) (hw : 0 ≤ w) (hn : w < (flatB ls).length) (hs : 0 ≤ s) (hs2 : s ≤ 9223372036854775807) (hlim : bs.length + (flatB ls).length ≤ 140737488355328) :
    Spec Try.prog w0 31 [.pointer (some ⟨p, 0, none⟩), u] (A * pts p (.cells #[.int .i64 (s), .int .i64 (w), v] 145 (0, 0)) * own 5 1 v (bs).length (B (bs))) (fun v' A' => ∃ v2 J, v' = .int .i64 30 ∧ A' = A * J * pts p (.cells #[.int .i64 (s), .int .i64 (0), v2] 145 (0, 0)) * own 5 1 v2 (bs ++ (flatB ls).take w.toNat).length (B (bs ++ (flatB ls).take w.toNat))) := by
  have h := s31 (p := p) (v := v) rd hin hs hs2 (by omega : w ≤ _) hlim
  obtain ⟨e1, e2, e3⟩ := apE_torn hf hw hn
  rwa [e1, e2, e3] at h
end
end Go.Proofs.Yteopadjihklkmaa
