/- Part 8 of the proof of ShellKeeps. -/
import Derived.Test.YteopadjihklkmaaMShellKeeps7
section
namespace Go.Proofs.Yteopadjihklkmaa
open Go Go.Proofs
set_option maxRecDepth 100000
set_option maxHeartbeats 4000000
theorem newT205 (A : Asn) (p : Nat) : Ent (A * pts p (.cells (Value.agg #[.slice none 0 0, .int .i64 0]).cells 205 (0, 0))) (A * pts p (.cells #[(.slice none 0 0), .int .i64 ((((List.nil : List Bool)).length : Nat) : Int)] 205 (0, 0)) * own 5 1 (.slice none 0 0) ((((List.nil : List Bool)).length + 7) / 8) (B (pack ((List.nil : List Bool)) ((((List.nil : List Bool)).length + 7) / 8)))) := Ent.ownNil' _ _ _ _ rfl
theorem s112 {w0 : World} {A : Asn} {p : Nat} {v u : Value} {bs : List Bool} {m : Nat} {fs : List (Int × Int)} (rd : Rd w0 A u 2 m (Fl encF fs)) (hlim : bs.length + 32 * m ≤ 562949953421312) :
    Spec Try.prog w0 112 [.pointer (some ⟨p, 0, none⟩), u] (A * pts p (.cells #[v, .int .i64 (((bs).length : Nat) : Int)] 205 (0, 0)) * own 5 1 v (((bs).length + 7) / 8) (B (pack (bs) (((bs).length + 7) / 8)))) (fun v' A' => ∃ e v2, v' = .int .i64 e ∧ A' = A * pts p (.cells #[v2, .int .i64 (((if fs.all fitsF then bs ++ fieldBits fs else bs).length : Nat) : Int)] 205 (0, 0)) * own 5 1 v2 (((if fs.all fitsF then bs ++ fieldBits fs else bs).length + 7) / 8) (B (pack (if fs.all fitsF then bs ++ fieldBits fs else bs) (((if fs.all fitsF then bs ++ fieldBits fs else bs).length + 7) / 8))) ∧ e = if fs.all fitsF then 0 else 2) := by
  have hl := rd.lenFl (fun _ => rfl) (by decide)
  subst hl
  refine Spec.mem (sep_assoc _ _ _) ((put_w rd hlim).mono fun v' A' h => ?_)
  obtain ⟨e, v2, h1, h2, h3⟩ := h
  exact ⟨e, v2, h1, h2.trans (sep_assoc _ _ _).symm, h3⟩
theorem s112a {w0 : World} {A : Asn} {p : Nat} {v u : Value} {bs : List Bool} {m : Nat} {fs : List (Int × Int)} (rd : Rd w0 A u 2 m (Fl encF fs)) (hok : fs.all fitsF = true) (hlim : bs.length + 32 * m ≤ 562949953421312) :
    Spec Try.prog w0 112 [.pointer (some ⟨p, 0, none⟩), u] (A * pts p (.cells #[v, .int .i64 (((bs).length : Nat) : Int)] 205 (0, 0)) * own 5 1 v (((bs).length + 7) / 8) (B (pack (bs) (((bs).length + 7) / 8)))) (fun v' A' => ∃ v2, v' = .int .i64 0 ∧ A' = A * pts p (.cells #[v2, .int .i64 (((bs ++ fieldBits fs).length : Nat) : Int)] 205 (0, 0)) * own 5 1 v2 (((bs ++ fieldBits fs).length + 7) / 8) (B (pack (bs ++ fieldBits fs) (((bs ++ fieldBits fs).length + 7) / 8)))) :=
  (s112 rd hlim).mono fun v' A' h => by
    obtain ⟨e, v2, h1, h2, h3⟩ := h
    simp only [hok, if_true] at h2 h3
    exact ⟨v2, h3 ▸ h1, h2⟩
theorem s113 {w0 : World} {A : Asn} {p : Nat} {v : Value} {bs : List Bool} (hlim : bs.length ≤ 562949953421312) :
    Spec Try.prog w0 113 [.pointer (some ⟨p, 0, none⟩)] (A * pts p (.cells #[v, .int .i64 (((bs).length : Nat) : Int)] 205 (0, 0)) * own 5 1 v (((bs).length + 7) / 8) (B (pack (bs) (((bs).length + 7) / 8)))) (fun v' A' => A' = A * pts p (.cells #[v, .int .i64 (((bs).length : Nat) : Int)] 205 (0, 0)) * own 5 1 v (((bs).length + 7) / 8) (B (pack (bs) (((bs).length + 7) / 8))) * own 5 1 v' ((bs.length + 7) / 8) (B (pack bs ((bs.length + 7) / 8)))) := by
  refine Spec.of_run [(0, .pointer (some ⟨p, 0, none⟩))] Try.func113 rfl (Nat.le_of_ble_eq_true rfl) (by repeat (first | exact trivial | refine ⟨rfl, ?_⟩)) ?_
  refine Run.seq ?_
  refine Run.region ?_
  refine RunL.ok (OpOk.assign rfl) rfl ?_
  refine RunL.nil ?_
  refine Run.seq ?_
  refine Run.region ?_
  refine RunL.ok (OpOk.move rfl) rfl ?_
  refine RunL.ok (OpOk.nilOk rfl) rfl ?_
  refine RunL.ok (OpOk.fieldAddr fld205_0 rfl) rfl ?_
  refine RunL.ok (OpOk.load rfl rfl rfl (Blk.out Blk.pts.left _ _ (by first | rfl | assumption))) rfl ?_
  refine RunL.know (fun w s => (s.conv rfl).ownRd0) (fun rdx1 => ?_)
  refine RunL.call cal77 rfl (s77 (Rd.right rdx1) (by omega)) rfl (fun vx2 Ax2 hx2 => ?_)
  obtain rfl := hx2
  refine RunL.ok (OpOk.assign rfl) rfl ?_
  refine RunL.nil ?_
  refine Run.ret1 Try.func113 rfl rfl ?_
  exact rfl
theorem s84 {w0 : World} {A : Asn} {u : Value} {m : Nat} {xs : List UInt8} (rd : Rd w0 A u 1 m (B xs)) (hlim : m ≤ 140737488355328) :
    Spec Try.prog w0 84 [u] A (fun v' A' => ∃ q v, v' = .pointer (some ⟨q, 0, none⟩) ∧ A' = A * pts q (.cells #[v, .int .i64 ((0 : Nat) : Int), .int .i64 (0)] 203 (0, 0)) * own 5 1 v (xs).length (B (xs))) := by
  have hl := rd.lenB
  subst hl
  refine Spec.of_run [(0, u)] Try.func84 rfl (Nat.le_of_ble_eq_true rfl) (by repeat (first | exact trivial | refine ⟨rfl, ?_⟩)) ?_
  refine Run.seq ?_
  refine Run.region ?_
  refine RunL.ok (OpOk.assign rfl) rfl ?_
  refine RunL.nil ?_
  refine Run.seq ?_
  refine Run.region ?_
  refine RunL.ok (OpOk.move rfl) rfl ?_
  refine RunL.call cal77 rfl (s77 rd (by assumption)) rfl (fun vx1 Ax1 hx1 => ?_)
  obtain rfl := hx1
  refine RunL.know (fun w s => (s.conv rfl).ownRd0) (fun rdx2 => ?_)
  obtain ⟨adx3, capx3, rfl, hcapx3, hadx3⟩ := (rdx2).form
  refine RunL.ok (OpOk.build (cells := #[.slice (adx3) (xs.length) (capx3), .int (IntKind.i64) (0), .int (IntKind.i64) (0)]) rfl (fun w => run_build w 203 _ _ (by rfl))) rfl ?_
  refine RunL.box rfl rfl (fun bx4 => ?_)
  refine RunL.ok (OpOk.assign rfl) rfl ?_
  refine RunL.nil ?_
  refine Run.ret1 Try.func84 rfl rfl ?_
  exact ⟨_, _, rfl, (frc (frl rfl) (frc rfl rfl))⟩
theorem s111 {w0 : World} {A : Asn} {q : Nat} {v : Value} {xs : List UInt8} {at_ : Nat} {e : Int} (hlim : xs.length ≤ 140737488355328) (ha : at_ ≤ 8 * xs.length) :
    Spec Try.prog w0 111 [.pointer (some ⟨q, 0, none⟩)] (A * pts q (.cells #[v, .int .i64 ((at_ : Nat) : Int), .int .i64 (e)] 203 (0, 0)) * own 5 1 v (xs).length (B (xs))) (fun v' A' => v' = .int .i64 ((8 * xs.length - at_ : Nat) : Int) ∧ A' = A * pts q (.cells #[v, .int .i64 ((at_ : Nat) : Int), .int .i64 (e)] 203 (0, 0)) * own 5 1 v (xs).length (B (xs))) := by
  refine Spec.of_run [(0, .pointer (some ⟨q, 0, none⟩))] Try.func111 rfl (Nat.le_of_ble_eq_true rfl) (by repeat (first | exact trivial | refine ⟨rfl, ?_⟩)) ?_
  refine Run.seq ?_
  refine Run.region ?_
  refine RunL.ok (OpOk.assign rfl) rfl ?_
  refine RunL.nil ?_
  refine Run.seq ?_
  refine Run.know (fun w s => (s.conv rfl).ownRd0) (fun rdx1 => ?_)
  refine Run.drop [2] ?_
  (apply Run.drawD [] (by rfl) (sep_emp _).symm; case hchk => kernel_rfl)
  refine Sd.quiet 0 _ _ rfl rfl rfl rfl rfl (QOp.ok (fun X => OpOk.move rfl)) ?_
  refine Sd.quiet 1 _ _ rfl rfl rfl rfl rfl (QOp.ok (fun X => OpOk.nilOk rfl)) ?_
  refine Sd.quiet 2 _ _ rfl rfl rfl rfl rfl (QOp.ok (fun X => OpOk.fieldAddr fld203_0 rfl)) ?_
  refine Sd.quiet 3 _ _ rfl rfl rfl rfl rfl (QOp.ok (fun X => OpOk.load rfl rfl rfl (Blk.out Blk.pts.left.left.left _ _ (by first | rfl | assumption)))) ?_
  refine Sd.quiet 4 _ _ rfl rfl rfl rfl rfl (QOp.ok (fun X => OpOk.lenR rfl rfl (Rd.right rdx1).left.left rfl)) ?_
  refine Sd.quiet 5 _ _ rfl rfl rfl rfl rfl (QOp.ok (fun X => OpOk.mulN 8 _ rfl rfl rfl rfl (by omega))) ?_
  refine Sd.quiet 6 _ _ rfl rfl rfl rfl rfl (QOp.ok (fun X => OpOk.move rfl)) ?_
  refine Sd.quiet 7 _ _ rfl rfl rfl rfl rfl (QOp.ok (fun X => OpOk.nilOk rfl)) ?_
  refine Sd.quiet 8 _ _ rfl rfl rfl rfl rfl (QOp.ok (fun X => OpOk.fieldAddr fld203_1 rfl)) ?_
  refine Sd.quiet 9 _ _ rfl rfl rfl rfl rfl (QOp.ok (fun X => OpOk.load rfl rfl rfl (Blk.out Blk.pts.left.left.left _ _ (by first | rfl | assumption)))) ?_
  refine Sd.quiet 10 _ _ rfl rfl rfl rfl rfl (QOp.ok (fun X => OpOk.subN _ _ rfl rfl rfl rfl (by omega) (by omega))) ?_
  refine Sd.quiet 11 _ _ rfl rfl rfl rfl rfl (QOp.ok (fun X => OpOk.assign rfl)) ?_
  (apply Sd.tail; case hall => kernel_rfl)
  refine RunL.mem (fl2 (sep_emp _) (sep_emp _)) ?_
  refine RunL.nil ?_
  refine Run.ret1 Try.func111 rfl rfl ?_
  exact ⟨rfl, rfl⟩
def badW (w : Int) : Bool := decide (w < 1 ∨ 32 < w)
/-- The numbers of these widths from a place on. -/
def nums (xs : List UInt8) : Nat → List Int → List Int
  | _, [] => []
  | a, w :: r => ((numAt xs a w.toNat : Nat) : Int) :: nums xs (a + w.toNat) r
def widthsN (ws : List Int) : Nat := (ws.map Int.toNat).sum
/-- What Take leaves and answers. -/
def takeE (xs : List UInt8) (a : Nat) (e : Int) (ws : List Int) : Int := if e = 0 then (if ws.any badW then 2 else if 8 * xs.length - a < widthsN ws then 10 else 0) else e
def takeL (xs : List UInt8) (a : Nat) (e : Int) (ws : List Int) : List Int := if takeE xs a e ws = 0 then nums xs a ws else []
def takeA (xs : List UInt8) (a : Nat) (e : Int) (ws : List Int) : Nat := if takeE xs a e ws = 0 then a + widthsN ws else a
theorem nums_length (xs : List UInt8) (a : Nat) (ws : List Int) : (nums xs a ws).length = ws.length := by
  induction ws generalizing a with
  | nil => rfl
  | cons w r ih => simp [nums, ih]
theorem widthsN_append (a b : List Int) : widthsN (a ++ b) = widthsN a + widthsN b := by simp [widthsN]
theorem nums_append (xs : List UInt8) (a : Nat) (u w : List Int) : nums xs a (u ++ w) = nums xs a u ++ nums xs (a + widthsN u) w := by
  induction u generalizing a with
  | nil => simp [nums, widthsN]
  | cons x r ih => simp [nums, ih, widthsN, Nat.add_assoc]
theorem any_take {α : Type} {p : α → Bool} {l : List α} (i : Nat) (h : l.any p = false) : (l.take i).any p = false := by
  rw [List.any_eq_false] at *
  exact fun x hx => h x (List.mem_of_mem_take hx)
theorem widthsN_le {ws : List Int} (h : ws.any badW = false) : widthsN ws ≤ 32 * ws.length := by
  induction ws with
  | nil => simp [widthsN]
  | cons w r ih =>
    rw [List.any_cons, Bool.or_eq_false_iff] at h
    have := ih h.2
    have h1 := h.1
    simp only [badW, decide_eq_false_iff_not] at h1
    simp only [widthsN, List.map_cons, List.sum_cons, List.length_cons] at *
    omega
theorem widthsN_take_le (ws : List Int) (i : Nat) : widthsN (ws.take i) ≤ widthsN ws := by
  have : widthsN ws = widthsN (ws.take i) + widthsN (ws.drop i) := by rw [← widthsN_append, List.take_append_drop]
  omega
theorem s85 {w0 : World} {A : Asn} {q : Nat} {v u : Value} {xs : List UInt8} {at_ m : Nat} {e : Int} {ws : List Int} (rd : Rd w0 A u 1 m (I ws)) (hlim : xs.length ≤ 140737488355328) (ha : at_ ≤ 8 * xs.length) (hws : m ≤ 17592186044416) :
    Spec Try.prog w0 85 [.pointer (some ⟨q, 0, none⟩), u] (A * pts q (.cells #[v, .int .i64 ((at_ : Nat) : Int), .int .i64 (e)] 203 (0, 0)) * own 5 1 v (xs).length (B (xs)))
      (fun v' A' => A' = A * pts q (.cells #[v, .int .i64 ((takeA xs at_ e ws : Nat) : Int), .int .i64 (takeE xs at_ e ws)] 203 (0, 0)) * own 5 1 v (xs).length (B (xs)) * own 3 1 v' (takeL xs at_ e ws).length (I (takeL xs at_ e ws))) := by
  have hl := rd.lenI
  subst hl
  refine Spec.of_run [(0, .pointer (some ⟨q, 0, none⟩)), (1, u)] Try.func85 rfl (Nat.le_of_ble_eq_true rfl) (by repeat (first | exact trivial | refine ⟨rfl, ?_⟩)) ?_
  refine Run.seq ?_
  refine Run.region ?_
  refine RunL.ok (OpOk.assign rfl) rfl ?_
  refine RunL.nil ?_
  refine Run.seq ?_
  refine Run.seq ?_
  refine Run.region ?_
  refine RunL.ok (OpOk.move rfl) rfl ?_
  refine RunL.ok (OpOk.nilOk rfl) rfl ?_
  refine RunL.ok (OpOk.fieldAddr fld203_2 rfl) rfl ?_
  refine RunL.ok (OpOk.load rfl rfl rfl (Blk.out Blk.pts.left _ _ (by first | rfl | assumption))) rfl ?_
  refine RunL.ok (OpOk.neq rfl rfl) rfl ?_
  refine RunL.nil ?_
  refine Run.condN rfl (fun x1 => ?_) (fun x1 => ?_)
  · refine Run.seq ?_
    refine Run.region ?_
    refine RunL.ok (OpOk.assign rfl) rfl ?_
    refine RunL.nil ?_
    refine Run.ent (Ent.ownNil' _ 3 1 (I []) rfl) ?_
    refine Run.ret1 Try.func85 rfl rfl ?_
    have h : takeE xs at_ e ws = e := by simp [takeE, x1]
    simp only [takeL, takeA, h, if_neg x1]
    rfl
  refine Run.skip ?_
  refine Run.seq ?_
  refine Run.region ?_
  refine RunL.ok (OpOk.assign rfl) rfl ?_
  refine RunL.nil ?_
  refine Run.seq ?_
  refine Run.seq ?_
  refine Run.region ?_
  refine RunL.ok (OpOk.move rfl) rfl ?_
  refine RunL.ok (OpOk.lenR rfl rfl rd.left.left rfl) rfl ?_
  refine RunL.ok (OpOk.move rfl) rfl ?_
  refine RunL.nil ?_
  refine Run.block ?_
  subst x1
  refine Run.loop (X := Nat) (fun i => [(0, .pointer (some ⟨q, 0, none⟩)), (1, u), (17, u), (18, .int .i64 (ws.length : Int)), (5, .int .i64 ((widthsN (ws.take i) : Nat) : Int)), (19, .int .i64 i)]) (fun _ => A * pts q (.cells #[v, .int .i64 (at_ : Int), .int .i64 0] 203 (0, 0)) * own 5 1 v xs.length (B xs)) (fun i => i ≤ ws.length ∧ (ws.take i).any badW = false) (fun i => ws.length - i) 0 ⟨rfl, rfl, rfl, rfl, rfl, rfl, trivial⟩ rfl ⟨by omega, by simp⟩ (fun i hi ih => ?_)
  obtain ⟨hi, hn⟩ := hi
  have hsum := widthsN_le hn
  rw [List.length_take] at hsum
  rcases Nat.lt_or_ge i ws.length with hlt | hge
  · have ht := take_next hlt
    have hz : ws.any badW = ((ws.take i).any badW || (ws.drop i).any badW) := by rw [← List.any_append, List.take_append_drop]
    rw [drop_next hlt, List.any_cons, hn, Bool.false_or] at hz
    have hw : widthsN (ws.take (i + 1)) = widthsN (ws.take i) + (ws.getD i default).toNat := by rw [ht, widthsN_append]; simp [widthsN]
    have hb : (ws.take (i + 1)).any badW = badW (ws.getD i default) := by rw [ht, List.any_append, hn]; simp
    generalize hx : ws.getD i default = x at *
    have hx' : ws.getD i 0 = x := hx
    rcases Decidable.em (x < 1 ∨ 32 < x) with hbad | hbad
    · have h1 : badW x = true := by simp [badW, hbad]
      rw [h1, Bool.true_or] at hz
      have hE : takeE xs at_ 0 ws = 2 := by simp [takeE, hz]
      rw [hE]
      simp only [takeL, takeA, hE, if_neg (show ¬ (2 : Int) = 0 by decide)]
      rcases Int.lt_or_le x 1 with hc | hc
      · refine Run.seq ?_
        refine Run.region ?_
        refine RunL.ok (OpOk.asT (OpOk.lss rfl rfl) (by omega)) rfl ?_
        refine RunL.nil ?_
        refine Run.seq ?_
        refine Run.condT rfl ?_
        refine Run.skip ?_
        refine Run.seq ?_
        refine Run.block ?_
        refine Run.seq ?_
        refine Run.region ?_
        refine RunL.ok (OpOk.idx1N rfl ti3 rfl rd.left.left rfl (by omega)) rfl ?_
        refine RunL.ok (OpOk.load rfl rfl rfl (Rd.getIE (by assumption) rd.left.left (by omega))) rfl ?_
        refine RunL.ok (OpOk.assign rfl) rfl ?_
        refine RunL.nil ?_
        refine Run.seq ?_
        refine Run.seq ?_
        refine Run.region ?_
        refine RunL.ok (OpOk.move rfl) rfl ?_
        refine RunL.ok (OpOk.asT (OpOk.lss rfl rfl) (by omega)) rfl ?_
        refine RunL.ok (OpOk.move rfl) rfl ?_
        refine RunL.off rfl rfl rfl rfl ?_
        refine RunL.off rfl rfl rfl rfl ?_
        refine RunL.ok (OpOk.pickT rfl rfl) rfl ?_
        refine RunL.nil ?_
        refine Run.condT rfl ?_
        refine Run.seq ?_
        refine Run.region ?_
        refine RunL.ok (OpOk.move rfl) rfl ?_
        refine RunL.ok (OpOk.nilOk rfl) rfl ?_
        refine RunL.ok (OpOk.fieldAddr fld203_2 rfl) rfl ?_
        refine RunL.store ti36 rfl rfl rfl (frl rfl) (by exact Nat.le_of_ble_eq_true rfl) (.inl rfl) ?_
        refine RunL.nil ?_
        refine Run.seq ?_
        refine Run.region ?_
        refine RunL.ok (OpOk.assign rfl) rfl ?_
        refine RunL.nil ?_
        refine Run.ent (Ent.ownNil' _ 3 1 (I []) rfl) ?_
        refine Run.ret1 Try.func85 rfl rfl ?_
        exact (frc rfl (frc (frl rfl) (frc rfl rfl)))
      · refine Run.seq ?_
        refine Run.region ?_
        refine RunL.ok (OpOk.asT (OpOk.lss rfl rfl) (by omega)) rfl ?_
        refine RunL.nil ?_
        refine Run.seq ?_
        refine Run.condT rfl ?_
        refine Run.skip ?_
        refine Run.seq ?_
        refine Run.block ?_
        refine Run.seq ?_
        refine Run.region ?_
        refine RunL.ok (OpOk.idx1N rfl ti3 rfl rd.left.left rfl (by omega)) rfl ?_
        refine RunL.ok (OpOk.load rfl rfl rfl (Rd.getIE (by assumption) rd.left.left (by omega))) rfl ?_
        refine RunL.ok (OpOk.assign rfl) rfl ?_
        refine RunL.nil ?_
        refine Run.seq ?_
        refine Run.seq ?_
        refine Run.region ?_
        refine RunL.ok (OpOk.move rfl) rfl ?_
        refine RunL.ok (OpOk.asF (OpOk.lss rfl rfl) (by omega)) rfl ?_
        refine RunL.ok (OpOk.move rfl) rfl ?_
        refine RunL.on rfl rfl ?_
        refine RunL.ok (OpOk.move rfl) rfl ?_
        refine RunL.on rfl rfl ?_
        refine RunL.ok (OpOk.asT (OpOk.gtr rfl rfl) (by omega)) rfl ?_
        refine RunL.ok (OpOk.pickF rfl rfl) rfl ?_
        refine RunL.nil ?_
        refine Run.condT rfl ?_
        refine Run.seq ?_
        refine Run.region ?_
        refine RunL.ok (OpOk.move rfl) rfl ?_
        refine RunL.ok (OpOk.nilOk rfl) rfl ?_
        refine RunL.ok (OpOk.fieldAddr fld203_2 rfl) rfl ?_
        refine RunL.store ti36 rfl rfl rfl (frl rfl) (by exact Nat.le_of_ble_eq_true rfl) (.inl rfl) ?_
        refine RunL.nil ?_
        refine Run.seq ?_
        refine Run.region ?_
        refine RunL.ok (OpOk.assign rfl) rfl ?_
        refine RunL.nil ?_
        refine Run.ent (Ent.ownNil' _ 3 1 (I []) rfl) ?_
        refine Run.ret1 Try.func85 rfl rfl ?_
        exact (frc rfl (frc (frl rfl) (frc rfl rfl)))
    · have h1 : badW x = false := by simp [badW, hbad]
      obtain ⟨x, rfl⟩ := Int.eq_ofNat_of_zero_le (show 0 ≤ x by omega)
      refine Run.seq ?_
      refine Run.region ?_
      refine RunL.ok (OpOk.asT (OpOk.lss rfl rfl) (by omega)) rfl ?_
      refine RunL.nil ?_
      refine Run.seq ?_
      refine Run.condT rfl ?_
      refine Run.skip ?_
      refine Run.seq ?_
      refine Run.block ?_
      refine Run.seq ?_
      refine Run.region ?_
      refine RunL.ok (OpOk.idx1N rfl ti3 rfl rd.left.left rfl (by omega)) rfl ?_
      refine RunL.ok (OpOk.load rfl rfl rfl (Rd.getIE (by assumption) rd.left.left (by omega))) rfl ?_
      refine RunL.ok (OpOk.assign rfl) rfl ?_
      refine RunL.nil ?_
      refine Run.seq ?_
      refine Run.seq ?_
      refine Run.region ?_
      refine RunL.ok (OpOk.move rfl) rfl ?_
      refine RunL.ok (OpOk.asF (OpOk.lss rfl rfl) (by omega)) rfl ?_
      refine RunL.ok (OpOk.move rfl) rfl ?_
      refine RunL.on rfl rfl ?_
      refine RunL.ok (OpOk.move rfl) rfl ?_
      refine RunL.on rfl rfl ?_
      refine RunL.ok (OpOk.asF (OpOk.gtr rfl rfl) (by omega)) rfl ?_
      refine RunL.ok (OpOk.pickF rfl rfl) rfl ?_
      refine RunL.nil ?_
      refine Run.condF rfl ?_
      refine Run.skip ?_
      refine Run.region ?_
      refine RunL.ok (OpOk.move rfl) rfl ?_
      refine RunL.ok (OpOk.move rfl) rfl ?_
      refine RunL.ok (OpOk.addN _ _ rfl rfl rfl rfl (by omega)) rfl ?_
      refine RunL.ok (OpOk.assign rfl) rfl ?_
      refine RunL.nil ?_
      refine Run.inBlock ?_
      refine Run.region ?_
      refine RunL.ok (OpOk.addN _ 1 rfl rfl rfl rfl (by omega)) rfl ?_
      refine RunL.ok (OpOk.move rfl) rfl ?_
      refine RunL.nil ?_
      refine Run.jump ((ih (i + 1) ⟨by omega, by rw [hb, h1]⟩ (by omega))) ⟨rfl, rfl, rfl, rfl, lkI rfl (by omega), rfl, trivial⟩ ((Grew.refl _))
  · obtain rfl : i = ws.length := by omega
    rw [List.take_length] at *
    clear ih
    refine Run.seq ?_
    refine Run.region ?_
    refine RunL.ok (OpOk.asF (OpOk.lss rfl rfl) (by omega)) rfl ?_
    refine RunL.nil ?_
    refine Run.seq ?_
    refine Run.condF rfl ?_
    refine Run.exit rfl ?_
    refine Run.seq ?_
    refine Run.seq ?_
    refine Run.region ?_
    refine RunL.ok (OpOk.move rfl) rfl ?_
    refine RunL.ok (OpOk.move rfl) rfl ?_
    refine RunL.call cal111 rfl (s111 (by assumption) (by assumption)) rfl (fun vy1 Ay1 hy1 => ?_)
    obtain ⟨rfl, rfl⟩ := hy1
    refine RunL.ok (OpOk.gtr rfl rfl) rfl ?_
    refine RunL.nil ?_
    refine Run.condD rfl (fun y2 => ?_) (fun y2 => ?_)
    · refine Run.seq ?_
      refine Run.region ?_
      refine RunL.ok (OpOk.move rfl) rfl ?_
      refine RunL.ok (OpOk.nilOk rfl) rfl ?_
      refine RunL.ok (OpOk.fieldAddr fld203_2 rfl) rfl ?_
      refine RunL.store ti36 rfl rfl rfl (frl rfl) (by exact Nat.le_of_ble_eq_true rfl) (.inl rfl) ?_
      refine RunL.nil ?_
      refine Run.seq ?_
      refine Run.region ?_
      refine RunL.ok (OpOk.assign rfl) rfl ?_
      refine RunL.nil ?_
      refine Run.ent (Ent.ownNil' _ 3 1 (I []) rfl) ?_
      refine Run.ret1 Try.func85 rfl rfl ?_
      have hE : takeE xs at_ 0 ws = 10 := by simp [takeE, hn]; omega
      simp only [takeL, takeA, hE, if_neg (show ¬ (10 : Int) = 0 by decide)]
      exact (frc rfl (frc (frl rfl) (frc rfl rfl)))
    refine Run.skip ?_
    refine Run.seq ?_
    refine Run.region ?_
    refine RunL.ok (OpOk.assign rfl) rfl ?_
    refine RunL.nil ?_
    refine Run.seq ?_
    refine Run.seq ?_
    refine Run.region ?_
    refine RunL.ok (OpOk.move rfl) rfl ?_
    refine RunL.ok (OpOk.lenR rfl rfl rd.left.left rfl) rfl ?_
    refine RunL.ok (OpOk.move rfl) rfl ?_
    refine RunL.nil ?_
    refine Run.block ?_
    have hE : takeE xs at_ 0 ws = 0 := by simp [takeE, hn]; omega
    simp only [takeL, takeA, hE, if_pos]
    have hfit : widthsN ws ≤ 8 * xs.length - at_ := by omega
    refine Run.ent (Ent.ownNil' _ 3 1 (I []) rfl) ?_
    refine Run.loop (X := Nat × Value) (fun x => [(0, .pointer (some ⟨q, 0, none⟩)), (8, x.2), (43, u), (44, .int .i64 (ws.length : Int)), (45, .int .i64 x.1)]) (fun x => A * pts q (.cells #[v, .int .i64 ((at_ + widthsN (ws.take x.1) : Nat) : Int), .int .i64 (0)] 203 (0, 0)) * own 5 1 v (xs).length (B (xs)) * own 3 1 x.2 x.1 (I (nums xs at_ (ws.take x.1)))) (fun x => x.1 ≤ ws.length) (fun x => ws.length - x.1) (0, .slice none 0 0) ⟨rfl, rfl, rfl, rfl, rfl, trivial⟩ rfl (by simp) (fun x hx ih => ?_)
    obtain ⟨i, u1⟩ := x
    simp only at hx ih ⊢
    rcases Nat.lt_or_ge i ws.length with hlt | hge
    · have ht := take_next hlt
      have hb := any_take (i + 1) hn
      rw [ht, List.any_append, Bool.or_eq_false_iff] at hb
      have hb2 := hb.2
      have hw : widthsN (ws.take (i + 1)) = widthsN (ws.take i) + (ws.getD i default).toNat := by rw [ht, widthsN_append]; simp [widthsN]
      have hle := widthsN_take_le ws (i + 1)
      have hnums : nums xs at_ (ws.take (i + 1)) = nums xs at_ (ws.take i) ++ [((numAt xs (at_ + widthsN (ws.take i)) (ws.getD i default).toNat : Nat) : Int)] := by rw [ht, nums_append]; rfl
      generalize hx1 : ws.getD i default = x at *
      have hx' : ws.getD i 0 = x := hx1
      simp [badW] at hb2
      obtain ⟨x, rfl⟩ := Int.eq_ofNat_of_zero_le (show 0 ≤ x by omega)
      simp only [Int.toNat_natCast] at *
      generalize ha1 : at_ + widthsN (ws.take i) = a at *
      refine Run.seq ?_
      refine Run.region ?_
      refine RunL.ok (OpOk.asT (OpOk.lss rfl rfl) (by omega)) rfl ?_
      refine RunL.nil ?_
      refine Run.seq ?_
      refine Run.condT rfl ?_
      refine Run.skip ?_
      refine Run.seq ?_
      refine Run.block ?_
      refine Run.seq ?_
      refine Run.region ?_
      refine RunL.ok (OpOk.idx1N rfl ti3 rfl rd.left.left.left rfl (by omega)) rfl ?_
      refine RunL.ok (OpOk.load rfl rfl rfl (Rd.getIE (by assumption) rd.left.left.left (by omega))) rfl ?_
      refine RunL.ok (OpOk.assign rfl) rfl ?_
      refine RunL.nil ?_
      refine Run.seq ?_
      refine Run.region ?_
      refine RunL.ok (OpOk.assign rfl) rfl ?_
      refine RunL.nil ?_
      refine Run.seq ?_
      refine Run.seq ?_
      refine Run.region ?_
      refine RunL.ok (OpOk.move rfl) rfl ?_
      refine RunL.ok (OpOk.move rfl) rfl ?_
      refine RunL.nil ?_
      refine Run.block ?_
      refine Run.loop (X := Nat) (fun k => [(0, .pointer (some ⟨q, 0, none⟩)), (8, u1), (43, u), (44, .int .i64 (ws.length : Int)), (45, .int .i64 i), (11, .int .i64 ((numAt xs a k : Nat) : Int)), (49, .int .i64 (x : Int)), (50, .int .i64 k)]) (fun k => A * pts q (.cells #[v, .int .i64 ((a + k : Nat) : Int), .int .i64 (0)] 203 (0, 0)) * own 5 1 v (xs).length (B (xs)) * own 3 1 u1 i (I (nums xs at_ (ws.take i)))) (fun k => k ≤ x) (fun k => x - k) 0 ⟨rfl, rfl, rfl, rfl, rfl, rfl, rfl, rfl, trivial⟩ rfl (by omega) (fun k hk ih2 => ?_)
      rcases Nat.lt_or_ge k x with hk1 | hk1
      · have hlt2 := numAt_lt xs a k
        have hp : 2 ^ k ≤ 2 ^ 32 := Nat.pow_le_pow_right (by decide) (by omega)
        refine Run.seq ?_
        refine Run.region ?_
        refine RunL.ok (OpOk.asT (OpOk.lss rfl rfl) (by omega)) rfl ?_
        refine RunL.nil ?_
        refine Run.seq ?_
        refine Run.condT rfl ?_
        refine Run.skip ?_
        refine Run.seq ?_
        refine Run.block ?_
        refine Run.seq ?_
        refine Run.know (fun w s => (s.conv (frl rfl)).ownRd0) (fun rdt1 => ?_)
        refine Run.know (fun w s => (s.conv rfl).ownRd0) (fun rdt2 => ?_)
        (apply Run.drawD [23] (by rfl) (sep_emp _).symm; case hchk => kernel_rfl)
        refine Sd.quiet 0 _ _ rfl rfl rfl rfl rfl (QOp.ok (fun X => OpOk.move rfl)) ?_
        refine Sd.quiet 1 _ _ rfl rfl rfl rfl rfl (QOp.ok (fun X => OpOk.shlN _ 1 rfl rfl rfl rfl (by omega) (by omega))) ?_
        refine Sd.quiet 2 _ _ rfl rfl rfl rfl rfl (QOp.ok (fun X => OpOk.move rfl)) ?_
        refine Sd.quiet 3 _ _ rfl rfl rfl rfl rfl (QOp.ok (fun X => OpOk.nilOk rfl)) ?_
        refine Sd.quiet 4 _ _ rfl rfl rfl rfl rfl (QOp.ok (fun X => OpOk.fieldAddr fld203_0 rfl)) ?_
        refine Sd.quiet 5 _ _ rfl rfl rfl rfl rfl (QOp.ok (fun X => OpOk.load rfl rfl rfl (Blk.out Blk.pts.left.left.left.left _ _ (by first | rfl | assumption)))) ?_
        refine Sd.quiet 6 _ _ rfl rfl rfl rfl rfl (QOp.ok (fun X => OpOk.move rfl)) ?_
        refine Sd.quiet 7 _ _ rfl rfl rfl rfl rfl (QOp.ok (fun X => OpOk.nilOk rfl)) ?_
        refine Sd.quiet 8 _ _ rfl rfl rfl rfl rfl (QOp.ok (fun X => OpOk.fieldAddr fld203_1 rfl)) ?_
        refine Sd.quiet 9 _ _ rfl rfl rfl rfl rfl (QOp.ok (fun X => OpOk.load rfl rfl rfl (Blk.out Blk.pts.left.left.left.left _ _ (by first | rfl | assumption)))) ?_
        refine Sd.quiet 10 _ _ rfl rfl rfl rfl rfl (QOp.ok (fun X => OpOk.quoN _ 8 rfl rfl rfl rfl (by omega) (by omega))) ?_
        refine Sd.quiet 11 _ _ rfl rfl rfl rfl rfl (QOp.ok (fun X => OpOk.idx1N rfl ti5 rfl (Rd.right rdt1).left.left.left rfl (by omega))) ?_
        refine Sd.quiet 12 _ _ rfl rfl rfl rfl rfl (QOp.ok (fun X => OpOk.load rfl rfl rfl (Rd.getB (Rd.right rdt1).left.left.left (by omega)))) ?_
        refine Sd.quiet 13 _ _ rfl rfl rfl rfl rfl (QOp.ok (fun X => OpOk.move rfl)) ?_
        refine Sd.quiet 14 _ _ rfl rfl rfl rfl rfl (QOp.ok (fun X => OpOk.nilOk rfl)) ?_
        refine Sd.quiet 15 _ _ rfl rfl rfl rfl rfl (QOp.ok (fun X => OpOk.fieldAddr fld203_1 rfl)) ?_
        refine Sd.quiet 16 _ _ rfl rfl rfl rfl rfl (QOp.ok (fun X => OpOk.load rfl rfl rfl (Blk.out Blk.pts.left.left.left.left _ _ (by first | rfl | assumption)))) ?_
        refine Sd.quiet 17 _ _ rfl rfl rfl rfl rfl (QOp.ok (fun X => OpOk.remN _ 8 rfl rfl rfl rfl (by omega))) ?_
        refine Sd.quiet 18 _ _ rfl rfl rfl rfl rfl (QOp.ok (fun X => OpOk.subN 7 _ rfl rfl rfl rfl (by omega) (by omega))) ?_
        first | refine St.quiet 19 _ _ rfl rfl rfl rfl (QOp.ok (fun X => OpOk.shr rfl rfl (by omega) rfl)) ?_ | refine Sd.quiet 19 _ _ rfl rfl rfl rfl rfl (QOp.ok (fun X => OpOk.shr rfl rfl (by omega) rfl)) ?_
        first | refine St.quiet 20 _ _ rfl rfl rfl rfl (QOp.ok (fun X => OpOk.and (r := (b2n (bitAt xs (a + k)) : Int)) rfl rfl (rbitN _ (Nat.mod_lt _ (by decide))))) ?_ | refine Sd.quiet 20 _ _ rfl rfl rfl rfl rfl (QOp.ok (fun X => OpOk.and (r := (b2n (bitAt xs (a + k)) : Int)) rfl rfl (rbitN _ (Nat.mod_lt _ (by decide))))) ?_
        have hb3 := b2n_le (bitAt xs (a + k))
        refine Sd.quiet 21 _ _ rfl rfl rfl rfl rfl (QOp.ok (fun X => OpOk.convInt rfl rfl rfl (wrapI (by omega) (by omega)))) ?_
        first | refine St.quiet 22 _ _ rfl rfl rfl rfl (QOp.ok (fun X => OpOk.or (r := ((numAt xs a (k + 1) : Nat) : Int)) rfl rfl (or_oneN (by omega) (by omega)))) ?_ | refine Sd.quiet 22 _ _ rfl rfl rfl rfl rfl (QOp.ok (fun X => OpOk.or (r := ((numAt xs a (k + 1) : Nat) : Int)) rfl rfl (or_oneN (by omega) (by omega)))) ?_
        (apply Sd.tail; case hall => kernel_rfl)
        refine RunL.mem (fl2 (sep_emp _) (sep_emp _)) ?_
        refine RunL.ok (OpOk.assign rfl) rfl ?_
        refine RunL.nil ?_
        refine Run.region ?_
        refine RunL.ok (OpOk.move rfl) rfl ?_
        refine RunL.ok (OpOk.nilOk rfl) rfl ?_
        refine RunL.ok (OpOk.fieldAddr fld203_1 rfl) rfl ?_
        refine RunL.ok (OpOk.load rfl rfl rfl (Blk.out Blk.pts.left.left _ _ (by first | rfl | assumption))) rfl ?_
        refine RunL.ok (OpOk.addN _ 1 rfl rfl rfl rfl (by omega)) rfl ?_
        refine RunL.ok (OpOk.nilOk rfl) rfl ?_
        refine RunL.ok (OpOk.fieldAddr fld203_1 rfl) rfl ?_
        refine RunL.store ti3 rfl rfl rfl (frl (frl rfl)) (by exact Nat.le_of_ble_eq_true rfl) (.inl rfl) ?_
        refine RunL.nil ?_
        refine Run.inBlock ?_
        refine Run.region ?_
        refine RunL.ok (OpOk.addN _ 1 rfl rfl rfl rfl (by omega)) rfl ?_
        refine RunL.ok (OpOk.move rfl) rfl ?_
        refine RunL.nil ?_
        refine Run.jump ((ih2 (k + 1) (by omega) (by omega))) ⟨rfl, rfl, rfl, rfl, rfl, rfl, rfl, rfl, trivial⟩ (Grew.of (frc (frl rfl) (frc (frl rfl) (frc rfl rfl))) (Grew.refl _))
      · obtain rfl : k = x := by omega
        refine Run.seq ?_
        refine Run.region ?_
        refine RunL.ok (OpOk.asF (OpOk.lss rfl rfl) (by omega)) rfl ?_
        refine RunL.nil ?_
        refine Run.seq ?_
        refine Run.condF rfl ?_
        refine Run.exit rfl ?_
        refine Run.region ?_
        refine RunL.ok (OpOk.move rfl) rfl ?_
        refine RunL.ok (OpOk.move rfl) rfl ?_
        refine RunL.litI (xs := [↑(numAt xs a k)]) rfl ti3 rfl rfl rfl (by decide) rfl (fun vt1 rdt1 => ?_)
        refine RunL.know (fun w s => (s.conv rfl).ownRd0) (fun rdt3 => ?_)
        refine RunL.appendI rfl ti3 rfl rfl rfl (frl rfl) (Rd.right rdt3) (by omega) rfl rfl (fun vt2 rdt2 => ?_)
        refine RunL.ok (OpOk.assign rfl) rfl ?_
        refine RunL.nil ?_
        refine Run.inBlock ?_
        refine Run.region ?_
        refine RunL.ok (OpOk.addN _ 1 rfl rfl rfl rfl (by omega)) rfl ?_
        refine RunL.ok (OpOk.move rfl) rfl ?_
        refine RunL.nil ?_
        rw [← hnums, show a + k = at_ + widthsN (ws.take (i + 1)) by omega]
        refine Run.jump ((ih (i + 1, vt2) (by simp; omega) (by simp; omega))) ⟨rfl, rfl, rfl, rfl, rfl, trivial⟩ (Grew.of (frc (frl rfl) rfl) (Grew.mul (Grew.refl _) _))
    · obtain rfl : i = ws.length := by omega
      rw [List.take_length]
      refine Run.seq ?_
      refine Run.region ?_
      refine RunL.ok (OpOk.asF (OpOk.lss rfl rfl) (by omega)) rfl ?_
      refine RunL.nil ?_
      refine Run.seq ?_
      refine Run.condF rfl ?_
      refine Run.exit rfl ?_
      refine Run.seq ?_
      refine Run.region ?_
      refine RunL.ok (OpOk.move rfl) rfl ?_
      refine RunL.ok (OpOk.assign rfl) rfl ?_
      refine RunL.nil ?_
      refine Run.ret1 Try.func85 rfl rfl ?_
      rw [nums_length]
end Go.Proofs.Yteopadjihklkmaa
end

section
namespace Go.Proofs.Yteopadjihklkmaa
open Go
theorem numAt_div {xs : List UInt8} {a w v : Nat} (h : ∀ j, j < w → bitAt xs (a + j) = v.testBit (w - 1 - j)) (hv : v < 2 ^ w) : ∀ j, j ≤ w → numAt xs a j = v / 2 ^ (w - j)
  | 0, _ => by
    show 0 = _
    rw [Nat.sub_zero, Nat.div_eq_of_lt hv]
  | j + 1, hj => by
    have ih := numAt_div h hv j (by omega)
    have e := testBit_b2n v (w - 1 - j)
    have e2 : v / 2 ^ (w - j) = v / 2 ^ (w - 1 - j) / 2 := by rw [Nat.div_div_eq_div_mul, ← Nat.pow_succ]; congr 2; omega
    simp only [numAt]
    rw [ih, h j (by omega), ← e, e2, show w - (j + 1) = w - 1 - j by omega]
    omega
end Go.Proofs.Yteopadjihklkmaa
end

section
namespace Go.Proofs.Yteopadjihklkmaa
def bytesBits (xs : List UInt8) : List Bool := xs.flatMap fun b => bitsOf 8 b.toNat
theorem bytesBits_cons (b : UInt8) (r : List UInt8) : bytesBits (b :: r) = bitsOf 8 b.toNat ++ bytesBits r := by simp [bytesBits]
theorem bytesBits_append (a b : List UInt8) : bytesBits (a ++ b) = bytesBits a ++ bytesBits b := by simp [bytesBits]
theorem bytesBits_length : ∀ xs : List UInt8, (bytesBits xs).length = 8 * xs.length
  | [] => rfl
  | b :: r => by rw [bytesBits_cons, List.length_append, bitsOf_length, bytesBits_length r, List.length_cons]; omega
theorem bitOf_bytes : ∀ (xs : List UInt8) (j t : Nat), t < 8 → j < xs.length → bitOf (bytesBits xs) (8 * j + t) = (xs.getD j 0).toNat.testBit (7 - t)
  | [], j, t, _, hj => by simp at hj
  | b :: r, 0, t, ht, _ => by
    rw [bytesBits_cons, bitOf, List.getD_eq_getElem?_getD, List.getElem?_append_left (by rw [bitsOf_length]; omega), bitsOf_at (by omega), show 8 * 0 + t = t by omega]
    rfl
  | b :: r, j + 1, t, ht, hj => by
    have ih := bitOf_bytes r j t ht (by simp at hj; omega)
    rw [bitOf, List.getD_eq_getElem?_getD] at ih
    rw [bytesBits_cons, bitOf, List.getD_eq_getElem?_getD, List.getElem?_append_right (by rw [bitsOf_length]; omega), bitsOf_length, show 8 * (j + 1) + t - 8 = 8 * j + t by omega, ih]
    rfl
theorem pack_bytes (xs : List UInt8) : pack (bytesBits xs) xs.length = xs := by
  apply List.ext_getElem?
  intro j
  rcases Nat.lt_or_ge j xs.length with h | h
  · rw [pack_at h, List.getElem?_eq_getElem h]
    congr 1
    refine byte_ext fun i hi => ?_
    rw [byteAt_bit _ _ _ hi, bitOf_bytes xs j (7 - i) (by omega) h, show 7 - (7 - i) = i by omega, List.getD_eq_getElem?_getD, List.getElem?_eq_getElem h]
    rfl
  · rw [List.getElem?_eq_none (by rw [pack_length]; omega), List.getElem?_eq_none h]
theorem bits8 (v : Nat) : bitsOf 8 v = bytesBits [UInt8.ofNat v] := by
  rw [bytesBits_cons, show bytesBits [] = [] from rfl, List.append_nil]
  apply List.ext_getElem?
  intro i
  rcases Nat.lt_or_ge i 8 with h | h
  · rw [bitsOf_at h, bitsOf_at h, UInt8.toNat_ofNat', Nat.testBit_mod_two_pow]
    simp
    omega
  · rw [List.getElem?_eq_none (by rw [bitsOf_length]; omega), List.getElem?_eq_none (by rw [bitsOf_length]; omega)]
theorem bits16 (v : Nat) : bitsOf 16 v = bytesBits [UInt8.ofNat (v / 256), UInt8.ofNat v] := by
  rw [bytesBits_cons, ← bits8]
  apply List.ext_getElem?
  intro i
  rcases Nat.lt_or_ge i 16 with h | h
  · rw [bitsOf_at h]
    rcases Nat.lt_or_ge i 8 with h8 | h8
    · rw [List.getElem?_append_left (by rw [bitsOf_length]; omega), bitsOf_at h8, UInt8.toNat_ofNat', Nat.testBit_mod_two_pow, show (256 : Nat) = 2 ^ 8 from rfl, Nat.testBit_div_two_pow, show 8 - 1 - i + 8 = 16 - 1 - i by omega]
      simp
      omega
    · rw [List.getElem?_append_right (by rw [bitsOf_length]; omega), bitsOf_length, bitsOf_at (by omega), show 8 - 1 - (i - 8) = 16 - 1 - i by omega]
  · rw [List.getElem?_eq_none (by rw [bitsOf_length]; omega), List.getElem?_eq_none (by rw [List.length_append, bitsOf_length, bitsOf_length]; omega)]
theorem bitAt_byte (xs : List UInt8) (j t : Nat) (ht : t < 8) : bitAt xs (8 * j + t) = (xs.getD j 0).toNat.testBit (7 - t) := by
  rw [bitAt, show (8 * j + t) / 8 = j by omega, show (8 * j + t) % 8 = t by omega]
  rfl
theorem num8 (xs : List UInt8) (j : Nat) : numAt xs (8 * j) 8 = (xs.getD j 0).toNat := by
  have := numAt_div (xs := xs) (a := 8 * j) (w := 8) (v := (xs.getD j 0).toNat) (fun t ht => by rw [bitAt_byte xs j t ht]) (UInt8.toNat_lt _) 8 (Nat.le_refl _)
  rw [this]
  simp
theorem num16 (xs : List UInt8) (j : Nat) : numAt xs (8 * j) 16 = (xs.getD j 0).toNat * 256 + (xs.getD (j + 1) 0).toNat := by
  have h1 := (xs.getD j 0).toNat_lt
  have h2 := (xs.getD (j + 1) 0).toNat_lt
  have := numAt_div (xs := xs) (a := 8 * j) (w := 16) (v := (xs.getD j 0).toNat * 256 + (xs.getD (j + 1) 0).toNat) (fun t ht => by
    rw [show (xs.getD j 0).toNat * 256 + (xs.getD (j + 1) 0).toNat = 2 ^ 8 * (xs.getD j 0).toNat + (xs.getD (j + 1) 0).toNat by omega, Nat.testBit_two_pow_mul_add _ (show (xs.getD (j + 1) 0).toNat < 2 ^ 8 from h2)]
    rcases Nat.lt_or_ge t 8 with h | h
    · rw [bitAt_byte xs j t h, if_neg (by omega), show 16 - 1 - t - 8 = 7 - t by omega]
    · rw [show 8 * j + t = 8 * (j + 1) + (t - 8) by omega, bitAt_byte xs (j + 1) (t - 8) (by omega), if_pos (by omega), show 7 - (t - 8) = 16 - 1 - t by omega]) (by omega) 16 (Nat.le_refl _)
  rw [this]
  simp
end Go.Proofs.Yteopadjihklkmaa
end
