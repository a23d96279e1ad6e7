/- Rows written. -/
import Derived.Test.YteopadjihklkmaaJnC
namespace Go.Proofs.Yteopadjihklkmaa
open Go Go.Proofs
set_option maxRecDepth 100000
set_option maxHeartbeats 4000000
set_option linter.unusedSimpArgs false
/-- All rows' bytes. -/
def rowsB (k : UInt8) (l : List (List UInt8)) : List UInt8 := l.flatMap (rowB k)
def fine (b : List UInt8) : Bool := decide (b.length ≤ 65535)
theorem fine_next {l : List (List UInt8)} {i : Nat} (h : i < l.length) : (l.take (i + 1)).all fine = ((l.take i).all fine && fine (l.getD i default)) := by
  rw [take_next h, List.all_append]; simp
theorem rowsB_next {k : UInt8} {l : List (List UInt8)} {i : Nat} (h : i < l.length) : rowsB k (l.take (i + 1)) = rowsB k (l.take i) ++ rowB k (l.getD i default) := by
  rw [rowsB, take_next h, List.flatMap_append]; simp [rowsB]
theorem rowsB_len {k : UInt8} : ∀ {l : List (List UInt8)}, l.all fine = true → (rowsB k l).length ≤ l.length * 65540
  | [], _ => by simp [rowsB]
  | b :: r, h => by
    rw [List.all_cons, Bool.and_eq_true] at h
    have ih := rowsB_len (k := k) h.2
    have h1 : b.length ≤ 65535 := of_decide_eq_true h.1
    have e : rowsB k (b :: r) = rowB k b ++ rowsB k r := by simp [rowsB]
    rw [e, List.length_append, rowB_len, List.length_cons]
    omega
theorem flatB_rows {k : UInt8} : ∀ {ys : List (Value × List UInt8)} {l : List (List UInt8)}, ys.map Prod.snd = l.map (rowB k) → flatB ys = rowsB k l := fun {ys l} h => by
  rw [flatB, rowsB, List.flatMap_def, List.flatMap_def, h]
theorem snd_get {ls : List (Value × List UInt8)} {i : Nat} (h : i < ls.length) : (ls.map Prod.snd).getD i default = (ls.getD i default).2 := by
  rw [List.getD_eq_getElem?_getD, List.getD_eq_getElem?_getD, List.getElem?_map, List.getElem?_eq_getElem h]; rfl
theorem rows_snoc {ys ls : List (Value × List UInt8)} {k : UInt8} {i : Nat} {v : Value} (h : i < ls.length) (hy : ys.map Prod.snd = ((ls.map Prod.snd).take i).map (rowB k)) : (ys ++ [(v, rowB k (ls.getD i default).2)]).map Prod.snd = ((ls.map Prod.snd).take (i + 1)).map (rowB k) := by
  rw [take_next (by simpa using h), List.map_append, List.map_append, hy, snd_get h]; rfl
theorem fine_fail {ls : List (Value × List UInt8)} {i : Nat} (h : i < ls.length) (hf : (ls.map Prod.snd).all fine = true) : (ls.getD i default).2.length ≤ 65535 := by
  have := List.all_eq_true.1 hf _ (getD_mem (show i < (ls.map Prod.snd).length by simpa using h))
  rw [snd_get h] at this
  exact of_decide_eq_true this
section
variable {w0 : World} {A : Asn} {p fp : Nat} {sv rv fv : Value} {snap : List UInt8} {has : Bool} {recs : List (Value × List UInt8)} {s w : Int} {bs : List UInt8}
theorem writeA {u : Value} {k : UInt8} : Spec Try.prog w0 74 [.pointer (some ⟨p, 0, none⟩), .int .u8 ((k.toNat : Nat) : Int), u] (A * pts fp (.cells #[.int .i64 (s), .int .i64 (w), fv] 145 (0, 0)) * own 5 1 fv (bs).length (B (bs)) * pts p (.cells #[sv, .bool has, rv, .pointer (some ⟨fp, 0, none⟩), .bool true] 149 (0, 0)) * own 5 1 sv (snap).length (B (snap)) * own 63 1 rv (recs).length (Fl encV (recs)) * ownsB 5 (recs)) (fun v' A' => v' = .int .i64 33 ∧ A' = A * pts fp (.cells #[.int .i64 (s), .int .i64 (w), fv] 145 (0, 0)) * own 5 1 fv (bs).length (B (bs)) * pts p (.cells #[sv, .bool has, rv, .pointer (some ⟨fp, 0, none⟩), .bool true] 149 (0, 0)) * own 5 1 sv (snap).length (B (snap)) * own 63 1 rv (recs).length (Fl encV (recs)) * ownsB 5 (recs)) := by
  refine Spec.of_run [(0, .pointer (some ⟨p, 0, none⟩)), (1, .int .u8 ((k.toNat : Nat) : Int)), (2, u)] Try.func74 rfl (Nat.le_of_ble_eq_true rfl) (by repeat (first | exact trivial | refine ⟨rfl, ?_⟩)) ?_
  refine Run.seq ?_
  refine Run.region ?_
  refine RunL.ok (OpOk.assign rfl) rfl ?_
  refine RunL.nil ?_
  refine Run.seq ?_
  refine Run.seq ?_
  refine Run.region ?_
  refine RunL.ok (OpOk.move rfl) rfl ?_
  refine RunL.ok (OpOk.nilOk rfl) rfl ?_
  refine RunL.ok (OpOk.fieldAddr fld149_2 rfl) rfl ?_
  refine RunL.ok (OpOk.load rfl rfl rfl (Blk.out Blk.pts.left.left.left _ _ (by first | rfl | assumption))) rfl ?_
  refine RunL.nil ?_
  refine Run.condT rfl ?_
  refine Run.seq ?_
  refine Run.region ?_
  refine RunL.ok (OpOk.assign rfl) rfl ?_
  refine RunL.nil ?_
  refine Run.ret1 Try.func74 rfl rfl ?_
  exact ⟨rfl, rfl⟩
theorem writeB {u : Value} {m : Nat} {k : UInt8} {ls : List (Value × List UInt8)} (rd : Rd w0 A u 1 m (Fl encV ls)) (al : Alls (GB w0) A ls) (hl : m ≤ 1048576) (hlong : (ls.map Prod.snd).all fine = false) :
    Spec Try.prog w0 74 [.pointer (some ⟨p, 0, none⟩), .int .u8 ((k.toNat : Nat) : Int), u] (A * pts fp (.cells #[.int .i64 (s), .int .i64 (w), fv] 145 (0, 0)) * own 5 1 fv (bs).length (B (bs)) * pts p (.cells #[sv, .bool has, rv, .pointer (some ⟨fp, 0, none⟩), .bool false] 149 (0, 0)) * own 5 1 sv (snap).length (B (snap)) * own 63 1 rv (recs).length (Fl encV (recs)) * ownsB 5 (recs)) (fun v' A' => ∃ J, v' = .int .i64 11 ∧ A' = A * J * pts fp (.cells #[.int .i64 (s), .int .i64 (w), fv] 145 (0, 0)) * own 5 1 fv (bs).length (B (bs)) * pts p (.cells #[sv, .bool has, rv, .pointer (some ⟨fp, 0, none⟩), .bool false] 149 (0, 0)) * own 5 1 sv (snap).length (B (snap)) * own 63 1 rv (recs).length (Fl encV (recs)) * ownsB 5 (recs)) := by
  have hl0 := rd.lenFl (fun _ => rfl) (by decide)
  subst hl0
  refine Spec.of_run [(0, .pointer (some ⟨p, 0, none⟩)), (1, .int .u8 ((k.toNat : Nat) : Int)), (2, u)] Try.func74 rfl (Nat.le_of_ble_eq_true rfl) (by repeat (first | exact trivial | refine ⟨rfl, ?_⟩)) ?_
  refine Run.seq ?_
  refine Run.region ?_
  refine RunL.ok (OpOk.assign rfl) rfl ?_
  refine RunL.nil ?_
  refine Run.seq ?_
  refine Run.seq ?_
  refine Run.region ?_
  refine RunL.ok (OpOk.move rfl) rfl ?_
  refine RunL.ok (OpOk.nilOk rfl) rfl ?_
  refine RunL.ok (OpOk.fieldAddr fld149_2 rfl) rfl ?_
  refine RunL.ok (OpOk.load rfl rfl rfl (Blk.out Blk.pts.left.left.left _ _ (by first | rfl | assumption))) rfl ?_
  refine RunL.nil ?_
  refine Run.condF rfl ?_
  refine Run.skip ?_
  refine Run.seq ?_
  refine Run.region ?_
  refine RunL.ok (OpOk.assign rfl) rfl ?_
  refine RunL.nil ?_
  refine Run.seq ?_
  refine Run.seq ?_
  refine Run.region ?_
  refine RunL.ok (OpOk.move rfl) rfl ?_
  refine RunL.ok (OpOk.lenR rfl rfl rd.left.left.left.left.left.left rfl) rfl ?_
  refine RunL.ok (OpOk.move rfl) rfl ?_
  refine RunL.nil ?_
  refine Run.block ?_
  refine Run.ent (Ent.ownNil' _ 63 1 (Fl encV ([] : List (Value × List UInt8))) rfl) ?_
  refine Run.mem (sep_emp _).symm ?_
  rw [← ownsB_nil 5]
  refine Run.jump ((Run.loopJ (X := Nat × Asn × Value × List (Value × List UInt8)) (fun x => [(19, .int .i64 (x.1 : Int)), (18, .int .i64 (ls.length : Int)), (17, u), (7, x.2.2.1), (0, .pointer (some ⟨p, 0, none⟩)), (1, .int .u8 ((k.toNat : Nat) : Int)), (2, u)]) (fun x => A * x.2.1 * pts fp (.cells #[.int .i64 (s), .int .i64 (w), fv] 145 (0, 0)) * own 5 1 fv (bs).length (B (bs)) * pts p (.cells #[sv, .bool has, rv, .pointer (some ⟨fp, 0, none⟩), .bool false] 149 (0, 0)) * own 5 1 sv (snap).length (B (snap)) * own 63 1 rv (recs).length (Fl encV (recs)) * ownsB 5 (recs) * own 63 1 x.2.2.1 x.2.2.2.length (Fl encV x.2.2.2) * ownsB 5 x.2.2.2) (fun x => x.1 ≤ ls.length ∧ x.2.2.2.length = x.1 ∧ x.2.2.2.map Prod.snd = ((ls.map Prod.snd).take x.1).map (rowB k) ∧ ((ls.map Prod.snd).take x.1).all fine = true) (fun x => ls.length - x.1) (0, _, .slice none 0 0, []) ⟨Nat.zero_le _, rfl, by simp, rfl⟩ (fun x hx ih => ?_))) ⟨rfl, rfl, rfl, rfl, rfl, rfl, rfl, trivial⟩ (Grew.of (Eq.trans (frc rfl (frc rfl rfl)) (congrArg (· * _) (congrArg (· * _) (congrArg (· * _) (congrArg (· * _) (congrArg (· * _) (congrArg (· * _) (congrArg (· * _) (congrArg (· * _) as0))))))))) (Grew.refl _))
  obtain ⟨i, J, v7, ys⟩ := x
  simp only at hx ih ⊢
  obtain ⟨hi, hyl, hy, hfi⟩ := hx
  rcases Nat.lt_or_ge i ls.length with hlt | hge
  · have rdi : Rd w0 A (ls.getD i default).1 1 (ls.getD i default).2.length (B (ls.getD i default).2) := al.get hlt
    have hv := Fl_V ls i hlt
    rcases Nat.lt_or_ge 65535 (ls.getD i default).2.length with hb | hb
    · refine Run.seq ?_
      refine Run.region ?_
      refine RunL.ok (OpOk.asT (OpOk.lss rfl rfl) (by omega)) rfl ?_
      refine RunL.nil ?_
      refine Run.seq ?_
      refine Run.condT rfl ?_
      refine Run.skip ?_
      refine Run.seq ?_
      refine Run.block ?_
      refine Run.seq ?_
      refine Run.region ?_
      refine RunL.ok (OpOk.idx1N rfl ti63 rfl rd.left.left.left.left.left.left.left.left.left rfl (by omega)) rfl ?_
      refine RunL.ok (OpOk.load rfl rfl rfl (Rd.cell rd.left.left.left.left.left.left.left.left.left (by first | assumption | rfl))) rfl ?_
      refine RunL.ok (OpOk.assign rfl) rfl ?_
      refine RunL.nil ?_
      refine Run.seq ?_
      refine Run.seq ?_
      refine Run.region ?_
      refine RunL.ok (OpOk.move rfl) rfl ?_
      refine RunL.ok (OpOk.lenR rfl rfl rdi.left.left.left.left.left.left.left.left.left rfl) rfl ?_
      refine RunL.ok (OpOk.asT (OpOk.gtr rfl rfl) (by omega)) rfl ?_
      refine RunL.nil ?_
      refine Run.condT rfl ?_
      refine Run.seq ?_
      refine Run.region ?_
      refine RunL.ok (OpOk.assign rfl) rfl ?_
      refine RunL.nil ?_
      refine Run.ret1 Try.func74 rfl rfl ?_
      exact ⟨_, rfl, (Eq.trans (frc (frl (frl rfl)) (frc (frl (frl rfl)) (frc (frl (frl rfl)) (frc (frl (frl rfl)) (frc (frl (frl rfl)) (frc (frl (frl rfl)) rfl)))))) (congrArg (· * _) (congrArg (· * _) (congrArg (· * _) (congrArg (· * _) (congrArg (· * _) (congrArg (· * _) (asg (asg as1)))))))))⟩
    · have hfn : ((ls.map Prod.snd).take (i + 1)).all fine = true := by
        rw [fine_next (by simpa using hlt), hfi, snd_get hlt, fine, decide_eq_true hb]; rfl
      refine Run.seq ?_
      refine Run.region ?_
      refine RunL.ok (OpOk.asT (OpOk.lss rfl rfl) (by omega)) rfl ?_
      refine RunL.nil ?_
      refine Run.seq ?_
      refine Run.condT rfl ?_
      refine Run.skip ?_
      refine Run.seq ?_
      refine Run.block ?_
      refine Run.seq ?_
      refine Run.region ?_
      refine RunL.ok (OpOk.idx1N rfl ti63 rfl rd.left.left.left.left.left.left.left.left.left rfl (by omega)) rfl ?_
      refine RunL.ok (OpOk.load rfl rfl rfl (Rd.cell rd.left.left.left.left.left.left.left.left.left (by first | assumption | rfl))) rfl ?_
      refine RunL.ok (OpOk.assign rfl) rfl ?_
      refine RunL.nil ?_
      refine Run.seq ?_
      refine Run.seq ?_
      refine Run.region ?_
      refine RunL.ok (OpOk.move rfl) rfl ?_
      refine RunL.ok (OpOk.lenR rfl rfl rdi.left.left.left.left.left.left.left.left.left rfl) rfl ?_
      refine RunL.ok (OpOk.asF (OpOk.gtr rfl rfl) (by omega)) rfl ?_
      refine RunL.nil ?_
      refine Run.condF rfl ?_
      refine Run.skip ?_
      refine Run.region ?_
      refine RunL.ok (OpOk.move rfl) rfl ?_
      refine RunL.ok (OpOk.move rfl) rfl ?_
      refine RunL.ok (OpOk.move rfl) rfl ?_
      refine RunL.know (fun w s => (s.conv (frl (frl rfl))).ownsB0) (fun aly1 => ?_)
      refine RunL.know (fun w s => (s.conv rfl).ownsB0) (fun aly2 => ?_)
      refine RunL.call cal106 rfl (s106 rdi.left.left.left.left.left.left.left.left.left (by assumption)) rfl (fun vy3 Ay3 hy3 => ?_)
      obtain ⟨y4, rfl⟩ := hy3
      refine RunL.know (fun w s => (s.conv rfl).ownRd0) (fun rdy6 => ?_)
      have aly5 : Alls (GB w0) _ [(vy3, rowB k (ls.getD i default).snd)] := (Alls.cons (GB.of rdy6) Alls.nil)
      refine RunL.litV (ls := [(vy3, rowB k (ls.getD i default).snd)]) (Alls.right aly5) rfl ti63 rfl rfl rfl (by decide) rfl (fun vy5 rdy5 => ?_)
      refine RunL.know (fun w s => (s.conv rfl).ownRd0) (fun rdy8 => ?_)
      refine RunL.appendV (Alls.right aly5).left rfl ti63 rfl rfl rfl (frl (frl (frl (frl rfl)))) (Rd.right rdy8) (by omega) rfl (fun vy7 rdy7 => ?_)
      refine RunL.ok (OpOk.assign rfl) rfl ?_
      refine RunL.nil ?_
      refine Run.inBlock ?_
      refine Run.region ?_
      refine RunL.ok (OpOk.addN _ 1 rfl rfl rfl rfl (by omega)) rfl ?_
      refine RunL.ok (OpOk.move rfl) rfl ?_
      refine RunL.nil ?_
      rw [show ys.length + 1 = (ys ++ [(vy3, rowB k (ls.getD i default).2)]).length by simp, ← rowB_len k (ls.getD i default).2]
      refine Run.jump ((ih (i + 1, _, vy7, ys ++ [(vy3, rowB k (ls.getD i default).2)]) ⟨by dsimp only; omega, by dsimp only; rw [List.length_append, hyl]; rfl, rows_snoc hlt hy, hfn⟩ (by dsimp only; omega))) ⟨rfl, rfl, rfl, rfl, rfl, rfl, rfl, trivial⟩ (by simp only [ownsB_snoc, ← sep_assoc]; exact (Grew.of (Eq.trans (frc (frl (frl rfl)) (frc (frl (frl (frl rfl))) (frc rfl (frc (frl (frl rfl)) (frc (frl (frl rfl)) (frc (frl (frl rfl)) (frc (frl (frl rfl)) (frc (frl (frl rfl)) (frc (frl (frl rfl)) rfl))))))))) (congrArg (· * _) (congrArg (· * _) (congrArg (· * _) (congrArg (· * _) (congrArg (· * _) (congrArg (· * _) (congrArg (· * _) (congrArg (· * _) (congrArg (· * _) (asg (asg as1)))))))))))) (Grew.refl _)))
  · obtain rfl : i = ls.length := by omega
    rw [List.take_of_length_le (by simp), hlong] at hfi
    cases hfi
theorem writeC {u : Value} {m : Nat} {k : UInt8} {ls : List (Value × List UInt8)} (rd : Rd w0 A u 1 m (Fl encV ls)) (al : Alls (GB w0) A ls) (hl : m ≤ 1048576) (hall : (ls.map Prod.snd).all fine = true) (hs : 0 ≤ s) (hs2 : s ≤ 9223372036854775807) (hbl : bs.length ≤ 16777216) (hw2 : w ≤ 9223372036854775807) (hf : s - bs.length < (rowsB k (ls.map Prod.snd)).length) :
    Spec Try.prog w0 74 [.pointer (some ⟨p, 0, none⟩), .int .u8 ((k.toNat : Nat) : Int), u] (A * pts fp (.cells #[.int .i64 (s), .int .i64 (w), fv] 145 (0, 0)) * own 5 1 fv (bs).length (B (bs)) * pts p (.cells #[sv, .bool has, rv, .pointer (some ⟨fp, 0, none⟩), .bool false] 149 (0, 0)) * own 5 1 sv (snap).length (B (snap)) * own 63 1 rv (recs).length (Fl encV (recs)) * ownsB 5 (recs)) (fun v' A' => ∃ fv2 J, v' = .int .i64 20 ∧ A' = A * J * pts fp (.cells #[.int .i64 (s), .int .i64 (w), fv2] 145 (0, 0)) * own 5 1 fv2 (bs).length (B (bs)) * pts p (.cells #[sv, .bool has, rv, .pointer (some ⟨fp, 0, none⟩), .bool false] 149 (0, 0)) * own 5 1 sv (snap).length (B (snap)) * own 63 1 rv (recs).length (Fl encV (recs)) * ownsB 5 (recs)) := by
  have hl0 := rd.lenFl (fun _ => rfl) (by decide)
  subst hl0
  refine Spec.of_run [(0, .pointer (some ⟨p, 0, none⟩)), (1, .int .u8 ((k.toNat : Nat) : Int)), (2, u)] Try.func74 rfl (Nat.le_of_ble_eq_true rfl) (by repeat (first | exact trivial | refine ⟨rfl, ?_⟩)) ?_
  refine Run.seq ?_
  refine Run.region ?_
  refine RunL.ok (OpOk.assign rfl) rfl ?_
  refine RunL.nil ?_
  refine Run.seq ?_
  refine Run.seq ?_
  refine Run.region ?_
  refine RunL.ok (OpOk.move rfl) rfl ?_
  refine RunL.ok (OpOk.nilOk rfl) rfl ?_
  refine RunL.ok (OpOk.fieldAddr fld149_2 rfl) rfl ?_
  refine RunL.ok (OpOk.load rfl rfl rfl (Blk.out Blk.pts.left.left.left _ _ (by first | rfl | assumption))) rfl ?_
  refine RunL.nil ?_
  refine Run.condF rfl ?_
  refine Run.skip ?_
  refine Run.seq ?_
  refine Run.region ?_
  refine RunL.ok (OpOk.assign rfl) rfl ?_
  refine RunL.nil ?_
  refine Run.seq ?_
  refine Run.seq ?_
  refine Run.region ?_
  refine RunL.ok (OpOk.move rfl) rfl ?_
  refine RunL.ok (OpOk.lenR rfl rfl rd.left.left.left.left.left.left rfl) rfl ?_
  refine RunL.ok (OpOk.move rfl) rfl ?_
  refine RunL.nil ?_
  refine Run.block ?_
  refine Run.ent (Ent.ownNil' _ 63 1 (Fl encV ([] : List (Value × List UInt8))) rfl) ?_
  refine Run.mem (sep_emp _).symm ?_
  rw [← ownsB_nil 5]
  refine Run.jump ((Run.loopJ (X := Nat × Asn × Value × List (Value × List UInt8)) (fun x => [(19, .int .i64 (x.1 : Int)), (18, .int .i64 (ls.length : Int)), (17, u), (7, x.2.2.1), (0, .pointer (some ⟨p, 0, none⟩)), (1, .int .u8 ((k.toNat : Nat) : Int)), (2, u)]) (fun x => A * x.2.1 * pts fp (.cells #[.int .i64 (s), .int .i64 (w), fv] 145 (0, 0)) * own 5 1 fv (bs).length (B (bs)) * pts p (.cells #[sv, .bool has, rv, .pointer (some ⟨fp, 0, none⟩), .bool false] 149 (0, 0)) * own 5 1 sv (snap).length (B (snap)) * own 63 1 rv (recs).length (Fl encV (recs)) * ownsB 5 (recs) * own 63 1 x.2.2.1 x.2.2.2.length (Fl encV x.2.2.2) * ownsB 5 x.2.2.2) (fun x => x.1 ≤ ls.length ∧ x.2.2.2.length = x.1 ∧ x.2.2.2.map Prod.snd = ((ls.map Prod.snd).take x.1).map (rowB k) ∧ ((ls.map Prod.snd).take x.1).all fine = true) (fun x => ls.length - x.1) (0, _, .slice none 0 0, []) ⟨Nat.zero_le _, rfl, by simp, rfl⟩ (fun x hx ih => ?_))) ⟨rfl, rfl, rfl, rfl, rfl, rfl, rfl, trivial⟩ (Grew.of (Eq.trans (frc rfl (frc rfl rfl)) (congrArg (· * _) (congrArg (· * _) (congrArg (· * _) (congrArg (· * _) (congrArg (· * _) (congrArg (· * _) (congrArg (· * _) (congrArg (· * _) as0))))))))) (Grew.refl _))
  obtain ⟨i, J, v7, ys⟩ := x
  simp only at hx ih ⊢
  obtain ⟨hi, hyl, hy, hfi⟩ := hx
  rcases Nat.lt_or_ge i ls.length with hlt | hge
  · have rdi : Rd w0 A (ls.getD i default).1 1 (ls.getD i default).2.length (B (ls.getD i default).2) := al.get hlt
    have hv := Fl_V ls i hlt
    have hb := fine_fail hlt hall
    have hfn : ((ls.map Prod.snd).take (i + 1)).all fine = true := by
      rw [fine_next (by simpa using hlt), hfi, snd_get hlt, fine, decide_eq_true hb]; rfl
    refine Run.seq ?_
    refine Run.region ?_
    refine RunL.ok (OpOk.asT (OpOk.lss rfl rfl) (by omega)) rfl ?_
    refine RunL.nil ?_
    refine Run.seq ?_
    refine Run.condT rfl ?_
    refine Run.skip ?_
    refine Run.seq ?_
    refine Run.block ?_
    refine Run.seq ?_
    refine Run.region ?_
    refine RunL.ok (OpOk.idx1N rfl ti63 rfl rd.left.left.left.left.left.left.left.left.left rfl (by omega)) rfl ?_
    refine RunL.ok (OpOk.load rfl rfl rfl (Rd.cell rd.left.left.left.left.left.left.left.left.left (by first | assumption | rfl))) rfl ?_
    refine RunL.ok (OpOk.assign rfl) rfl ?_
    refine RunL.nil ?_
    refine Run.seq ?_
    refine Run.seq ?_
    refine Run.region ?_
    refine RunL.ok (OpOk.move rfl) rfl ?_
    refine RunL.ok (OpOk.lenR rfl rfl rdi.left.left.left.left.left.left.left.left.left rfl) rfl ?_
    refine RunL.ok (OpOk.asF (OpOk.gtr rfl rfl) (by omega)) rfl ?_
    refine RunL.nil ?_
    refine Run.condF rfl ?_
    refine Run.skip ?_
    refine Run.region ?_
    refine RunL.ok (OpOk.move rfl) rfl ?_
    refine RunL.ok (OpOk.move rfl) rfl ?_
    refine RunL.ok (OpOk.move rfl) rfl ?_
    refine RunL.know (fun w s => (s.conv (frl (frl rfl))).ownsB0) (fun aly1 => ?_)
    refine RunL.know (fun w s => (s.conv rfl).ownsB0) (fun aly2 => ?_)
    refine RunL.call cal106 rfl (s106 rdi.left.left.left.left.left.left.left.left.left (by assumption)) rfl (fun vy3 Ay3 hy3 => ?_)
    obtain ⟨y4, rfl⟩ := hy3
    refine RunL.know (fun w s => (s.conv rfl).ownRd0) (fun rdy6 => ?_)
    have aly5 : Alls (GB w0) _ [(vy3, rowB k (ls.getD i default).snd)] := (Alls.cons (GB.of rdy6) Alls.nil)
    refine RunL.litV (ls := [(vy3, rowB k (ls.getD i default).snd)]) (Alls.right aly5) rfl ti63 rfl rfl rfl (by decide) rfl (fun vy5 rdy5 => ?_)
    refine RunL.know (fun w s => (s.conv rfl).ownRd0) (fun rdy8 => ?_)
    refine RunL.appendV (Alls.right aly5).left rfl ti63 rfl rfl rfl (frl (frl (frl (frl rfl)))) (Rd.right rdy8) (by omega) rfl (fun vy7 rdy7 => ?_)
    refine RunL.ok (OpOk.assign rfl) rfl ?_
    refine RunL.nil ?_
    refine Run.inBlock ?_
    refine Run.region ?_
    refine RunL.ok (OpOk.addN _ 1 rfl rfl rfl rfl (by omega)) rfl ?_
    refine RunL.ok (OpOk.move rfl) rfl ?_
    refine RunL.nil ?_
    rw [show ys.length + 1 = (ys ++ [(vy3, rowB k (ls.getD i default).2)]).length by simp, ← rowB_len k (ls.getD i default).2]
    refine Run.jump ((ih (i + 1, _, vy7, ys ++ [(vy3, rowB k (ls.getD i default).2)]) ⟨by dsimp only; omega, by dsimp only; rw [List.length_append, hyl]; rfl, rows_snoc hlt hy, hfn⟩ (by dsimp only; omega))) ⟨rfl, rfl, rfl, rfl, rfl, rfl, rfl, trivial⟩ (by simp only [ownsB_snoc, ← sep_assoc]; exact (Grew.of (Eq.trans (frc (frl (frl rfl)) (frc (frl (frl (frl rfl))) (frc rfl (frc (frl (frl rfl)) (frc (frl (frl rfl)) (frc (frl (frl rfl)) (frc (frl (frl rfl)) (frc (frl (frl rfl)) (frc (frl (frl rfl)) rfl))))))))) (congrArg (· * _) (congrArg (· * _) (congrArg (· * _) (congrArg (· * _) (congrArg (· * _) (congrArg (· * _) (congrArg (· * _) (congrArg (· * _) (congrArg (· * _) (asg (asg as1)))))))))))) (Grew.refl _)))
  · obtain rfl : i = ls.length := by omega
    clear ih
    rw [List.take_of_length_le (by simp)] at hy
    have hfl := flatB_rows hy
    have hrl := rowsB_len (k := k) hall
    rw [List.length_map] at hrl
    have hf2 : s - bs.length < (flatB ys).length := by rw [hfl]; exact hf
    have hlim : bs.length + (flatB ys).length ≤ 140737488355328 := by rw [hfl]; omega
    refine Run.seq ?_
    refine Run.region ?_
    refine RunL.ok (OpOk.asF (OpOk.lss rfl rfl) (by omega)) rfl ?_
    refine RunL.nil ?_
    refine Run.seq ?_
    refine Run.condF rfl ?_
    refine Run.exit rfl ?_
    refine Run.seq ?_
    refine Run.seq ?_
    refine Run.region ?_
    refine RunL.ok (OpOk.move rfl) rfl ?_
    refine RunL.ok (OpOk.nilOk rfl) rfl ?_
    refine RunL.ok (OpOk.fieldAddr fld149_1 rfl) rfl ?_
    refine RunL.ok (OpOk.load rfl rfl rfl (Blk.out Blk.pts.left.left.left.left.left _ _ (by first | rfl | assumption))) rfl ?_
    refine RunL.ok (OpOk.move rfl) rfl ?_
    refine RunL.know (fun w s => (s.conv (frl (frl rfl))).ownsB0) (fun aly1 => ?_)
    refine RunL.know (fun w s => (s.conv rfl).ownsB0) (fun aly2 => ?_)
    refine RunL.know (fun w s => (s.conv (frl rfl)).ownRd0) (fun rdy3 => ?_)
    refine RunL.mem (frc (frl (frl (frl (frl (frl (frl rfl)))))) (frc (frl (frl (frl (frl (frl (frl rfl)))))) rfl)) ?_
    refine RunL.call cal31 rfl (s31a (Rd.right rdy3).left (Alls.right aly2) (by assumption) (by assumption) (by assumption) (by assumption) (by assumption)) rfl (fun vy4 Ay4 hy4 => ?_)
    obtain ⟨y5, ⟨y6, ⟨rfl, rfl⟩⟩⟩ := hy4
    refine RunL.ok (OpOk.assign rfl) rfl ?_
    refine RunL.nil ?_
    refine Run.seq ?_
    refine Run.region ?_
    refine RunL.ok (OpOk.move rfl) rfl ?_
    refine RunL.ok (OpOk.as (c := true) (OpOk.neq rfl rfl) (by rw [decide_eq_false (by omega)]; rfl)) rfl ?_
    refine RunL.nil ?_
    refine Run.condT rfl ?_
    refine Run.seq ?_
    refine Run.region ?_
    refine RunL.ok (OpOk.move rfl) rfl ?_
    refine RunL.ok (OpOk.move rfl) rfl ?_
    refine RunL.ok (OpOk.asF (OpOk.eql rfl rfl) (by omega)) rfl ?_
    refine RunL.ok (OpOk.nilOk rfl) rfl ?_
    refine RunL.ok (OpOk.fieldAddr fld149_2 rfl) rfl ?_
    refine RunL.store ti4 rfl rfl rfl (frl (frl (frl (frl (frl (frl (frl (frl rfl)))))))) (by exact Nat.le_of_ble_eq_true rfl) (.inl rfl) ?_
    refine RunL.nil ?_
    refine Run.seq ?_
    refine Run.region ?_
    refine RunL.ok (OpOk.move rfl) rfl ?_
    refine RunL.ok (OpOk.assign rfl) rfl ?_
    refine RunL.nil ?_
    refine Run.ret1 Try.func74 rfl rfl ?_
    exact ⟨_, _, rfl, (Eq.trans (frc (frl (frl (frl (frl (frl (frl rfl)))))) (frc (frl (frl (frl (frl (frl (frl rfl)))))) (frc (frl (frl (frl (frl (frl (frl rfl)))))) (frc rfl rfl)))) (congrArg (· * _) (congrArg (· * _) (congrArg (· * _) (congrArg (· * _) (congrArg (· * _) (congrArg (· * _) (asg (asg (asg as1))))))))))⟩
theorem writeE {u : Value} {m : Nat} {k : UInt8} {ls : List (Value × List UInt8)} (rd : Rd w0 A u 1 m (Fl encV ls)) (al : Alls (GB w0) A ls) (hl : m ≤ 1048576) (hall : (ls.map Prod.snd).all fine = true) (hs : 0 ≤ s) (hs2 : s ≤ 9223372036854775807) (hbl : bs.length ≤ 16777216) (hf : ((rowsB k (ls.map Prod.snd)).length : Int) ≤ s - bs.length) (hw : 0 ≤ w) (hn : w < (rowsB k (ls.map Prod.snd)).length) :
    Spec Try.prog w0 74 [.pointer (some ⟨p, 0, none⟩), .int .u8 ((k.toNat : Nat) : Int), u] (A * pts fp (.cells #[.int .i64 (s), .int .i64 (w), fv] 145 (0, 0)) * own 5 1 fv (bs).length (B (bs)) * pts p (.cells #[sv, .bool has, rv, .pointer (some ⟨fp, 0, none⟩), .bool false] 149 (0, 0)) * own 5 1 sv (snap).length (B (snap)) * own 63 1 rv (recs).length (Fl encV (recs)) * ownsB 5 (recs)) (fun v' A' => ∃ fv2 J, v' = .int .i64 30 ∧ A' = A * J * pts fp (.cells #[.int .i64 (s), .int .i64 (0), fv2] 145 (0, 0)) * own 5 1 fv2 (bs ++ (rowsB k (ls.map Prod.snd)).take w.toNat).length (B (bs ++ (rowsB k (ls.map Prod.snd)).take w.toNat)) * pts p (.cells #[sv, .bool has, rv, .pointer (some ⟨fp, 0, none⟩), .bool true] 149 (0, 0)) * own 5 1 sv (snap).length (B (snap)) * own 63 1 rv (recs).length (Fl encV (recs)) * ownsB 5 (recs)) := by
  have hl0 := rd.lenFl (fun _ => rfl) (by decide)
  subst hl0
  refine Spec.of_run [(0, .pointer (some ⟨p, 0, none⟩)), (1, .int .u8 ((k.toNat : Nat) : Int)), (2, u)] Try.func74 rfl (Nat.le_of_ble_eq_true rfl) (by repeat (first | exact trivial | refine ⟨rfl, ?_⟩)) ?_
  refine Run.seq ?_
  refine Run.region ?_
  refine RunL.ok (OpOk.assign rfl) rfl ?_
  refine RunL.nil ?_
  refine Run.seq ?_
  refine Run.seq ?_
  refine Run.region ?_
  refine RunL.ok (OpOk.move rfl) rfl ?_
  refine RunL.ok (OpOk.nilOk rfl) rfl ?_
  refine RunL.ok (OpOk.fieldAddr fld149_2 rfl) rfl ?_
  refine RunL.ok (OpOk.load rfl rfl rfl (Blk.out Blk.pts.left.left.left _ _ (by first | rfl | assumption))) rfl ?_
  refine RunL.nil ?_
  refine Run.condF rfl ?_
  refine Run.skip ?_
  refine Run.seq ?_
  refine Run.region ?_
  refine RunL.ok (OpOk.assign rfl) rfl ?_
  refine RunL.nil ?_
  refine Run.seq ?_
  refine Run.seq ?_
  refine Run.region ?_
  refine RunL.ok (OpOk.move rfl) rfl ?_
  refine RunL.ok (OpOk.lenR rfl rfl rd.left.left.left.left.left.left rfl) rfl ?_
  refine RunL.ok (OpOk.move rfl) rfl ?_
  refine RunL.nil ?_
  refine Run.block ?_
  refine Run.ent (Ent.ownNil' _ 63 1 (Fl encV ([] : List (Value × List UInt8))) rfl) ?_
  refine Run.mem (sep_emp _).symm ?_
  rw [← ownsB_nil 5]
  refine Run.jump ((Run.loopJ (X := Nat × Asn × Value × List (Value × List UInt8)) (fun x => [(19, .int .i64 (x.1 : Int)), (18, .int .i64 (ls.length : Int)), (17, u), (7, x.2.2.1), (0, .pointer (some ⟨p, 0, none⟩)), (1, .int .u8 ((k.toNat : Nat) : Int)), (2, u)]) (fun x => A * x.2.1 * pts fp (.cells #[.int .i64 (s), .int .i64 (w), fv] 145 (0, 0)) * own 5 1 fv (bs).length (B (bs)) * pts p (.cells #[sv, .bool has, rv, .pointer (some ⟨fp, 0, none⟩), .bool false] 149 (0, 0)) * own 5 1 sv (snap).length (B (snap)) * own 63 1 rv (recs).length (Fl encV (recs)) * ownsB 5 (recs) * own 63 1 x.2.2.1 x.2.2.2.length (Fl encV x.2.2.2) * ownsB 5 x.2.2.2) (fun x => x.1 ≤ ls.length ∧ x.2.2.2.length = x.1 ∧ x.2.2.2.map Prod.snd = ((ls.map Prod.snd).take x.1).map (rowB k) ∧ ((ls.map Prod.snd).take x.1).all fine = true) (fun x => ls.length - x.1) (0, _, .slice none 0 0, []) ⟨Nat.zero_le _, rfl, by simp, rfl⟩ (fun x hx ih => ?_))) ⟨rfl, rfl, rfl, rfl, rfl, rfl, rfl, trivial⟩ (Grew.of (Eq.trans (frc rfl (frc rfl rfl)) (congrArg (· * _) (congrArg (· * _) (congrArg (· * _) (congrArg (· * _) (congrArg (· * _) (congrArg (· * _) (congrArg (· * _) (congrArg (· * _) as0))))))))) (Grew.refl _))
  obtain ⟨i, J, v7, ys⟩ := x
  simp only at hx ih ⊢
  obtain ⟨hi, hyl, hy, hfi⟩ := hx
  rcases Nat.lt_or_ge i ls.length with hlt | hge
  · have rdi : Rd w0 A (ls.getD i default).1 1 (ls.getD i default).2.length (B (ls.getD i default).2) := al.get hlt
    have hv := Fl_V ls i hlt
    have hb := fine_fail hlt hall
    have hfn : ((ls.map Prod.snd).take (i + 1)).all fine = true := by
      rw [fine_next (by simpa using hlt), hfi, snd_get hlt, fine, decide_eq_true hb]; rfl
    refine Run.seq ?_
    refine Run.region ?_
    refine RunL.ok (OpOk.asT (OpOk.lss rfl rfl) (by omega)) rfl ?_
    refine RunL.nil ?_
    refine Run.seq ?_
    refine Run.condT rfl ?_
    refine Run.skip ?_
    refine Run.seq ?_
    refine Run.block ?_
    refine Run.seq ?_
    refine Run.region ?_
    refine RunL.ok (OpOk.idx1N rfl ti63 rfl rd.left.left.left.left.left.left.left.left.left rfl (by omega)) rfl ?_
    refine RunL.ok (OpOk.load rfl rfl rfl (Rd.cell rd.left.left.left.left.left.left.left.left.left (by first | assumption | rfl))) rfl ?_
    refine RunL.ok (OpOk.assign rfl) rfl ?_
    refine RunL.nil ?_
    refine Run.seq ?_
    refine Run.seq ?_
    refine Run.region ?_
    refine RunL.ok (OpOk.move rfl) rfl ?_
    refine RunL.ok (OpOk.lenR rfl rfl rdi.left.left.left.left.left.left.left.left.left rfl) rfl ?_
    refine RunL.ok (OpOk.asF (OpOk.gtr rfl rfl) (by omega)) rfl ?_
    refine RunL.nil ?_
    refine Run.condF rfl ?_
    refine Run.skip ?_
    refine Run.region ?_
    refine RunL.ok (OpOk.move rfl) rfl ?_
    refine RunL.ok (OpOk.move rfl) rfl ?_
    refine RunL.ok (OpOk.move rfl) rfl ?_
    refine RunL.know (fun w s => (s.conv (frl (frl rfl))).ownsB0) (fun aly1 => ?_)
    refine RunL.know (fun w s => (s.conv rfl).ownsB0) (fun aly2 => ?_)
    refine RunL.call cal106 rfl (s106 rdi.left.left.left.left.left.left.left.left.left (by assumption)) rfl (fun vy3 Ay3 hy3 => ?_)
    obtain ⟨y4, rfl⟩ := hy3
    refine RunL.know (fun w s => (s.conv rfl).ownRd0) (fun rdy6 => ?_)
    have aly5 : Alls (GB w0) _ [(vy3, rowB k (ls.getD i default).snd)] := (Alls.cons (GB.of rdy6) Alls.nil)
    refine RunL.litV (ls := [(vy3, rowB k (ls.getD i default).snd)]) (Alls.right aly5) rfl ti63 rfl rfl rfl (by decide) rfl (fun vy5 rdy5 => ?_)
    refine RunL.know (fun w s => (s.conv rfl).ownRd0) (fun rdy8 => ?_)
    refine RunL.appendV (Alls.right aly5).left rfl ti63 rfl rfl rfl (frl (frl (frl (frl rfl)))) (Rd.right rdy8) (by omega) rfl (fun vy7 rdy7 => ?_)
    refine RunL.ok (OpOk.assign rfl) rfl ?_
    refine RunL.nil ?_
    refine Run.inBlock ?_
    refine Run.region ?_
    refine RunL.ok (OpOk.addN _ 1 rfl rfl rfl rfl (by omega)) rfl ?_
    refine RunL.ok (OpOk.move rfl) rfl ?_
    refine RunL.nil ?_
    rw [show ys.length + 1 = (ys ++ [(vy3, rowB k (ls.getD i default).2)]).length by simp, ← rowB_len k (ls.getD i default).2]
    refine Run.jump ((ih (i + 1, _, vy7, ys ++ [(vy3, rowB k (ls.getD i default).2)]) ⟨by dsimp only; omega, by dsimp only; rw [List.length_append, hyl]; rfl, rows_snoc hlt hy, hfn⟩ (by dsimp only; omega))) ⟨rfl, rfl, rfl, rfl, rfl, rfl, rfl, trivial⟩ (by simp only [ownsB_snoc, ← sep_assoc]; exact (Grew.of (Eq.trans (frc (frl (frl rfl)) (frc (frl (frl (frl rfl))) (frc rfl (frc (frl (frl rfl)) (frc (frl (frl rfl)) (frc (frl (frl rfl)) (frc (frl (frl rfl)) (frc (frl (frl rfl)) (frc (frl (frl rfl)) rfl))))))))) (congrArg (· * _) (congrArg (· * _) (congrArg (· * _) (congrArg (· * _) (congrArg (· * _) (congrArg (· * _) (congrArg (· * _) (congrArg (· * _) (congrArg (· * _) (asg (asg as1)))))))))))) (Grew.refl _)))
  · obtain rfl : i = ls.length := by omega
    clear ih
    rw [List.take_of_length_le (by simp)] at hy
    have hfl := flatB_rows hy
    have hrl := rowsB_len (k := k) hall
    rw [List.length_map] at hrl
    have hf2 : ((flatB ys).length : Int) ≤ s - bs.length := by rw [hfl]; exact hf
    have hn2 : w < (flatB ys).length := by rw [hfl]; exact hn
    have hlim : bs.length + (flatB ys).length ≤ 140737488355328 := by rw [hfl]; omega
    rw [← hfl]
    refine Run.seq ?_
    refine Run.region ?_
    refine RunL.ok (OpOk.asF (OpOk.lss rfl rfl) (by omega)) rfl ?_
    refine RunL.nil ?_
    refine Run.seq ?_
    refine Run.condF rfl ?_
    refine Run.exit rfl ?_
    refine Run.seq ?_
    refine Run.seq ?_
    refine Run.region ?_
    refine RunL.ok (OpOk.move rfl) rfl ?_
    refine RunL.ok (OpOk.nilOk rfl) rfl ?_
    refine RunL.ok (OpOk.fieldAddr fld149_1 rfl) rfl ?_
    refine RunL.ok (OpOk.load rfl rfl rfl (Blk.out Blk.pts.left.left.left.left.left _ _ (by first | rfl | assumption))) rfl ?_
    refine RunL.ok (OpOk.move rfl) rfl ?_
    refine RunL.know (fun w s => (s.conv (frl (frl rfl))).ownsB0) (fun aly1 => ?_)
    refine RunL.know (fun w s => (s.conv rfl).ownsB0) (fun aly2 => ?_)
    refine RunL.know (fun w s => (s.conv (frl rfl)).ownRd0) (fun rdy3 => ?_)
    refine RunL.mem (frc (frl (frl (frl (frl (frl (frl rfl)))))) (frc (frl (frl (frl (frl (frl (frl rfl)))))) rfl)) ?_
    refine RunL.call cal31 rfl (s31d (Rd.right rdy3).left (Alls.right aly2) (by assumption) (by assumption) (by assumption) (by assumption) (by assumption) (by assumption)) rfl (fun vy7 Ay7 hy7 => ?_)
    obtain ⟨y8, ⟨y9, ⟨rfl, rfl⟩⟩⟩ := hy7
    refine RunL.ok (OpOk.assign rfl) rfl ?_
    refine RunL.nil ?_
    refine Run.seq ?_
    refine Run.region ?_
    refine RunL.ok (OpOk.move rfl) rfl ?_
    refine RunL.ok (OpOk.as (c := true) (OpOk.neq rfl rfl) (by rw [decide_eq_false (by omega)]; rfl)) rfl ?_
    refine RunL.nil ?_
    refine Run.condT rfl ?_
    refine Run.seq ?_
    refine Run.region ?_
    refine RunL.ok (OpOk.move rfl) rfl ?_
    refine RunL.ok (OpOk.move rfl) rfl ?_
    refine RunL.ok (OpOk.asT (OpOk.eql rfl rfl) (by omega)) rfl ?_
    refine RunL.ok (OpOk.nilOk rfl) rfl ?_
    refine RunL.ok (OpOk.fieldAddr fld149_2 rfl) rfl ?_
    refine RunL.store ti4 rfl rfl rfl (frl (frl (frl (frl (frl (frl (frl (frl rfl)))))))) (by exact Nat.le_of_ble_eq_true rfl) (.inl rfl) ?_
    refine RunL.nil ?_
    refine Run.seq ?_
    refine Run.region ?_
    refine RunL.ok (OpOk.move rfl) rfl ?_
    refine RunL.ok (OpOk.assign rfl) rfl ?_
    refine RunL.nil ?_
    refine Run.ret1 Try.func74 rfl rfl ?_
    exact ⟨_, _, rfl, (Eq.trans (frc (frl (frl (frl (frl (frl (frl rfl)))))) (frc (frl (frl (frl (frl (frl (frl rfl)))))) (frc (frl (frl (frl (frl (frl (frl rfl)))))) (frc rfl rfl)))) (congrArg (· * _) (congrArg (· * _) (congrArg (· * _) (congrArg (· * _) (congrArg (· * _) (congrArg (· * _) (asg (asg (asg as1))))))))))⟩
end
end Go.Proofs.Yteopadjihklkmaa
