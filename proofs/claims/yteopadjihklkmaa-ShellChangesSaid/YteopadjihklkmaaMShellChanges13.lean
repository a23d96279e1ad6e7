/- Part 13 of the proof of ShellChanges. -/
import Derived.Test.YteopadjihklkmaaMShellChanges12
section
namespace Go.Proofs.Yteopadjihklkmaa
open Go Go.Proofs
set_option maxRecDepth 100000
set_option maxHeartbeats 4000000
set_option linter.unusedSimpArgs false
set_option linter.unusedVariables false
/-- A row: which sector, what. -/
abbrev Rw := Nat × SV × List UInt8
def encT104 : Rw → List Value := fun (s, v, _) => [.int .i64 (s : Int), v.1]
instance : OneC encT104 := ⟨fun ⟨s, v, b⟩ u hu => by
  simp only [encT104, List.mem_cons, List.not_mem_nil, or_false] at hu
  rcases hu with rfl | rfl
  · rfl
  · exact v.2⟩
def GR (w0 : World) (A : Asn) (p : Rw) : Prop := Rd w0 A p.2.1.1 1 p.2.2.length (B p.2.2)
instance {w0 : World} : Lift (GR w0) := ⟨fun h => Rd.left h, fun h => Rd.right h⟩
def rc (p : Rw) : Nat × List UInt8 := (p.1, p.2.2)
def doneF : List UInt8 → List (Nat × List UInt8) → List UInt8
  | xs, [] => xs
  | xs, (s, b) :: r => doneF (setSec xs s b) r
def okRow (p : Nat × List UInt8) : Prop := p.1 ≤ 15 ∧ p.2.length = 32
theorem doneF_append : ∀ (a b : List (Nat × List UInt8)) (xs : List UInt8), doneF xs (a ++ b) = doneF (doneF xs a) b
  | [], _, _ => rfl
  | (s, c) :: r, b, xs => doneF_append r b (setSec xs s c)
theorem doneF_len : ∀ (l : List (Nat × List UInt8)) (xs : List UInt8), xs.length = 512 → (∀ p ∈ l, okRow p) → (doneF xs l).length = 512
  | [], _, h, _ => h
  | (s, b) :: r, xs, h, ho => by
    have hb := ho (s, b) (List.mem_cons_self ..)
    rw [doneF]
    exact doneF_len r _ (setSec_len h hb.1 hb.2) (fun p hp => ho p (List.mem_cons_of_mem _ hp))
def rowsF : Nat → List (List UInt8) → List (Nat × List UInt8)
  | _, [] => []
  | a, b :: r => (a, b) :: rowsF (a + 1) r
theorem rowsF_len : ∀ (l : List (List UInt8)) (a : Nat), (rowsF a l).length = l.length
  | [], _ => rfl
  | _ :: r, a => by rw [rowsF, List.length_cons, rowsF_len r, List.length_cons]
theorem wrote_all : ∀ (l : List (List UInt8)) (xs : List UInt8) (w : Int) (a : Nat), w < 0 ∨ (l.length : Int) ≤ w → wroteF xs w a l = (doneF xs (rowsF a l), if w < 0 then w else w - l.length, 0)
  | [], xs, w, a, h => by
    rw [wroteF]
    simp [rowsF, doneF]
  | b :: r, xs, w, a, h => by
    rw [List.length_cons] at h ⊢
    rw [wroteF, if_neg (by omega), wrote_all r _ _ _ (by split <;> omega), rowsF, doneF]
    congr 2
    split <;> split <;> first | omega | (split <;> omega)
theorem wrote_part : ∀ (l : List (List UInt8)) (xs : List UInt8) (w a : Nat), w < l.length → wroteF xs (w : Int) a l = (doneF xs ((rowsF a l).take w), 0, 30)
  | [], xs, w, a, h => by simp at h
  | b :: r, xs, 0, a, h => rfl
  | b :: r, xs, w + 1, a, h => by
    rw [List.length_cons] at h
    rw [wroteF, if_neg (by omega), if_pos (by omega), show ((w + 1 : Nat) : Int) - 1 = (w : Int) by omega, wrote_part r _ _ _ (by omega), rowsF, List.take_succ_cons, doneF]
section
variable {w0 : World} {A : Asn} {u r : Value} {m : Nat} {xs : List UInt8} {rows : List Rw}
theorem setByte {xs b : List UInt8} {s k : Nat} (h : xs.length = 512) (hs : s ≤ 15) (hb : b.length = 32) (hk : k < 32) : (xs.take (32 * s) ++ (b.take k ++ xs.drop (32 * s + k))).set (32 * s + k) (b.getD k 0) = xs.take (32 * s) ++ (b.take (k + 1) ++ xs.drop (32 * s + (k + 1))) := by
  have h1 : (xs.take (32 * s)).length = 32 * s := by rw [List.length_take]; omega
  have h2 : (b.take k).length = k := by rw [List.length_take]; omega
  have h3 : xs.drop (32 * s + k) = xs.getD (32 * s + k) 0 :: xs.drop (32 * s + (k + 1)) := drop_next (by omega)
  rw [List.set_append_right _ _ (by omega), h1, show 32 * s + k - 32 * s = k by omega, List.set_append_right _ _ (by omega), h2, Nat.sub_self, h3, List.set_cons_zero, take_next (by omega : k < b.length), List.append_assoc]
  rfl
theorem s54 {n : Int} (rd : Rd w0 A u 1 m (B xs)) (rdr : Rd w0 A r 2 rows.length (Fl encT104 rows)) (al : Alls (GR w0) A rows) (hm : m = 512) (hok : ∀ p ∈ rows, okRow (rc p)) (hn : 0 ≤ n) : Spec Try.prog w0 54 [u, r, .int .i64 n] A (fun v' A' => ∃ J, A' = A * J * own 5 1 v' 512 (B (doneF xs ((rows.map rc).take n.toNat)))) := by
  subst hm
  have hl := rd.lenB
  have hmr := rdr.max
  obtain ⟨N, rfl⟩ := Int.eq_ofNat_of_zero_le hn
  rw [Int.toNat_natCast]
  have hdl : ∀ i, (doneF xs ((rows.map rc).take i)).length = 512 := fun i => doneF_len _ _ hl (fun p hp => by
    have hp := List.mem_of_mem_take hp
    rw [List.mem_map] at hp
    obtain ⟨q, hq, rfl⟩ := hp
    exact hok q hq)
  have hdn : ∀ i, i < rows.length → doneF xs ((rows.map rc).take (i + 1)) = setSec (doneF xs ((rows.map rc).take i)) (rows.getD i default).1 (rows.getD i default).2.2 := fun i hi => by
    have e : (rows.map rc).getD i default = ((rows.getD i default).1, (rows.getD i default).2.2) := by
      rw [List.getD_eq_getElem?_getD, List.getD_eq_getElem?_getD, List.getElem?_map, List.getElem?_eq_getElem hi]; rfl
    rw [take_next (by rw [List.length_map]; exact hi : i < (rows.map rc).length), doneF_append, e, doneF, doneF]
  refine Spec.of_run [(0, u), (1, r), (2, .int .i64 (N : Int))] Try.func54 rfl (Nat.le_of_ble_eq_true rfl) (by repeat (first | exact trivial | refine ⟨rfl, ?_⟩)) ?_
  refine Run.seq ?_
  refine Run.region ?_
  refine RunL.ok (OpOk.assign rfl) rfl ?_
  refine RunL.nil ?_
  refine Run.seq ?_
  refine Run.region ?_
  refine RunL.lit0B rfl ti5 rfl (fun vx1 rdx1 => ?_)
  refine RunL.ok (OpOk.move rfl) rfl ?_
  refine RunL.appendB0 rfl ti5 rfl rfl rfl rfl rd.left (by omega) rfl (fun vx2 rdx2 => ?_)
  refine RunL.ok (OpOk.assign rfl) rfl ?_
  refine RunL.nil ?_
  refine Run.seq ?_
  refine Run.seq ?_
  refine Run.region ?_
  refine RunL.ok (OpOk.assign rfl) rfl ?_
  refine RunL.nil ?_
  refine Run.block ?_
  refine Run.mem (A' := A * emp * own 5 1 vx2 512 (B xs)) (by rw [sep_emp]) ?_
  refine Run.jump ((Run.loopJ (X := Nat × Asn) (fun x => [(8, .int .i64 (x.1 : Int)), (7, vx2), (1, r), (2, .int .i64 (N : Int))]) (fun x => A * x.2 * own 5 1 vx2 512 (B (doneF xs ((rows.map rc).take x.1)))) (fun x => x.1 ≤ rows.length ∧ x.1 ≤ N) (fun x => rows.length - x.1) (0, emp) ⟨Nat.zero_le _, Nat.zero_le _⟩ (fun x hx ih => ?_))) ⟨rfl, rfl, rfl, rfl, trivial⟩ (Grew.of (frc rfl rfl) (Grew.refl _))
  obtain ⟨i, J⟩ := x
  simp only at hx ih ⊢
  obtain ⟨hi, hiN⟩ := hx
  rcases Nat.lt_or_ge i rows.length with hlt | hge
  · rcases Nat.lt_or_ge i N with hlN | hgN
    · have hdi := hdl i
      have hdn1 := hdn i hlt
      obtain ⟨e, hoe⟩ : ∃ e, rows.getD i default = e := ⟨_, rfl⟩
      have hoke := hok _ (getD_mem hlt)
      have rdi : Rd w0 A (rows.getD i default).2.1.1 1 (rows.getD i default).2.2.length (B (rows.getD i default).2.2) := al.get hlt
      rw [hoe] at hoke hdn1 rdi
      obtain ⟨s, v, b⟩ := e
      obtain ⟨hs15, hb32⟩ := hoke
      dsimp only [rc] at hs15 hb32 rdi hdn1
      generalize doneF xs ((rows.map rc).take i) = ys at hdi hdn1 ⊢
      have hset := fun k (hk : k < 32) => setByte hdi hs15 hb32 hk
      have hnb := b
      refine Run.seq ?_
      refine Run.seq ?_
      refine Run.region ?_
      refine RunL.ok (OpOk.move rfl) rfl ?_
      refine RunL.ok (OpOk.move rfl) rfl ?_
      refine RunL.ok (OpOk.lenR rfl rfl rdr.left.left rfl) rfl ?_
      refine RunL.ok (OpOk.asT (OpOk.lss rfl rfl) (by omega)) rfl ?_
      refine RunL.ok (OpOk.move rfl) rfl ?_
      refine RunL.on rfl rfl ?_
      refine RunL.ok (OpOk.move rfl) rfl ?_
      refine RunL.on rfl rfl ?_
      refine RunL.ok (OpOk.move rfl) rfl ?_
      refine RunL.on rfl rfl ?_
      refine RunL.ok (OpOk.asT (OpOk.lss rfl rfl) (by omega)) rfl ?_
      refine RunL.ok (OpOk.pickT rfl rfl) rfl ?_
      refine RunL.nil ?_
      refine Run.condT rfl ?_
      refine Run.skip ?_
      refine Run.seq ?_
      refine Run.block ?_
      refine Run.seq ?_
      refine Run.region ?_
      refine RunL.ok (OpOk.assign rfl) rfl ?_
      refine RunL.nil ?_
      refine Run.block ?_
      refine Run.mem (A' := A * J * own 5 1 vx2 512 (B (ys.take (32 * s) ++ (b.take 0 ++ ys.drop (32 * s + 0))))) (by rw [List.take_zero, List.nil_append, Nat.add_zero, List.take_append_drop]) ?_
      refine Run.jump ((Run.loopJ (X := Nat) (fun k => [(9, .int .i64 (k : Int)), (8, .int .i64 (i : Int)), (7, vx2), (1, r), (2, .int .i64 (N : Int))]) (fun k => A * J * own 5 1 vx2 512 (B (ys.take (32 * s) ++ (b.take k ++ ys.drop (32 * s + k))))) (fun k => k ≤ 32) (fun k => 32 - k) 0 (Nat.zero_le _) (fun k hk ih2 => ?_))) ⟨rfl, rfl, rfl, rfl, rfl, trivial⟩ ((Grew.refl _))
      rcases Nat.lt_or_ge k 32 with hkl | hkg
      · have hsk := hset k hkl
        refine Run.seq ?_
        refine Run.seq ?_
        refine Run.region ?_
        refine RunL.ok (OpOk.move rfl) rfl ?_
        refine RunL.ok (OpOk.asT (OpOk.lss rfl rfl) (by omega)) rfl ?_
        refine RunL.nil ?_
        refine Run.condT rfl ?_
        refine Run.skip ?_
        refine Run.seq ?_
        refine Run.block ?_
        refine Run.know (fun w s => (s.conv rfl).ownRd0) (fun rdz1 => ?_)
        (apply Run.drawD [18] (by rfl) (sep_emp _).symm; case hchk => kernel_rfl)
        refine Sd.quiet 0 _ _ rfl rfl rfl rfl rfl (QOp.ok (fun X => OpOk.move rfl)) ?_
        refine Sd.quiet 1 _ _ rfl rfl rfl rfl rfl (QOp.ok (fun X => OpOk.move rfl)) ?_
        refine Sd.quiet 2 _ _ rfl rfl rfl rfl rfl (QOp.ok (fun X => OpOk.move rfl)) ?_
        refine Sd.quiet 3 _ _ rfl rfl rfl rfl rfl (QOp.ok (fun X => OpOk.idxN rfl ti104 rfl rdr.left.left.left.left rfl (by omega))) ?_
        refine Sd.quiet 4 _ _ rfl rfl rfl rfl rfl (QOp.ok (fun X => OpOk.fieldAddrA fld104_0 rfl)) ?_
        refine Sd.quiet 5 _ _ rfl rfl rfl rfl rfl (QOp.ok (fun X => OpOk.loadFl1E hoe rfl rfl rfl rdr.left.left.left.left (fun _ => rfl) rfl (by omega) rfl)) ?_
        refine Sd.quiet 6 _ _ rfl rfl rfl rfl rfl (QOp.ok (fun X => OpOk.mulN 32 _ rfl rfl rfl rfl (by omega))) ?_
        refine Sd.quiet 7 _ _ rfl rfl rfl rfl rfl (QOp.ok (fun X => OpOk.move rfl)) ?_
        refine Sd.quiet 8 _ _ rfl rfl rfl rfl rfl (QOp.ok (fun X => OpOk.addN _ _ rfl rfl rfl rfl (by omega))) ?_
        refine Sd.quiet 9 _ _ rfl rfl rfl rfl rfl (QOp.ok (fun X => OpOk.move rfl)) ?_
        refine Sd.quiet 10 _ _ rfl rfl rfl rfl rfl (QOp.ok (fun X => OpOk.move rfl)) ?_
        refine Sd.quiet 11 _ _ rfl rfl rfl rfl rfl (QOp.ok (fun X => OpOk.idxN rfl ti104 rfl rdr.left.left.left.left rfl (by omega))) ?_
        refine Sd.quiet 12 _ _ rfl rfl rfl rfl rfl (QOp.ok (fun X => OpOk.fieldAddrA fld104_1 rfl)) ?_
        refine Sd.quiet 13 _ _ rfl rfl rfl rfl rfl (QOp.ok (fun X => OpOk.loadFl1E hoe rfl rfl rfl rdr.left.left.left.left (fun _ => rfl) rfl (by omega) rfl)) ?_
        refine Sd.quiet 14 _ _ rfl rfl rfl rfl rfl (QOp.ok (fun X => OpOk.move rfl)) ?_
        refine Sd.quiet 15 _ _ rfl rfl rfl rfl rfl (QOp.ok (fun X => OpOk.idx1N rfl ti5 rfl rdi.left.left.left.left rfl (by omega))) ?_
        refine Sd.quiet 16 _ _ rfl rfl rfl rfl rfl (QOp.ok (fun X => OpOk.load rfl rfl rfl (Rd.getB rdi.left.left.left.left (by omega)))) ?_
        refine Sd.quiet 17 _ _ rfl rfl rfl rfl rfl (QOp.ok (fun X => OpOk.idx1N rfl ti5 rfl (Rd.right rdz1).left.left rfl (by omega))) ?_
        (apply Sd.tail; case hall => kernel_rfl)
        refine RunL.mem (fl2 (sep_emp _) (sep_emp _)) ?_
        refine RunL.storeB _ ti5 rfl rfl rfl rfl (by omega) ?_
        refine RunL.nil ?_
        refine Run.inBlock ?_
        refine Run.region ?_
        refine RunL.ok (OpOk.move rfl) rfl ?_
        refine RunL.ok (OpOk.addN _ 1 rfl rfl rfl rfl (by omega)) rfl ?_
        refine RunL.ok (OpOk.assign rfl) rfl ?_
        refine RunL.nil ?_
        rw [hsk]
        refine Run.jump ((ih2 (k + 1) (by omega) (by omega))) ⟨rfl, rfl, rfl, rfl, rfl, trivial⟩ ((Grew.refl _))
      · obtain rfl : k = 32 := by omega
        clear ih2
        have e32 : ys.take (32 * s) ++ (b.take 32 ++ ys.drop (32 * s + 32)) = doneF xs ((rows.map rc).take (i + 1)) := by
          rw [hdn1, setSec, List.take_of_length_le (by omega : b.length ≤ 32)]
        rw [e32]
        refine Run.seq ?_
        refine Run.seq ?_
        refine Run.region ?_
        refine RunL.ok (OpOk.move rfl) rfl ?_
        refine RunL.ok (OpOk.asF (OpOk.lss rfl rfl) (by omega)) rfl ?_
        refine RunL.nil ?_
        refine Run.condF rfl ?_
        refine Run.exit rfl ?_
        refine Run.inBlock ?_
        refine Run.region ?_
        refine RunL.ok (OpOk.move rfl) rfl ?_
        refine RunL.ok (OpOk.addN _ 1 rfl rfl rfl rfl (by omega)) rfl ?_
        refine RunL.ok (OpOk.assign rfl) rfl ?_
        refine RunL.nil ?_
        refine Run.jump ((ih (i + 1, _) ⟨by dsimp only; omega, by dsimp only; omega⟩ (by dsimp only; omega))) ⟨rfl, rfl, rfl, rfl, trivial⟩ (Grew.of (congrArg (· * _) as1) (Grew.refl _))
    · obtain rfl : i = N := by omega
      clear ih
      refine Run.seq ?_
      refine Run.seq ?_
      refine Run.region ?_
      refine RunL.ok (OpOk.move rfl) rfl ?_
      refine RunL.ok (OpOk.move rfl) rfl ?_
      refine RunL.ok (OpOk.lenR rfl rfl rdr.left.left rfl) rfl ?_
      refine RunL.ok (OpOk.asT (OpOk.lss rfl rfl) (by omega)) rfl ?_
      refine RunL.ok (OpOk.move rfl) rfl ?_
      refine RunL.on rfl rfl ?_
      refine RunL.ok (OpOk.move rfl) rfl ?_
      refine RunL.on rfl rfl ?_
      refine RunL.ok (OpOk.move rfl) rfl ?_
      refine RunL.on rfl rfl ?_
      refine RunL.ok (OpOk.asF (OpOk.lss rfl rfl) (by omega)) rfl ?_
      refine RunL.ok (OpOk.pickT rfl rfl) rfl ?_
      refine RunL.nil ?_
      refine Run.condF rfl ?_
      refine Run.exit rfl ?_
      refine Run.seq ?_
      refine Run.region ?_
      refine RunL.ok (OpOk.move rfl) rfl ?_
      refine RunL.ok (OpOk.assign rfl) rfl ?_
      refine RunL.nil ?_
      refine Run.ret1 Try.func54 rfl rfl ?_
      exact ⟨_, (congrArg (· * _) as1)⟩
  · obtain rfl : i = rows.length := by omega
    clear ih
    have hte : (rows.map rc).take rows.length = (rows.map rc).take N := by
      rw [List.take_of_length_le (by rw [List.length_map]; exact Nat.le_refl _), List.take_of_length_le (by rw [List.length_map]; exact hiN)]
    rw [hte]
    refine Run.seq ?_
    refine Run.seq ?_
    refine Run.region ?_
    refine RunL.ok (OpOk.move rfl) rfl ?_
    refine RunL.ok (OpOk.move rfl) rfl ?_
    refine RunL.ok (OpOk.lenR rfl rfl rdr.left.left rfl) rfl ?_
    refine RunL.ok (OpOk.asF (OpOk.lss rfl rfl) (by omega)) rfl ?_
    refine RunL.ok (OpOk.move rfl) rfl ?_
    refine RunL.off rfl rfl rfl rfl ?_
    refine RunL.off rfl rfl rfl rfl ?_
    refine RunL.off rfl rfl rfl rfl ?_
    refine RunL.ok (OpOk.pickF rfl rfl) rfl ?_
    refine RunL.nil ?_
    refine Run.condF rfl ?_
    refine Run.exit rfl ?_
    refine Run.seq ?_
    refine Run.region ?_
    refine RunL.ok (OpOk.move rfl) rfl ?_
    refine RunL.ok (OpOk.assign rfl) rfl ?_
    refine RunL.nil ?_
    refine Run.ret1 Try.func54 rfl rfl ?_
    exact ⟨_, (congrArg (· * _) as1)⟩
end
end Go.Proofs.Yteopadjihklkmaa
end

section
namespace Go.Proofs.Yteopadjihklkmaa
open Go Go.Proofs
set_option maxRecDepth 100000
set_option maxHeartbeats 4000000
set_option linter.unusedSimpArgs false
set_option linter.unusedVariables false
abbrev rows3 (f t : Nat) (bs zs : List UInt8) (adx : Option Addr) (capx : Nat) (ady : Option Addr) (capy : Nat) : List Rw := [(3 + 2 * f, ⟨cutV (.slice adx 64 capx) 0 32 1, rfl⟩, (full64 bs).take 32), (4 + 2 * f, ⟨cutV (.slice adx 64 capx) 32 64 1, rfl⟩, (full64 bs).drop 32), (t, ⟨.slice ady 32 capy, rfl⟩, zs)]
section
variable {w0 : World} {A : Asn} {a b q c k o i s : Int} {ad : Option Addr} {m cap n f : Nat} {es : List En} {u : Value} {bs : List UInt8}
theorem s52a (rd : Rd w0 A u 1 m (B bs)) (hm : m ≤ 30) : Spec Try.prog w0 52 [u] A (fun v' A' => ∃ ad2 cap2 J, v' = .slice ad2 32 cap2 ∧ A' = A * J * own 5 1 (.slice ad2 32 cap2) 32 (B (sectB bs))) := by
  refine Spec.learn2 (s52 rd hm) ?_
  rintro v' A' w ⟨J, rfl⟩ hs
  obtain ⟨ad2, cap2, rfl, _, _⟩ := hs.ownRd0.form
  exact ⟨ad2, cap2, J, rfl, rfl⟩
theorem s58a (rd : Rd w0 A (.slice ad m cap) 4 m (Fl encT111 es)) (rdb : Rd w0 A u 1 n (B bs)) (hr : ¬ rightP (k, o, i, s)) :
    Spec Try.prog w0 58 [.agg #[.int .i64 a, .int .i64 b, .int .i64 q, .int .i64 c, .slice ad m cap], .agg #[.int .i64 k, .int .i64 o, .int .i64 i, .int .i64 s], u] A (fun v' A' => ∃ J, v' = .tuple #[.slice none 0 0, .int .i64 2] ∧ A' = A * J) := by
  have hl0 := rd.lenFl (fun _ => rfl) (by decide)
  subst hl0
  refine Spec.of_run [(0, .agg #[.int .i64 a, .int .i64 b, .int .i64 q, .int .i64 c, .slice ad es.length cap]), (1, .agg #[.int .i64 k, .int .i64 o, .int .i64 i, .int .i64 s]), (2, u)] Try.func58 rfl (Nat.le_of_ble_eq_true rfl) (by repeat (first | exact trivial | refine ⟨rfl, ?_⟩)) ?_
  refine Run.seq ?_
  refine Run.region ?_
  refine RunL.box rfl rfl (fun bx1 => ?_)
  refine RunL.box rfl rfl (fun bx2 => ?_)
  refine RunL.ok (OpOk.assign rfl) rfl ?_
  refine RunL.ok (OpOk.assign rfl) rfl ?_
  refine RunL.nil ?_
  refine Run.seq ?_
  refine Run.region ?_
  refine RunL.ok (OpOk.loadS rfl rfl ti89 rfl Blk.pts.left rfl) rfl ?_
  refine RunL.ok (OpOk.fieldAddr fld111_1 rfl) rfl ?_
  refine RunL.ok (OpOk.load rfl rfl rfl (Blk.out Blk.pts _ _ (by first | rfl | assumption))) rfl ?_
  refine RunL.ok (OpOk.fieldAddr fld111_2 rfl) rfl ?_
  refine RunL.ok (OpOk.load rfl rfl rfl (Blk.out Blk.pts _ _ (by first | rfl | assumption))) rfl ?_
  refine RunL.call cal46 rfl (s46 rd.left.left) rfl (fun vx3 Ax3 hx3 => ?_)
  obtain ⟨x4, ⟨rfl, rfl⟩⟩ := hx3
  refine RunL.ok (OpOk.assign rfl) rfl ?_
  refine RunL.nil ?_
  refine Run.seq ?_
  refine Run.seq ?_
  refine Run.region ?_
  refine RunL.ok (OpOk.fieldAddr fld111_0 rfl) rfl ?_
  refine RunL.ok (OpOk.load rfl rfl rfl (Blk.out Blk.pts.left _ _ (by first | rfl | assumption))) rfl ?_
  refine RunL.ok (OpOk.lss rfl rfl) rfl ?_
  refine RunL.ok (OpOk.move rfl) rfl ?_
  refine RunL.splitD (t := 22) rfl (fun x5 => ?_) (fun x5 => ?_)
  · refine RunL.off rfl rfl rfl rfl ?_
    refine RunL.off rfl rfl rfl rfl ?_
    refine RunL.off rfl rfl rfl rfl ?_
    refine RunL.ok (OpOk.pickT rfl rfl) rfl ?_
    refine RunL.ok (OpOk.move rfl) rfl ?_
    refine RunL.off rfl rfl rfl rfl ?_
    refine RunL.off rfl rfl rfl rfl ?_
    refine RunL.off rfl rfl rfl rfl ?_
    refine RunL.ok (OpOk.pickT rfl rfl) rfl ?_
    refine RunL.ok (OpOk.move rfl) rfl ?_
    refine RunL.off rfl rfl rfl rfl ?_
    refine RunL.off rfl rfl rfl rfl ?_
    refine RunL.off rfl rfl rfl rfl ?_
    refine RunL.ok (OpOk.pickT rfl rfl) rfl ?_
    refine RunL.ok (OpOk.move rfl) rfl ?_
    refine RunL.off rfl rfl rfl rfl ?_
    refine RunL.off rfl rfl rfl rfl ?_
    refine RunL.off rfl rfl rfl rfl ?_
    refine RunL.ok (OpOk.pickT rfl rfl) rfl ?_
    refine RunL.ok (OpOk.move rfl) rfl ?_
    refine RunL.off rfl rfl rfl rfl ?_
    refine RunL.off rfl rfl rfl rfl ?_
    refine RunL.off rfl rfl rfl rfl ?_
    refine RunL.ok (OpOk.pickT rfl rfl) rfl ?_
    refine RunL.nil ?_
    refine Run.condT rfl ?_
    refine Run.seq ?_
    refine Run.region ?_
    refine RunL.ok (OpOk.assign rfl) rfl ?_
    refine RunL.ok (OpOk.assign rfl) rfl ?_
    refine RunL.nil ?_
    refine Run.ret2 Try.func58 rfl rfl rfl ?_
    exact ⟨_, rfl, (asg (asg as1))⟩
  refine RunL.on rfl rfl ?_
  refine RunL.ok (OpOk.fieldAddr fld111_0 rfl) rfl ?_
  refine RunL.on rfl rfl ?_
  refine RunL.ok (OpOk.load rfl rfl rfl (Blk.out Blk.pts.left _ _ (by first | rfl | assumption))) rfl ?_
  refine RunL.on rfl rfl ?_
  refine RunL.ok (OpOk.gtr rfl rfl) rfl ?_
  refine RunL.ok (OpOk.pickF rfl rfl) rfl ?_
  refine RunL.ok (OpOk.move rfl) rfl ?_
  refine RunL.splitD (t := 27) rfl (fun x6 => ?_) (fun x6 => ?_)
  · refine RunL.off rfl rfl rfl rfl ?_
    refine RunL.off rfl rfl rfl rfl ?_
    refine RunL.off rfl rfl rfl rfl ?_
    refine RunL.ok (OpOk.pickT rfl rfl) rfl ?_
    refine RunL.ok (OpOk.move rfl) rfl ?_
    refine RunL.off rfl rfl rfl rfl ?_
    refine RunL.off rfl rfl rfl rfl ?_
    refine RunL.off rfl rfl rfl rfl ?_
    refine RunL.ok (OpOk.pickT rfl rfl) rfl ?_
    refine RunL.ok (OpOk.move rfl) rfl ?_
    refine RunL.off rfl rfl rfl rfl ?_
    refine RunL.off rfl rfl rfl rfl ?_
    refine RunL.off rfl rfl rfl rfl ?_
    refine RunL.ok (OpOk.pickT rfl rfl) rfl ?_
    refine RunL.ok (OpOk.move rfl) rfl ?_
    refine RunL.off rfl rfl rfl rfl ?_
    refine RunL.off rfl rfl rfl rfl ?_
    refine RunL.off rfl rfl rfl rfl ?_
    refine RunL.ok (OpOk.pickT rfl rfl) rfl ?_
    refine RunL.nil ?_
    refine Run.condT rfl ?_
    refine Run.seq ?_
    refine Run.region ?_
    refine RunL.ok (OpOk.assign rfl) rfl ?_
    refine RunL.ok (OpOk.assign rfl) rfl ?_
    refine RunL.nil ?_
    refine Run.ret2 Try.func58 rfl rfl rfl ?_
    exact ⟨_, rfl, (asg (asg as1))⟩
  refine RunL.on rfl rfl ?_
  refine RunL.ok (OpOk.fieldAddr fld111_1 rfl) rfl ?_
  refine RunL.on rfl rfl ?_
  refine RunL.ok (OpOk.load rfl rfl rfl (Blk.out Blk.pts.left _ _ (by first | rfl | assumption))) rfl ?_
  refine RunL.on rfl rfl ?_
  refine RunL.ok (OpOk.lss rfl rfl) rfl ?_
  refine RunL.ok (OpOk.pickF rfl rfl) rfl ?_
  refine RunL.ok (OpOk.move rfl) rfl ?_
  refine RunL.splitD (t := 32) rfl (fun x7 => ?_) (fun x7 => ?_)
  · refine RunL.off rfl rfl rfl rfl ?_
    refine RunL.off rfl rfl rfl rfl ?_
    refine RunL.off rfl rfl rfl rfl ?_
    refine RunL.ok (OpOk.pickT rfl rfl) rfl ?_
    refine RunL.ok (OpOk.move rfl) rfl ?_
    refine RunL.off rfl rfl rfl rfl ?_
    refine RunL.off rfl rfl rfl rfl ?_
    refine RunL.off rfl rfl rfl rfl ?_
    refine RunL.ok (OpOk.pickT rfl rfl) rfl ?_
    refine RunL.ok (OpOk.move rfl) rfl ?_
    refine RunL.off rfl rfl rfl rfl ?_
    refine RunL.off rfl rfl rfl rfl ?_
    refine RunL.off rfl rfl rfl rfl ?_
    refine RunL.ok (OpOk.pickT rfl rfl) rfl ?_
    refine RunL.nil ?_
    refine Run.condT rfl ?_
    refine Run.seq ?_
    refine Run.region ?_
    refine RunL.ok (OpOk.assign rfl) rfl ?_
    refine RunL.ok (OpOk.assign rfl) rfl ?_
    refine RunL.nil ?_
    refine Run.ret2 Try.func58 rfl rfl rfl ?_
    exact ⟨_, rfl, (asg (asg as1))⟩
  refine RunL.on rfl rfl ?_
  refine RunL.ok (OpOk.fieldAddr fld111_1 rfl) rfl ?_
  refine RunL.on rfl rfl ?_
  refine RunL.ok (OpOk.load rfl rfl rfl (Blk.out Blk.pts.left _ _ (by first | rfl | assumption))) rfl ?_
  refine RunL.on rfl rfl ?_
  refine RunL.ok (OpOk.gtr rfl rfl) rfl ?_
  refine RunL.ok (OpOk.pickF rfl rfl) rfl ?_
  refine RunL.ok (OpOk.move rfl) rfl ?_
  refine RunL.splitD (t := 37) rfl (fun x8 => ?_) (fun x8 => ?_)
  · refine RunL.off rfl rfl rfl rfl ?_
    refine RunL.off rfl rfl rfl rfl ?_
    refine RunL.off rfl rfl rfl rfl ?_
    refine RunL.ok (OpOk.pickT rfl rfl) rfl ?_
    refine RunL.ok (OpOk.move rfl) rfl ?_
    refine RunL.off rfl rfl rfl rfl ?_
    refine RunL.off rfl rfl rfl rfl ?_
    refine RunL.off rfl rfl rfl rfl ?_
    refine RunL.ok (OpOk.pickT rfl rfl) rfl ?_
    refine RunL.nil ?_
    refine Run.condT rfl ?_
    refine Run.seq ?_
    refine Run.region ?_
    refine RunL.ok (OpOk.assign rfl) rfl ?_
    refine RunL.ok (OpOk.assign rfl) rfl ?_
    refine RunL.nil ?_
    refine Run.ret2 Try.func58 rfl rfl rfl ?_
    exact ⟨_, rfl, (asg (asg as1))⟩
  refine RunL.on rfl rfl ?_
  refine RunL.ok (OpOk.fieldAddr fld111_2 rfl) rfl ?_
  refine RunL.on rfl rfl ?_
  refine RunL.ok (OpOk.load rfl rfl rfl (Blk.out Blk.pts.left _ _ (by first | rfl | assumption))) rfl ?_
  refine RunL.on rfl rfl ?_
  refine RunL.ok (OpOk.lss rfl rfl) rfl ?_
  refine RunL.ok (OpOk.pickF rfl rfl) rfl ?_
  refine RunL.ok (OpOk.move rfl) rfl ?_
  refine RunL.splitD (t := 42) rfl (fun x9 => ?_) (fun x9 => ?_)
  · refine RunL.off rfl rfl rfl rfl ?_
    refine RunL.off rfl rfl rfl rfl ?_
    refine RunL.off rfl rfl rfl rfl ?_
    refine RunL.ok (OpOk.pickT rfl rfl) rfl ?_
    refine RunL.nil ?_
    refine Run.condT rfl ?_
    refine Run.seq ?_
    refine Run.region ?_
    refine RunL.ok (OpOk.assign rfl) rfl ?_
    refine RunL.ok (OpOk.assign rfl) rfl ?_
    refine RunL.nil ?_
    refine Run.ret2 Try.func58 rfl rfl rfl ?_
    exact ⟨_, rfl, (asg (asg as1))⟩
  refine RunL.on rfl rfl ?_
  refine RunL.ok (OpOk.fieldAddr fld111_2 rfl) rfl ?_
  refine RunL.on rfl rfl ?_
  refine RunL.ok (OpOk.load rfl rfl rfl (Blk.out Blk.pts.left _ _ (by first | rfl | assumption))) rfl ?_
  refine RunL.on rfl rfl ?_
  refine RunL.ok (OpOk.gtr rfl rfl) rfl ?_
  refine RunL.ok (OpOk.pickF rfl rfl) rfl ?_
  refine RunL.nil ?_
  refine Run.condD rfl (fun x10 => ?_) (fun x10 => ?_)
  · refine Run.seq ?_
    refine Run.region ?_
    refine RunL.ok (OpOk.assign rfl) rfl ?_
    refine RunL.ok (OpOk.assign rfl) rfl ?_
    refine RunL.nil ?_
    refine Run.ret2 Try.func58 rfl rfl rfl ?_
    exact ⟨_, rfl, (asg (asg as1))⟩
  refine Run.skip ?_
  refine Run.seq ?_
  refine Run.seq ?_
  refine Run.region ?_
  refine RunL.ok (OpOk.move rfl) rfl ?_
  refine RunL.ok (OpOk.lenR rfl rfl rdb.left.left.left rfl) rfl ?_
  refine RunL.ok (OpOk.gtr rfl rfl) rfl ?_
  refine RunL.nil ?_
  refine Run.condD rfl (fun x11 => ?_) (fun x11 => ?_)
  · refine Run.seq ?_
    refine Run.region ?_
    refine RunL.ok (OpOk.assign rfl) rfl ?_
    refine RunL.ok (OpOk.assign rfl) rfl ?_
    refine RunL.nil ?_
    refine Run.ret2 Try.func58 rfl rfl rfl ?_
    exact absurd ⟨by dsimp only; omega, by dsimp only; omega, by dsimp only; omega, by dsimp only; omega, by dsimp only; omega, by dsimp only; omega⟩ hr
  refine Run.skip ?_
  refine Run.seq ?_
  refine Run.seq ?_
  refine Run.region ?_
  refine RunL.ok (OpOk.move rfl) rfl ?_
  refine RunL.ok (OpOk.lss rfl rfl) rfl ?_
  refine RunL.ok (OpOk.move rfl) rfl ?_
  refine RunL.splitD (t := 52) rfl (fun x12 => ?_) (fun x12 => ?_)
  · refine RunL.on rfl rfl ?_
    refine RunL.ok (OpOk.fieldAddr fld89_4 rfl) rfl ?_
    refine RunL.on rfl rfl ?_
    refine RunL.ok (OpOk.load rfl rfl rfl (Blk.out Blk.pts.left.left _ _ (by first | rfl | assumption))) rfl ?_
    refine RunL.on rfl rfl ?_
    refine RunL.ok (OpOk.lenV rfl rfl rfl) rfl ?_
    refine RunL.on rfl rfl ?_
    refine RunL.ok (OpOk.geq rfl rfl) rfl ?_
    refine RunL.ok (OpOk.pickT rfl rfl) rfl ?_
    refine RunL.nil ?_
    refine Run.condD rfl (fun x13 => ?_) (fun x13 => ?_)
    · refine Run.seq ?_
      refine Run.region ?_
      refine RunL.ok (OpOk.assign rfl) rfl ?_
      refine RunL.ok (OpOk.assign rfl) rfl ?_
      refine RunL.nil ?_
      refine Run.ret2 Try.func58 rfl rfl rfl ?_
      exact absurd ⟨by dsimp only; omega, by dsimp only; omega, by dsimp only; omega, by dsimp only; omega, by dsimp only; omega, by dsimp only; omega⟩ hr
    refine Run.skip ?_
    refine Run.seq ?_
    refine Run.seq ?_
    refine Run.region ?_
    refine RunL.ok (OpOk.fieldAddr fld89_2 rfl) rfl ?_
    refine RunL.ok (OpOk.load rfl rfl rfl (Blk.out Blk.pts.left.left _ _ (by first | rfl | assumption))) rfl ?_
    refine RunL.ok (OpOk.geq rfl rfl) rfl ?_
    refine RunL.nil ?_
    refine Run.condD rfl (fun x14 => ?_) (fun x14 => ?_)
    · refine Run.seq ?_
      refine Run.region ?_
      refine RunL.ok (OpOk.assign rfl) rfl ?_
      refine RunL.ok (OpOk.assign rfl) rfl ?_
      refine RunL.nil ?_
      refine Run.ret2 Try.func58 rfl rfl rfl ?_
      exact absurd ⟨by dsimp only; omega, by dsimp only; omega, by dsimp only; omega, by dsimp only; omega, by dsimp only; omega, by dsimp only; omega⟩ hr
    refine Run.skip ?_
    refine Run.seq ?_
    refine Run.region ?_
    refine RunL.ok (OpOk.loadS rfl rfl ti89 rfl Blk.pts.left.left rfl) rfl ?_
    refine RunL.call cal48 rfl (s48 rd.left.left.left) rfl (fun vx15 Ax15 hx15 => ?_)
    obtain ⟨x16, ⟨rfl, rfl⟩⟩ := hx15
    refine RunL.ok (OpOk.assign rfl) rfl ?_
    refine RunL.nil ?_
    refine Run.seq ?_
    refine Run.seq ?_
    refine Run.region ?_
    refine RunL.ok (OpOk.move rfl) rfl ?_
    refine RunL.ok (OpOk.lss rfl rfl) rfl ?_
    refine RunL.nil ?_
    refine Run.condD rfl (fun x17 => ?_) (fun x17 => ?_)
    · refine Run.seq ?_
      refine Run.region ?_
      refine RunL.ok (OpOk.assign rfl) rfl ?_
      refine RunL.ok (OpOk.assign rfl) rfl ?_
      refine RunL.nil ?_
      refine Run.ret2 Try.func58 rfl rfl rfl ?_
      exact absurd ⟨by dsimp only; omega, by dsimp only; omega, by dsimp only; omega, by dsimp only; omega, by dsimp only; omega, by dsimp only; omega⟩ hr
    refine Run.skip ?_
    refine Run.seq ?_
    refine Run.region ?_
    refine RunL.ok (OpOk.move rfl) rfl ?_
    refine RunL.ok (OpOk.fieldAddr fld111_3 rfl) rfl ?_
    refine RunL.store ti3 rfl rfl rfl (frl (frl rfl)) (by exact Nat.le_of_ble_eq_true rfl) (.inl rfl) ?_
    refine RunL.nil ?_
    refine Run.seq ?_
    refine Run.region ?_
    refine RunL.makeB (m := 64) rfl ti5 rfl rfl (by omega) rfl (fun vx18 rdx18 => ?_)
    refine RunL.ok (OpOk.assign rfl) rfl ?_
    refine RunL.nil ?_
    refine Run.seq ?_
    refine Run.seq ?_
    refine Run.region ?_
    refine RunL.ok (OpOk.assign rfl) rfl ?_
    refine RunL.nil ?_
    refine Run.block ?_
    exact absurd ⟨by dsimp only; omega, by dsimp only; omega, by dsimp only; omega, by dsimp only; omega, by dsimp only; omega, by dsimp only; omega⟩ hr
  refine RunL.off rfl rfl rfl rfl ?_
  refine RunL.off rfl rfl rfl rfl ?_
  refine RunL.off rfl rfl rfl rfl ?_
  refine RunL.off rfl rfl rfl rfl ?_
  refine RunL.ok (OpOk.pickF rfl rfl) rfl ?_
  refine RunL.nil ?_
  refine Run.condF rfl ?_
  refine Run.skip ?_
  refine Run.seq ?_
  refine Run.seq ?_
  refine Run.region ?_
  refine RunL.ok (OpOk.fieldAddr fld89_2 rfl) rfl ?_
  refine RunL.ok (OpOk.load rfl rfl rfl (Blk.out Blk.pts.left.left _ _ (by first | rfl | assumption))) rfl ?_
  refine RunL.ok (OpOk.geq rfl rfl) rfl ?_
  refine RunL.nil ?_
  refine Run.condD rfl (fun x19 => ?_) (fun x19 => ?_)
  · refine Run.seq ?_
    refine Run.region ?_
    refine RunL.ok (OpOk.assign rfl) rfl ?_
    refine RunL.ok (OpOk.assign rfl) rfl ?_
    refine RunL.nil ?_
    refine Run.ret2 Try.func58 rfl rfl rfl ?_
    exact absurd ⟨by dsimp only; omega, by dsimp only; omega, by dsimp only; omega, by dsimp only; omega, by dsimp only; omega, by dsimp only; omega⟩ hr
  refine Run.skip ?_
  refine Run.seq ?_
  refine Run.region ?_
  refine RunL.ok (OpOk.loadS rfl rfl ti89 rfl Blk.pts.left.left rfl) rfl ?_
  refine RunL.call cal48 rfl (s48 rd.left.left.left) rfl (fun vx20 Ax20 hx20 => ?_)
  obtain ⟨x21, ⟨rfl, rfl⟩⟩ := hx20
  refine RunL.ok (OpOk.assign rfl) rfl ?_
  refine RunL.nil ?_
  refine Run.seq ?_
  refine Run.seq ?_
  refine Run.region ?_
  refine RunL.ok (OpOk.move rfl) rfl ?_
  refine RunL.ok (OpOk.lss rfl rfl) rfl ?_
  refine RunL.nil ?_
  refine Run.condD rfl (fun x22 => ?_) (fun x22 => ?_)
  · refine Run.seq ?_
    refine Run.region ?_
    refine RunL.ok (OpOk.assign rfl) rfl ?_
    refine RunL.ok (OpOk.assign rfl) rfl ?_
    refine RunL.nil ?_
    refine Run.ret2 Try.func58 rfl rfl rfl ?_
    exact absurd ⟨by dsimp only; omega, by dsimp only; omega, by dsimp only; omega, by dsimp only; omega, by dsimp only; omega, by dsimp only; omega⟩ hr
  refine Run.skip ?_
  refine Run.seq ?_
  refine Run.region ?_
  refine RunL.ok (OpOk.move rfl) rfl ?_
  refine RunL.ok (OpOk.fieldAddr fld111_3 rfl) rfl ?_
  refine RunL.store ti3 rfl rfl rfl (frl (frl rfl)) (by exact Nat.le_of_ble_eq_true rfl) (.inl rfl) ?_
  refine RunL.nil ?_
  refine Run.seq ?_
  refine Run.region ?_
  refine RunL.makeB (m := 64) rfl ti5 rfl rfl (by omega) rfl (fun vx23 rdx23 => ?_)
  refine RunL.ok (OpOk.assign rfl) rfl ?_
  refine RunL.nil ?_
  refine Run.seq ?_
  refine Run.seq ?_
  refine Run.region ?_
  refine RunL.ok (OpOk.assign rfl) rfl ?_
  refine RunL.nil ?_
  refine Run.block ?_
  exact absurd ⟨by dsimp only; omega, by dsimp only; omega, by dsimp only; omega, by dsimp only; omega, by dsimp only; omega, by dsimp only; omega⟩ hr
theorem s58b (rd : Rd w0 A (.slice ad m cap) 4 m (Fl encT111 es)) (rdb : Rd w0 A u 1 n (B bs)) (hr : rightP (k, o, i, s)) (hn : 64 < n) :
    Spec Try.prog w0 58 [.agg #[.int .i64 a, .int .i64 b, .int .i64 q, .int .i64 c, .slice ad m cap], .agg #[.int .i64 k, .int .i64 o, .int .i64 i, .int .i64 s], u] A (fun v' A' => ∃ J, v' = .tuple #[.slice none 0 0, .int .i64 11] ∧ A' = A * J) := by
  have hl0 := rd.lenFl (fun _ => rfl) (by decide)
  subst hl0
  obtain ⟨r1, r2, r3, r4, r5, r6⟩ := hr
  dsimp only at r1 r2 r3 r4 r5 r6
  refine Spec.of_run [(0, .agg #[.int .i64 a, .int .i64 b, .int .i64 q, .int .i64 c, .slice ad es.length cap]), (1, .agg #[.int .i64 k, .int .i64 o, .int .i64 i, .int .i64 s]), (2, u)] Try.func58 rfl (Nat.le_of_ble_eq_true rfl) (by repeat (first | exact trivial | refine ⟨rfl, ?_⟩)) ?_
  refine Run.seq ?_
  refine Run.region ?_
  refine RunL.box rfl rfl (fun bx1 => ?_)
  refine RunL.box rfl rfl (fun bx2 => ?_)
  refine RunL.ok (OpOk.assign rfl) rfl ?_
  refine RunL.ok (OpOk.assign rfl) rfl ?_
  refine RunL.nil ?_
  refine Run.seq ?_
  refine Run.region ?_
  refine RunL.ok (OpOk.loadS rfl rfl ti89 rfl Blk.pts.left rfl) rfl ?_
  refine RunL.ok (OpOk.fieldAddr fld111_1 rfl) rfl ?_
  refine RunL.ok (OpOk.load rfl rfl rfl (Blk.out Blk.pts _ _ (by first | rfl | assumption))) rfl ?_
  refine RunL.ok (OpOk.fieldAddr fld111_2 rfl) rfl ?_
  refine RunL.ok (OpOk.load rfl rfl rfl (Blk.out Blk.pts _ _ (by first | rfl | assumption))) rfl ?_
  refine RunL.call cal46 rfl (s46 rd.left.left) rfl (fun vx3 Ax3 hx3 => ?_)
  obtain ⟨x4, ⟨rfl, rfl⟩⟩ := hx3
  refine RunL.ok (OpOk.assign rfl) rfl ?_
  refine RunL.nil ?_
  refine Run.seq ?_
  refine Run.seq ?_
  refine Run.region ?_
  refine RunL.ok (OpOk.fieldAddr fld111_0 rfl) rfl ?_
  refine RunL.ok (OpOk.load rfl rfl rfl (Blk.out Blk.pts.left _ _ (by first | rfl | assumption))) rfl ?_
  refine RunL.ok (OpOk.asF (OpOk.lss rfl rfl) (by omega)) rfl ?_
  refine RunL.ok (OpOk.move rfl) rfl ?_
  refine RunL.on rfl rfl ?_
  refine RunL.ok (OpOk.fieldAddr fld111_0 rfl) rfl ?_
  refine RunL.on rfl rfl ?_
  refine RunL.ok (OpOk.load rfl rfl rfl (Blk.out Blk.pts.left _ _ (by first | rfl | assumption))) rfl ?_
  refine RunL.on rfl rfl ?_
  refine RunL.ok (OpOk.asF (OpOk.gtr rfl rfl) (by omega)) rfl ?_
  refine RunL.ok (OpOk.pickF rfl rfl) rfl ?_
  refine RunL.ok (OpOk.move rfl) rfl ?_
  refine RunL.on rfl rfl ?_
  refine RunL.ok (OpOk.fieldAddr fld111_1 rfl) rfl ?_
  refine RunL.on rfl rfl ?_
  refine RunL.ok (OpOk.load rfl rfl rfl (Blk.out Blk.pts.left _ _ (by first | rfl | assumption))) rfl ?_
  refine RunL.on rfl rfl ?_
  refine RunL.ok (OpOk.asF (OpOk.lss rfl rfl) (by omega)) rfl ?_
  refine RunL.ok (OpOk.pickF rfl rfl) rfl ?_
  refine RunL.ok (OpOk.move rfl) rfl ?_
  refine RunL.on rfl rfl ?_
  refine RunL.ok (OpOk.fieldAddr fld111_1 rfl) rfl ?_
  refine RunL.on rfl rfl ?_
  refine RunL.ok (OpOk.load rfl rfl rfl (Blk.out Blk.pts.left _ _ (by first | rfl | assumption))) rfl ?_
  refine RunL.on rfl rfl ?_
  refine RunL.ok (OpOk.asF (OpOk.gtr rfl rfl) (by omega)) rfl ?_
  refine RunL.ok (OpOk.pickF rfl rfl) rfl ?_
  refine RunL.ok (OpOk.move rfl) rfl ?_
  refine RunL.on rfl rfl ?_
  refine RunL.ok (OpOk.fieldAddr fld111_2 rfl) rfl ?_
  refine RunL.on rfl rfl ?_
  refine RunL.ok (OpOk.load rfl rfl rfl (Blk.out Blk.pts.left _ _ (by first | rfl | assumption))) rfl ?_
  refine RunL.on rfl rfl ?_
  refine RunL.ok (OpOk.asF (OpOk.lss rfl rfl) (by omega)) rfl ?_
  refine RunL.ok (OpOk.pickF rfl rfl) rfl ?_
  refine RunL.ok (OpOk.move rfl) rfl ?_
  refine RunL.on rfl rfl ?_
  refine RunL.ok (OpOk.fieldAddr fld111_2 rfl) rfl ?_
  refine RunL.on rfl rfl ?_
  refine RunL.ok (OpOk.load rfl rfl rfl (Blk.out Blk.pts.left _ _ (by first | rfl | assumption))) rfl ?_
  refine RunL.on rfl rfl ?_
  refine RunL.ok (OpOk.asF (OpOk.gtr rfl rfl) (by omega)) rfl ?_
  refine RunL.ok (OpOk.pickF rfl rfl) rfl ?_
  refine RunL.nil ?_
  refine Run.condF rfl ?_
  refine Run.skip ?_
  refine Run.seq ?_
  refine Run.seq ?_
  refine Run.region ?_
  refine RunL.ok (OpOk.move rfl) rfl ?_
  refine RunL.ok (OpOk.lenR rfl rfl rdb.left.left.left rfl) rfl ?_
  refine RunL.ok (OpOk.asT (OpOk.gtr rfl rfl) (by omega)) rfl ?_
  refine RunL.nil ?_
  refine Run.condT rfl ?_
  refine Run.seq ?_
  refine Run.region ?_
  refine RunL.ok (OpOk.assign rfl) rfl ?_
  refine RunL.ok (OpOk.assign rfl) rfl ?_
  refine RunL.nil ?_
  refine Run.ret2 Try.func58 rfl rfl rfl ?_
  exact ⟨_, rfl, (asg (asg as1))⟩
theorem s58c (rd : Rd w0 A (.slice ad m cap) 4 m (Fl encT111 es)) (rdb : Rd w0 A u 1 n (B bs)) (hr : rightP (k, o, i, s)) (hn : n ≤ 64) (hat : atE o i es < 0) (hm : 5 ≤ m) :
    Spec Try.prog w0 58 [.agg #[.int .i64 a, .int .i64 b, .int .i64 q, .int .i64 c, .slice ad m cap], .agg #[.int .i64 k, .int .i64 o, .int .i64 i, .int .i64 s], u] A (fun v' A' => ∃ J, v' = .tuple #[.slice none 0 0, .int .i64 20] ∧ A' = A * J) := by
  have hl0 := rd.lenFl (fun _ => rfl) (by decide)
  subst hl0
  obtain ⟨r1, r2, r3, r4, r5, r6⟩ := hr
  dsimp only at r1 r2 r3 r4 r5 r6
  refine Spec.of_run [(0, .agg #[.int .i64 a, .int .i64 b, .int .i64 q, .int .i64 c, .slice ad es.length cap]), (1, .agg #[.int .i64 k, .int .i64 o, .int .i64 i, .int .i64 s]), (2, u)] Try.func58 rfl (Nat.le_of_ble_eq_true rfl) (by repeat (first | exact trivial | refine ⟨rfl, ?_⟩)) ?_
  refine Run.seq ?_
  refine Run.region ?_
  refine RunL.box rfl rfl (fun bx1 => ?_)
  refine RunL.box rfl rfl (fun bx2 => ?_)
  refine RunL.ok (OpOk.assign rfl) rfl ?_
  refine RunL.ok (OpOk.assign rfl) rfl ?_
  refine RunL.nil ?_
  refine Run.seq ?_
  refine Run.region ?_
  refine RunL.ok (OpOk.loadS rfl rfl ti89 rfl Blk.pts.left rfl) rfl ?_
  refine RunL.ok (OpOk.fieldAddr fld111_1 rfl) rfl ?_
  refine RunL.ok (OpOk.load rfl rfl rfl (Blk.out Blk.pts _ _ (by first | rfl | assumption))) rfl ?_
  refine RunL.ok (OpOk.fieldAddr fld111_2 rfl) rfl ?_
  refine RunL.ok (OpOk.load rfl rfl rfl (Blk.out Blk.pts _ _ (by first | rfl | assumption))) rfl ?_
  refine RunL.call cal46 rfl (s46 rd.left.left) rfl (fun vx3 Ax3 hx3 => ?_)
  obtain ⟨x4, ⟨rfl, rfl⟩⟩ := hx3
  refine RunL.ok (OpOk.assign rfl) rfl ?_
  refine RunL.nil ?_
  refine Run.seq ?_
  refine Run.seq ?_
  refine Run.region ?_
  refine RunL.ok (OpOk.fieldAddr fld111_0 rfl) rfl ?_
  refine RunL.ok (OpOk.load rfl rfl rfl (Blk.out Blk.pts.left _ _ (by first | rfl | assumption))) rfl ?_
  refine RunL.ok (OpOk.asF (OpOk.lss rfl rfl) (by omega)) rfl ?_
  refine RunL.ok (OpOk.move rfl) rfl ?_
  refine RunL.on rfl rfl ?_
  refine RunL.ok (OpOk.fieldAddr fld111_0 rfl) rfl ?_
  refine RunL.on rfl rfl ?_
  refine RunL.ok (OpOk.load rfl rfl rfl (Blk.out Blk.pts.left _ _ (by first | rfl | assumption))) rfl ?_
  refine RunL.on rfl rfl ?_
  refine RunL.ok (OpOk.asF (OpOk.gtr rfl rfl) (by omega)) rfl ?_
  refine RunL.ok (OpOk.pickF rfl rfl) rfl ?_
  refine RunL.ok (OpOk.move rfl) rfl ?_
  refine RunL.on rfl rfl ?_
  refine RunL.ok (OpOk.fieldAddr fld111_1 rfl) rfl ?_
  refine RunL.on rfl rfl ?_
  refine RunL.ok (OpOk.load rfl rfl rfl (Blk.out Blk.pts.left _ _ (by first | rfl | assumption))) rfl ?_
  refine RunL.on rfl rfl ?_
  refine RunL.ok (OpOk.asF (OpOk.lss rfl rfl) (by omega)) rfl ?_
  refine RunL.ok (OpOk.pickF rfl rfl) rfl ?_
  refine RunL.ok (OpOk.move rfl) rfl ?_
  refine RunL.on rfl rfl ?_
  refine RunL.ok (OpOk.fieldAddr fld111_1 rfl) rfl ?_
  refine RunL.on rfl rfl ?_
  refine RunL.ok (OpOk.load rfl rfl rfl (Blk.out Blk.pts.left _ _ (by first | rfl | assumption))) rfl ?_
  refine RunL.on rfl rfl ?_
  refine RunL.ok (OpOk.asF (OpOk.gtr rfl rfl) (by omega)) rfl ?_
  refine RunL.ok (OpOk.pickF rfl rfl) rfl ?_
  refine RunL.ok (OpOk.move rfl) rfl ?_
  refine RunL.on rfl rfl ?_
  refine RunL.ok (OpOk.fieldAddr fld111_2 rfl) rfl ?_
  refine RunL.on rfl rfl ?_
  refine RunL.ok (OpOk.load rfl rfl rfl (Blk.out Blk.pts.left _ _ (by first | rfl | assumption))) rfl ?_
  refine RunL.on rfl rfl ?_
  refine RunL.ok (OpOk.asF (OpOk.lss rfl rfl) (by omega)) rfl ?_
  refine RunL.ok (OpOk.pickF rfl rfl) rfl ?_
  refine RunL.ok (OpOk.move rfl) rfl ?_
  refine RunL.on rfl rfl ?_
  refine RunL.ok (OpOk.fieldAddr fld111_2 rfl) rfl ?_
  refine RunL.on rfl rfl ?_
  refine RunL.ok (OpOk.load rfl rfl rfl (Blk.out Blk.pts.left _ _ (by first | rfl | assumption))) rfl ?_
  refine RunL.on rfl rfl ?_
  refine RunL.ok (OpOk.asF (OpOk.gtr rfl rfl) (by omega)) rfl ?_
  refine RunL.ok (OpOk.pickF rfl rfl) rfl ?_
  refine RunL.nil ?_
  refine Run.condF rfl ?_
  refine Run.skip ?_
  refine Run.seq ?_
  refine Run.seq ?_
  refine Run.region ?_
  refine RunL.ok (OpOk.move rfl) rfl ?_
  refine RunL.ok (OpOk.lenR rfl rfl rdb.left.left.left rfl) rfl ?_
  refine RunL.ok (OpOk.asF (OpOk.gtr rfl rfl) (by omega)) rfl ?_
  refine RunL.nil ?_
  refine Run.condF rfl ?_
  refine Run.skip ?_
  refine Run.seq ?_
  refine Run.seq ?_
  refine Run.region ?_
  refine RunL.ok (OpOk.move rfl) rfl ?_
  refine RunL.ok (OpOk.asT (OpOk.lss rfl rfl) (by omega)) rfl ?_
  refine RunL.ok (OpOk.move rfl) rfl ?_
  refine RunL.on rfl rfl ?_
  refine RunL.ok (OpOk.fieldAddr fld89_4 rfl) rfl ?_
  refine RunL.on rfl rfl ?_
  refine RunL.ok (OpOk.load rfl rfl rfl (Blk.out Blk.pts.left.left _ _ (by first | rfl | assumption))) rfl ?_
  refine RunL.on rfl rfl ?_
  refine RunL.ok (OpOk.lenV rfl rfl rfl) rfl ?_
  refine RunL.on rfl rfl ?_
  refine RunL.ok (OpOk.asT (OpOk.geq rfl rfl) (by omega)) rfl ?_
  refine RunL.ok (OpOk.pickT rfl rfl) rfl ?_
  refine RunL.nil ?_
  refine Run.condT rfl ?_
  refine Run.seq ?_
  refine Run.region ?_
  refine RunL.ok (OpOk.assign rfl) rfl ?_
  refine RunL.ok (OpOk.assign rfl) rfl ?_
  refine RunL.nil ?_
  refine Run.ret2 Try.func58 rfl rfl rfl ?_
  exact ⟨_, rfl, (asg (asg as1))⟩
theorem s58d (rd : Rd w0 A (.slice ad m cap) 4 m (Fl encT111 es)) (rdb : Rd w0 A u 1 n (B bs)) (hr : rightP (k, o, i, s)) (hn : n ≤ 64) (hroom : roomP o i es) (hq : 65535 ≤ q) :
    Spec Try.prog w0 58 [.agg #[.int .i64 a, .int .i64 b, .int .i64 q, .int .i64 c, .slice ad m cap], .agg #[.int .i64 k, .int .i64 o, .int .i64 i, .int .i64 s], u] A (fun v' A' => ∃ J, v' = .tuple #[.slice none 0 0, .int .i64 29] ∧ A' = A * J) := by
  have hl0 := rd.lenFl (fun _ => rfl) (by decide)
  subst hl0
  obtain ⟨r1, r2, r3, r4, r5, r6⟩ := hr
  dsimp only at r1 r2 r3 r4 r5 r6
  refine Spec.of_run [(0, .agg #[.int .i64 a, .int .i64 b, .int .i64 q, .int .i64 c, .slice ad es.length cap]), (1, .agg #[.int .i64 k, .int .i64 o, .int .i64 i, .int .i64 s]), (2, u)] Try.func58 rfl (Nat.le_of_ble_eq_true rfl) (by repeat (first | exact trivial | refine ⟨rfl, ?_⟩)) ?_
  rcases hroom with hroom | hroom
  · refine Run.seq ?_
    refine Run.region ?_
    refine RunL.box rfl rfl (fun bx1 => ?_)
    refine RunL.box rfl rfl (fun bx2 => ?_)
    refine RunL.ok (OpOk.assign rfl) rfl ?_
    refine RunL.ok (OpOk.assign rfl) rfl ?_
    refine RunL.nil ?_
    refine Run.seq ?_
    refine Run.region ?_
    refine RunL.ok (OpOk.loadS rfl rfl ti89 rfl Blk.pts.left rfl) rfl ?_
    refine RunL.ok (OpOk.fieldAddr fld111_1 rfl) rfl ?_
    refine RunL.ok (OpOk.load rfl rfl rfl (Blk.out Blk.pts _ _ (by first | rfl | assumption))) rfl ?_
    refine RunL.ok (OpOk.fieldAddr fld111_2 rfl) rfl ?_
    refine RunL.ok (OpOk.load rfl rfl rfl (Blk.out Blk.pts _ _ (by first | rfl | assumption))) rfl ?_
    refine RunL.call cal46 rfl (s46 rd.left.left) rfl (fun vx3 Ax3 hx3 => ?_)
    obtain ⟨x4, ⟨rfl, rfl⟩⟩ := hx3
    refine RunL.ok (OpOk.assign rfl) rfl ?_
    refine RunL.nil ?_
    refine Run.seq ?_
    refine Run.seq ?_
    refine Run.region ?_
    refine RunL.ok (OpOk.fieldAddr fld111_0 rfl) rfl ?_
    refine RunL.ok (OpOk.load rfl rfl rfl (Blk.out Blk.pts.left _ _ (by first | rfl | assumption))) rfl ?_
    refine RunL.ok (OpOk.asF (OpOk.lss rfl rfl) (by omega)) rfl ?_
    refine RunL.ok (OpOk.move rfl) rfl ?_
    refine RunL.on rfl rfl ?_
    refine RunL.ok (OpOk.fieldAddr fld111_0 rfl) rfl ?_
    refine RunL.on rfl rfl ?_
    refine RunL.ok (OpOk.load rfl rfl rfl (Blk.out Blk.pts.left _ _ (by first | rfl | assumption))) rfl ?_
    refine RunL.on rfl rfl ?_
    refine RunL.ok (OpOk.asF (OpOk.gtr rfl rfl) (by omega)) rfl ?_
    refine RunL.ok (OpOk.pickF rfl rfl) rfl ?_
    refine RunL.ok (OpOk.move rfl) rfl ?_
    refine RunL.on rfl rfl ?_
    refine RunL.ok (OpOk.fieldAddr fld111_1 rfl) rfl ?_
    refine RunL.on rfl rfl ?_
    refine RunL.ok (OpOk.load rfl rfl rfl (Blk.out Blk.pts.left _ _ (by first | rfl | assumption))) rfl ?_
    refine RunL.on rfl rfl ?_
    refine RunL.ok (OpOk.asF (OpOk.lss rfl rfl) (by omega)) rfl ?_
    refine RunL.ok (OpOk.pickF rfl rfl) rfl ?_
    refine RunL.ok (OpOk.move rfl) rfl ?_
    refine RunL.on rfl rfl ?_
    refine RunL.ok (OpOk.fieldAddr fld111_1 rfl) rfl ?_
    refine RunL.on rfl rfl ?_
    refine RunL.ok (OpOk.load rfl rfl rfl (Blk.out Blk.pts.left _ _ (by first | rfl | assumption))) rfl ?_
    refine RunL.on rfl rfl ?_
    refine RunL.ok (OpOk.asF (OpOk.gtr rfl rfl) (by omega)) rfl ?_
    refine RunL.ok (OpOk.pickF rfl rfl) rfl ?_
    refine RunL.ok (OpOk.move rfl) rfl ?_
    refine RunL.on rfl rfl ?_
    refine RunL.ok (OpOk.fieldAddr fld111_2 rfl) rfl ?_
    refine RunL.on rfl rfl ?_
    refine RunL.ok (OpOk.load rfl rfl rfl (Blk.out Blk.pts.left _ _ (by first | rfl | assumption))) rfl ?_
    refine RunL.on rfl rfl ?_
    refine RunL.ok (OpOk.asF (OpOk.lss rfl rfl) (by omega)) rfl ?_
    refine RunL.ok (OpOk.pickF rfl rfl) rfl ?_
    refine RunL.ok (OpOk.move rfl) rfl ?_
    refine RunL.on rfl rfl ?_
    refine RunL.ok (OpOk.fieldAddr fld111_2 rfl) rfl ?_
    refine RunL.on rfl rfl ?_
    refine RunL.ok (OpOk.load rfl rfl rfl (Blk.out Blk.pts.left _ _ (by first | rfl | assumption))) rfl ?_
    refine RunL.on rfl rfl ?_
    refine RunL.ok (OpOk.asF (OpOk.gtr rfl rfl) (by omega)) rfl ?_
    refine RunL.ok (OpOk.pickF rfl rfl) rfl ?_
    refine RunL.nil ?_
    refine Run.condF rfl ?_
    refine Run.skip ?_
    refine Run.seq ?_
    refine Run.seq ?_
    refine Run.region ?_
    refine RunL.ok (OpOk.move rfl) rfl ?_
    refine RunL.ok (OpOk.lenR rfl rfl rdb.left.left.left rfl) rfl ?_
    refine RunL.ok (OpOk.asF (OpOk.gtr rfl rfl) (by omega)) rfl ?_
    refine RunL.nil ?_
    refine Run.condF rfl ?_
    refine Run.skip ?_
    refine Run.seq ?_
    refine Run.seq ?_
    refine Run.region ?_
    refine RunL.ok (OpOk.move rfl) rfl ?_
    refine RunL.ok (OpOk.asF (OpOk.lss rfl rfl) (by omega)) rfl ?_
    refine RunL.ok (OpOk.move rfl) rfl ?_
    refine RunL.off rfl rfl rfl rfl ?_
    refine RunL.off rfl rfl rfl rfl ?_
    refine RunL.off rfl rfl rfl rfl ?_
    refine RunL.off rfl rfl rfl rfl ?_
    refine RunL.ok (OpOk.pickF rfl rfl) rfl ?_
    refine RunL.nil ?_
    refine Run.condF rfl ?_
    refine Run.skip ?_
    refine Run.seq ?_
    refine Run.seq ?_
    refine Run.region ?_
    refine RunL.ok (OpOk.fieldAddr fld89_2 rfl) rfl ?_
    refine RunL.ok (OpOk.load rfl rfl rfl (Blk.out Blk.pts.left.left _ _ (by first | rfl | assumption))) rfl ?_
    refine RunL.ok (OpOk.asT (OpOk.geq rfl rfl) (by omega)) rfl ?_
    refine RunL.nil ?_
    refine Run.condT rfl ?_
    refine Run.seq ?_
    refine Run.region ?_
    refine RunL.ok (OpOk.assign rfl) rfl ?_
    refine RunL.ok (OpOk.assign rfl) rfl ?_
    refine RunL.nil ?_
    refine Run.ret2 Try.func58 rfl rfl rfl ?_
    exact ⟨_, rfl, (asg (asg as1))⟩
  · rcases Int.lt_or_le (atE o i es) 0 with hat | hat
    · refine Run.seq ?_
      refine Run.region ?_
      refine RunL.box rfl rfl (fun bx1 => ?_)
      refine RunL.box rfl rfl (fun bx2 => ?_)
      refine RunL.ok (OpOk.assign rfl) rfl ?_
      refine RunL.ok (OpOk.assign rfl) rfl ?_
      refine RunL.nil ?_
      refine Run.seq ?_
      refine Run.region ?_
      refine RunL.ok (OpOk.loadS rfl rfl ti89 rfl Blk.pts.left rfl) rfl ?_
      refine RunL.ok (OpOk.fieldAddr fld111_1 rfl) rfl ?_
      refine RunL.ok (OpOk.load rfl rfl rfl (Blk.out Blk.pts _ _ (by first | rfl | assumption))) rfl ?_
      refine RunL.ok (OpOk.fieldAddr fld111_2 rfl) rfl ?_
      refine RunL.ok (OpOk.load rfl rfl rfl (Blk.out Blk.pts _ _ (by first | rfl | assumption))) rfl ?_
      refine RunL.call cal46 rfl (s46 rd.left.left) rfl (fun vx3 Ax3 hx3 => ?_)
      obtain ⟨x4, ⟨rfl, rfl⟩⟩ := hx3
      refine RunL.ok (OpOk.assign rfl) rfl ?_
      refine RunL.nil ?_
      refine Run.seq ?_
      refine Run.seq ?_
      refine Run.region ?_
      refine RunL.ok (OpOk.fieldAddr fld111_0 rfl) rfl ?_
      refine RunL.ok (OpOk.load rfl rfl rfl (Blk.out Blk.pts.left _ _ (by first | rfl | assumption))) rfl ?_
      refine RunL.ok (OpOk.asF (OpOk.lss rfl rfl) (by omega)) rfl ?_
      refine RunL.ok (OpOk.move rfl) rfl ?_
      refine RunL.on rfl rfl ?_
      refine RunL.ok (OpOk.fieldAddr fld111_0 rfl) rfl ?_
      refine RunL.on rfl rfl ?_
      refine RunL.ok (OpOk.load rfl rfl rfl (Blk.out Blk.pts.left _ _ (by first | rfl | assumption))) rfl ?_
      refine RunL.on rfl rfl ?_
      refine RunL.ok (OpOk.asF (OpOk.gtr rfl rfl) (by omega)) rfl ?_
      refine RunL.ok (OpOk.pickF rfl rfl) rfl ?_
      refine RunL.ok (OpOk.move rfl) rfl ?_
      refine RunL.on rfl rfl ?_
      refine RunL.ok (OpOk.fieldAddr fld111_1 rfl) rfl ?_
      refine RunL.on rfl rfl ?_
      refine RunL.ok (OpOk.load rfl rfl rfl (Blk.out Blk.pts.left _ _ (by first | rfl | assumption))) rfl ?_
      refine RunL.on rfl rfl ?_
      refine RunL.ok (OpOk.asF (OpOk.lss rfl rfl) (by omega)) rfl ?_
      refine RunL.ok (OpOk.pickF rfl rfl) rfl ?_
      refine RunL.ok (OpOk.move rfl) rfl ?_
      refine RunL.on rfl rfl ?_
      refine RunL.ok (OpOk.fieldAddr fld111_1 rfl) rfl ?_
      refine RunL.on rfl rfl ?_
      refine RunL.ok (OpOk.load rfl rfl rfl (Blk.out Blk.pts.left _ _ (by first | rfl | assumption))) rfl ?_
      refine RunL.on rfl rfl ?_
      refine RunL.ok (OpOk.asF (OpOk.gtr rfl rfl) (by omega)) rfl ?_
      refine RunL.ok (OpOk.pickF rfl rfl) rfl ?_
      refine RunL.ok (OpOk.move rfl) rfl ?_
      refine RunL.on rfl rfl ?_
      refine RunL.ok (OpOk.fieldAddr fld111_2 rfl) rfl ?_
      refine RunL.on rfl rfl ?_
      refine RunL.ok (OpOk.load rfl rfl rfl (Blk.out Blk.pts.left _ _ (by first | rfl | assumption))) rfl ?_
      refine RunL.on rfl rfl ?_
      refine RunL.ok (OpOk.asF (OpOk.lss rfl rfl) (by omega)) rfl ?_
      refine RunL.ok (OpOk.pickF rfl rfl) rfl ?_
      refine RunL.ok (OpOk.move rfl) rfl ?_
      refine RunL.on rfl rfl ?_
      refine RunL.ok (OpOk.fieldAddr fld111_2 rfl) rfl ?_
      refine RunL.on rfl rfl ?_
      refine RunL.ok (OpOk.load rfl rfl rfl (Blk.out Blk.pts.left _ _ (by first | rfl | assumption))) rfl ?_
      refine RunL.on rfl rfl ?_
      refine RunL.ok (OpOk.asF (OpOk.gtr rfl rfl) (by omega)) rfl ?_
      refine RunL.ok (OpOk.pickF rfl rfl) rfl ?_
      refine RunL.nil ?_
      refine Run.condF rfl ?_
      refine Run.skip ?_
      refine Run.seq ?_
      refine Run.seq ?_
      refine Run.region ?_
      refine RunL.ok (OpOk.move rfl) rfl ?_
      refine RunL.ok (OpOk.lenR rfl rfl rdb.left.left.left rfl) rfl ?_
      refine RunL.ok (OpOk.asF (OpOk.gtr rfl rfl) (by omega)) rfl ?_
      refine RunL.nil ?_
      refine Run.condF rfl ?_
      refine Run.skip ?_
      refine Run.seq ?_
      refine Run.seq ?_
      refine Run.region ?_
      refine RunL.ok (OpOk.move rfl) rfl ?_
      refine RunL.ok (OpOk.asT (OpOk.lss rfl rfl) (by omega)) rfl ?_
      refine RunL.ok (OpOk.move rfl) rfl ?_
      refine RunL.on rfl rfl ?_
      refine RunL.ok (OpOk.fieldAddr fld89_4 rfl) rfl ?_
      refine RunL.on rfl rfl ?_
      refine RunL.ok (OpOk.load rfl rfl rfl (Blk.out Blk.pts.left.left _ _ (by first | rfl | assumption))) rfl ?_
      refine RunL.on rfl rfl ?_
      refine RunL.ok (OpOk.lenV rfl rfl rfl) rfl ?_
      refine RunL.on rfl rfl ?_
      refine RunL.ok (OpOk.asF (OpOk.geq rfl rfl) (by omega)) rfl ?_
      refine RunL.ok (OpOk.pickT rfl rfl) rfl ?_
      refine RunL.nil ?_
      refine Run.condF rfl ?_
      refine Run.skip ?_
      refine Run.seq ?_
      refine Run.seq ?_
      refine Run.region ?_
      refine RunL.ok (OpOk.fieldAddr fld89_2 rfl) rfl ?_
      refine RunL.ok (OpOk.load rfl rfl rfl (Blk.out Blk.pts.left.left _ _ (by first | rfl | assumption))) rfl ?_
      refine RunL.ok (OpOk.asT (OpOk.geq rfl rfl) (by omega)) rfl ?_
      refine RunL.nil ?_
      refine Run.condT rfl ?_
      refine Run.seq ?_
      refine Run.region ?_
      refine RunL.ok (OpOk.assign rfl) rfl ?_
      refine RunL.ok (OpOk.assign rfl) rfl ?_
      refine RunL.nil ?_
      refine Run.ret2 Try.func58 rfl rfl rfl ?_
      exact ⟨_, rfl, (asg (asg as1))⟩
    · refine Run.seq ?_
      refine Run.region ?_
      refine RunL.box rfl rfl (fun bx1 => ?_)
      refine RunL.box rfl rfl (fun bx2 => ?_)
      refine RunL.ok (OpOk.assign rfl) rfl ?_
      refine RunL.ok (OpOk.assign rfl) rfl ?_
      refine RunL.nil ?_
      refine Run.seq ?_
      refine Run.region ?_
      refine RunL.ok (OpOk.loadS rfl rfl ti89 rfl Blk.pts.left rfl) rfl ?_
      refine RunL.ok (OpOk.fieldAddr fld111_1 rfl) rfl ?_
      refine RunL.ok (OpOk.load rfl rfl rfl (Blk.out Blk.pts _ _ (by first | rfl | assumption))) rfl ?_
      refine RunL.ok (OpOk.fieldAddr fld111_2 rfl) rfl ?_
      refine RunL.ok (OpOk.load rfl rfl rfl (Blk.out Blk.pts _ _ (by first | rfl | assumption))) rfl ?_
      refine RunL.call cal46 rfl (s46 rd.left.left) rfl (fun vx3 Ax3 hx3 => ?_)
      obtain ⟨x4, ⟨rfl, rfl⟩⟩ := hx3
      refine RunL.ok (OpOk.assign rfl) rfl ?_
      refine RunL.nil ?_
      refine Run.seq ?_
      refine Run.seq ?_
      refine Run.region ?_
      refine RunL.ok (OpOk.fieldAddr fld111_0 rfl) rfl ?_
      refine RunL.ok (OpOk.load rfl rfl rfl (Blk.out Blk.pts.left _ _ (by first | rfl | assumption))) rfl ?_
      refine RunL.ok (OpOk.asF (OpOk.lss rfl rfl) (by omega)) rfl ?_
      refine RunL.ok (OpOk.move rfl) rfl ?_
      refine RunL.on rfl rfl ?_
      refine RunL.ok (OpOk.fieldAddr fld111_0 rfl) rfl ?_
      refine RunL.on rfl rfl ?_
      refine RunL.ok (OpOk.load rfl rfl rfl (Blk.out Blk.pts.left _ _ (by first | rfl | assumption))) rfl ?_
      refine RunL.on rfl rfl ?_
      refine RunL.ok (OpOk.asF (OpOk.gtr rfl rfl) (by omega)) rfl ?_
      refine RunL.ok (OpOk.pickF rfl rfl) rfl ?_
      refine RunL.ok (OpOk.move rfl) rfl ?_
      refine RunL.on rfl rfl ?_
      refine RunL.ok (OpOk.fieldAddr fld111_1 rfl) rfl ?_
      refine RunL.on rfl rfl ?_
      refine RunL.ok (OpOk.load rfl rfl rfl (Blk.out Blk.pts.left _ _ (by first | rfl | assumption))) rfl ?_
      refine RunL.on rfl rfl ?_
      refine RunL.ok (OpOk.asF (OpOk.lss rfl rfl) (by omega)) rfl ?_
      refine RunL.ok (OpOk.pickF rfl rfl) rfl ?_
      refine RunL.ok (OpOk.move rfl) rfl ?_
      refine RunL.on rfl rfl ?_
      refine RunL.ok (OpOk.fieldAddr fld111_1 rfl) rfl ?_
      refine RunL.on rfl rfl ?_
      refine RunL.ok (OpOk.load rfl rfl rfl (Blk.out Blk.pts.left _ _ (by first | rfl | assumption))) rfl ?_
      refine RunL.on rfl rfl ?_
      refine RunL.ok (OpOk.asF (OpOk.gtr rfl rfl) (by omega)) rfl ?_
      refine RunL.ok (OpOk.pickF rfl rfl) rfl ?_
      refine RunL.ok (OpOk.move rfl) rfl ?_
      refine RunL.on rfl rfl ?_
      refine RunL.ok (OpOk.fieldAddr fld111_2 rfl) rfl ?_
      refine RunL.on rfl rfl ?_
      refine RunL.ok (OpOk.load rfl rfl rfl (Blk.out Blk.pts.left _ _ (by first | rfl | assumption))) rfl ?_
      refine RunL.on rfl rfl ?_
      refine RunL.ok (OpOk.asF (OpOk.lss rfl rfl) (by omega)) rfl ?_
      refine RunL.ok (OpOk.pickF rfl rfl) rfl ?_
      refine RunL.ok (OpOk.move rfl) rfl ?_
      refine RunL.on rfl rfl ?_
      refine RunL.ok (OpOk.fieldAddr fld111_2 rfl) rfl ?_
      refine RunL.on rfl rfl ?_
      refine RunL.ok (OpOk.load rfl rfl rfl (Blk.out Blk.pts.left _ _ (by first | rfl | assumption))) rfl ?_
      refine RunL.on rfl rfl ?_
      refine RunL.ok (OpOk.asF (OpOk.gtr rfl rfl) (by omega)) rfl ?_
      refine RunL.ok (OpOk.pickF rfl rfl) rfl ?_
      refine RunL.nil ?_
      refine Run.condF rfl ?_
      refine Run.skip ?_
      refine Run.seq ?_
      refine Run.seq ?_
      refine Run.region ?_
      refine RunL.ok (OpOk.move rfl) rfl ?_
      refine RunL.ok (OpOk.lenR rfl rfl rdb.left.left.left rfl) rfl ?_
      refine RunL.ok (OpOk.asF (OpOk.gtr rfl rfl) (by omega)) rfl ?_
      refine RunL.nil ?_
      refine Run.condF rfl ?_
      refine Run.skip ?_
      refine Run.seq ?_
      refine Run.seq ?_
      refine Run.region ?_
      refine RunL.ok (OpOk.move rfl) rfl ?_
      refine RunL.ok (OpOk.asF (OpOk.lss rfl rfl) (by omega)) rfl ?_
      refine RunL.ok (OpOk.move rfl) rfl ?_
      refine RunL.off rfl rfl rfl rfl ?_
      refine RunL.off rfl rfl rfl rfl ?_
      refine RunL.off rfl rfl rfl rfl ?_
      refine RunL.off rfl rfl rfl rfl ?_
      refine RunL.ok (OpOk.pickF rfl rfl) rfl ?_
      refine RunL.nil ?_
      refine Run.condF rfl ?_
      refine Run.skip ?_
      refine Run.seq ?_
      refine Run.seq ?_
      refine Run.region ?_
      refine RunL.ok (OpOk.fieldAddr fld89_2 rfl) rfl ?_
      refine RunL.ok (OpOk.load rfl rfl rfl (Blk.out Blk.pts.left.left _ _ (by first | rfl | assumption))) rfl ?_
      refine RunL.ok (OpOk.asT (OpOk.geq rfl rfl) (by omega)) rfl ?_
      refine RunL.nil ?_
      refine Run.condT rfl ?_
      refine Run.seq ?_
      refine Run.region ?_
      refine RunL.ok (OpOk.assign rfl) rfl ?_
      refine RunL.ok (OpOk.assign rfl) rfl ?_
      refine RunL.nil ?_
      refine Run.ret2 Try.func58 rfl rfl rfl ?_
      exact ⟨_, rfl, (asg (asg as1))⟩
theorem s58e (rd : Rd w0 A (.slice ad m cap) 4 m (Fl encT111 es)) (rdb : Rd w0 A u 1 n (B bs)) (hr : rightP (k, o, i, s)) (hn : n ≤ 64) (hroom : roomP o i es) (hq : q < 65535) (hf : freeE es < 0) :
    Spec Try.prog w0 58 [.agg #[.int .i64 a, .int .i64 b, .int .i64 q, .int .i64 c, .slice ad m cap], .agg #[.int .i64 k, .int .i64 o, .int .i64 i, .int .i64 s], u] A (fun v' A' => ∃ J, v' = .tuple #[.slice none 0 0, .int .i64 21] ∧ A' = A * J) := by
  have hl0 := rd.lenFl (fun _ => rfl) (by decide)
  subst hl0
  obtain ⟨r1, r2, r3, r4, r5, r6⟩ := hr
  dsimp only at r1 r2 r3 r4 r5 r6
  refine Spec.of_run [(0, .agg #[.int .i64 a, .int .i64 b, .int .i64 q, .int .i64 c, .slice ad es.length cap]), (1, .agg #[.int .i64 k, .int .i64 o, .int .i64 i, .int .i64 s]), (2, u)] Try.func58 rfl (Nat.le_of_ble_eq_true rfl) (by repeat (first | exact trivial | refine ⟨rfl, ?_⟩)) ?_
  rcases hroom with hroom | hroom
  · refine Run.seq ?_
    refine Run.region ?_
    refine RunL.box rfl rfl (fun bx1 => ?_)
    refine RunL.box rfl rfl (fun bx2 => ?_)
    refine RunL.ok (OpOk.assign rfl) rfl ?_
    refine RunL.ok (OpOk.assign rfl) rfl ?_
    refine RunL.nil ?_
    refine Run.seq ?_
    refine Run.region ?_
    refine RunL.ok (OpOk.loadS rfl rfl ti89 rfl Blk.pts.left rfl) rfl ?_
    refine RunL.ok (OpOk.fieldAddr fld111_1 rfl) rfl ?_
    refine RunL.ok (OpOk.load rfl rfl rfl (Blk.out Blk.pts _ _ (by first | rfl | assumption))) rfl ?_
    refine RunL.ok (OpOk.fieldAddr fld111_2 rfl) rfl ?_
    refine RunL.ok (OpOk.load rfl rfl rfl (Blk.out Blk.pts _ _ (by first | rfl | assumption))) rfl ?_
    refine RunL.call cal46 rfl (s46 rd.left.left) rfl (fun vx3 Ax3 hx3 => ?_)
    obtain ⟨x4, ⟨rfl, rfl⟩⟩ := hx3
    refine RunL.ok (OpOk.assign rfl) rfl ?_
    refine RunL.nil ?_
    refine Run.seq ?_
    refine Run.seq ?_
    refine Run.region ?_
    refine RunL.ok (OpOk.fieldAddr fld111_0 rfl) rfl ?_
    refine RunL.ok (OpOk.load rfl rfl rfl (Blk.out Blk.pts.left _ _ (by first | rfl | assumption))) rfl ?_
    refine RunL.ok (OpOk.asF (OpOk.lss rfl rfl) (by omega)) rfl ?_
    refine RunL.ok (OpOk.move rfl) rfl ?_
    refine RunL.on rfl rfl ?_
    refine RunL.ok (OpOk.fieldAddr fld111_0 rfl) rfl ?_
    refine RunL.on rfl rfl ?_
    refine RunL.ok (OpOk.load rfl rfl rfl (Blk.out Blk.pts.left _ _ (by first | rfl | assumption))) rfl ?_
    refine RunL.on rfl rfl ?_
    refine RunL.ok (OpOk.asF (OpOk.gtr rfl rfl) (by omega)) rfl ?_
    refine RunL.ok (OpOk.pickF rfl rfl) rfl ?_
    refine RunL.ok (OpOk.move rfl) rfl ?_
    refine RunL.on rfl rfl ?_
    refine RunL.ok (OpOk.fieldAddr fld111_1 rfl) rfl ?_
    refine RunL.on rfl rfl ?_
    refine RunL.ok (OpOk.load rfl rfl rfl (Blk.out Blk.pts.left _ _ (by first | rfl | assumption))) rfl ?_
    refine RunL.on rfl rfl ?_
    refine RunL.ok (OpOk.asF (OpOk.lss rfl rfl) (by omega)) rfl ?_
    refine RunL.ok (OpOk.pickF rfl rfl) rfl ?_
    refine RunL.ok (OpOk.move rfl) rfl ?_
    refine RunL.on rfl rfl ?_
    refine RunL.ok (OpOk.fieldAddr fld111_1 rfl) rfl ?_
    refine RunL.on rfl rfl ?_
    refine RunL.ok (OpOk.load rfl rfl rfl (Blk.out Blk.pts.left _ _ (by first | rfl | assumption))) rfl ?_
    refine RunL.on rfl rfl ?_
    refine RunL.ok (OpOk.asF (OpOk.gtr rfl rfl) (by omega)) rfl ?_
    refine RunL.ok (OpOk.pickF rfl rfl) rfl ?_
    refine RunL.ok (OpOk.move rfl) rfl ?_
    refine RunL.on rfl rfl ?_
    refine RunL.ok (OpOk.fieldAddr fld111_2 rfl) rfl ?_
    refine RunL.on rfl rfl ?_
    refine RunL.ok (OpOk.load rfl rfl rfl (Blk.out Blk.pts.left _ _ (by first | rfl | assumption))) rfl ?_
    refine RunL.on rfl rfl ?_
    refine RunL.ok (OpOk.asF (OpOk.lss rfl rfl) (by omega)) rfl ?_
    refine RunL.ok (OpOk.pickF rfl rfl) rfl ?_
    refine RunL.ok (OpOk.move rfl) rfl ?_
    refine RunL.on rfl rfl ?_
    refine RunL.ok (OpOk.fieldAddr fld111_2 rfl) rfl ?_
    refine RunL.on rfl rfl ?_
    refine RunL.ok (OpOk.load rfl rfl rfl (Blk.out Blk.pts.left _ _ (by first | rfl | assumption))) rfl ?_
    refine RunL.on rfl rfl ?_
    refine RunL.ok (OpOk.asF (OpOk.gtr rfl rfl) (by omega)) rfl ?_
    refine RunL.ok (OpOk.pickF rfl rfl) rfl ?_
    refine RunL.nil ?_
    refine Run.condF rfl ?_
    refine Run.skip ?_
    refine Run.seq ?_
    refine Run.seq ?_
    refine Run.region ?_
    refine RunL.ok (OpOk.move rfl) rfl ?_
    refine RunL.ok (OpOk.lenR rfl rfl rdb.left.left.left rfl) rfl ?_
    refine RunL.ok (OpOk.asF (OpOk.gtr rfl rfl) (by omega)) rfl ?_
    refine RunL.nil ?_
    refine Run.condF rfl ?_
    refine Run.skip ?_
    refine Run.seq ?_
    refine Run.seq ?_
    refine Run.region ?_
    refine RunL.ok (OpOk.move rfl) rfl ?_
    refine RunL.ok (OpOk.asF (OpOk.lss rfl rfl) (by omega)) rfl ?_
    refine RunL.ok (OpOk.move rfl) rfl ?_
    refine RunL.off rfl rfl rfl rfl ?_
    refine RunL.off rfl rfl rfl rfl ?_
    refine RunL.off rfl rfl rfl rfl ?_
    refine RunL.off rfl rfl rfl rfl ?_
    refine RunL.ok (OpOk.pickF rfl rfl) rfl ?_
    refine RunL.nil ?_
    refine Run.condF rfl ?_
    refine Run.skip ?_
    refine Run.seq ?_
    refine Run.seq ?_
    refine Run.region ?_
    refine RunL.ok (OpOk.fieldAddr fld89_2 rfl) rfl ?_
    refine RunL.ok (OpOk.load rfl rfl rfl (Blk.out Blk.pts.left.left _ _ (by first | rfl | assumption))) rfl ?_
    refine RunL.ok (OpOk.asF (OpOk.geq rfl rfl) (by omega)) rfl ?_
    refine RunL.nil ?_
    refine Run.condF rfl ?_
    refine Run.skip ?_
    refine Run.seq ?_
    refine Run.region ?_
    refine RunL.ok (OpOk.loadS rfl rfl ti89 rfl Blk.pts.left.left rfl) rfl ?_
    refine RunL.call cal48 rfl (s48 rd.left.left.left) rfl (fun vx5 Ax5 hx5 => ?_)
    obtain ⟨x6, ⟨rfl, rfl⟩⟩ := hx5
    refine RunL.ok (OpOk.assign rfl) rfl ?_
    refine RunL.nil ?_
    refine Run.seq ?_
    refine Run.seq ?_
    refine Run.region ?_
    refine RunL.ok (OpOk.move rfl) rfl ?_
    refine RunL.ok (OpOk.asT (OpOk.lss rfl rfl) (by omega)) rfl ?_
    refine RunL.nil ?_
    refine Run.condT rfl ?_
    refine Run.seq ?_
    refine Run.region ?_
    refine RunL.ok (OpOk.assign rfl) rfl ?_
    refine RunL.ok (OpOk.assign rfl) rfl ?_
    refine RunL.nil ?_
    refine Run.ret2 Try.func58 rfl rfl rfl ?_
    exact ⟨_, rfl, (asg (asg (asg as1)))⟩
  · rcases Int.lt_or_le (atE o i es) 0 with hat | hat
    · refine Run.seq ?_
      refine Run.region ?_
      refine RunL.box rfl rfl (fun bx1 => ?_)
      refine RunL.box rfl rfl (fun bx2 => ?_)
      refine RunL.ok (OpOk.assign rfl) rfl ?_
      refine RunL.ok (OpOk.assign rfl) rfl ?_
      refine RunL.nil ?_
      refine Run.seq ?_
      refine Run.region ?_
      refine RunL.ok (OpOk.loadS rfl rfl ti89 rfl Blk.pts.left rfl) rfl ?_
      refine RunL.ok (OpOk.fieldAddr fld111_1 rfl) rfl ?_
      refine RunL.ok (OpOk.load rfl rfl rfl (Blk.out Blk.pts _ _ (by first | rfl | assumption))) rfl ?_
      refine RunL.ok (OpOk.fieldAddr fld111_2 rfl) rfl ?_
      refine RunL.ok (OpOk.load rfl rfl rfl (Blk.out Blk.pts _ _ (by first | rfl | assumption))) rfl ?_
      refine RunL.call cal46 rfl (s46 rd.left.left) rfl (fun vx3 Ax3 hx3 => ?_)
      obtain ⟨x4, ⟨rfl, rfl⟩⟩ := hx3
      refine RunL.ok (OpOk.assign rfl) rfl ?_
      refine RunL.nil ?_
      refine Run.seq ?_
      refine Run.seq ?_
      refine Run.region ?_
      refine RunL.ok (OpOk.fieldAddr fld111_0 rfl) rfl ?_
      refine RunL.ok (OpOk.load rfl rfl rfl (Blk.out Blk.pts.left _ _ (by first | rfl | assumption))) rfl ?_
      refine RunL.ok (OpOk.asF (OpOk.lss rfl rfl) (by omega)) rfl ?_
      refine RunL.ok (OpOk.move rfl) rfl ?_
      refine RunL.on rfl rfl ?_
      refine RunL.ok (OpOk.fieldAddr fld111_0 rfl) rfl ?_
      refine RunL.on rfl rfl ?_
      refine RunL.ok (OpOk.load rfl rfl rfl (Blk.out Blk.pts.left _ _ (by first | rfl | assumption))) rfl ?_
      refine RunL.on rfl rfl ?_
      refine RunL.ok (OpOk.asF (OpOk.gtr rfl rfl) (by omega)) rfl ?_
      refine RunL.ok (OpOk.pickF rfl rfl) rfl ?_
      refine RunL.ok (OpOk.move rfl) rfl ?_
      refine RunL.on rfl rfl ?_
      refine RunL.ok (OpOk.fieldAddr fld111_1 rfl) rfl ?_
      refine RunL.on rfl rfl ?_
      refine RunL.ok (OpOk.load rfl rfl rfl (Blk.out Blk.pts.left _ _ (by first | rfl | assumption))) rfl ?_
      refine RunL.on rfl rfl ?_
      refine RunL.ok (OpOk.asF (OpOk.lss rfl rfl) (by omega)) rfl ?_
      refine RunL.ok (OpOk.pickF rfl rfl) rfl ?_
      refine RunL.ok (OpOk.move rfl) rfl ?_
      refine RunL.on rfl rfl ?_
      refine RunL.ok (OpOk.fieldAddr fld111_1 rfl) rfl ?_
      refine RunL.on rfl rfl ?_
      refine RunL.ok (OpOk.load rfl rfl rfl (Blk.out Blk.pts.left _ _ (by first | rfl | assumption))) rfl ?_
      refine RunL.on rfl rfl ?_
      refine RunL.ok (OpOk.asF (OpOk.gtr rfl rfl) (by omega)) rfl ?_
      refine RunL.ok (OpOk.pickF rfl rfl) rfl ?_
      refine RunL.ok (OpOk.move rfl) rfl ?_
      refine RunL.on rfl rfl ?_
      refine RunL.ok (OpOk.fieldAddr fld111_2 rfl) rfl ?_
      refine RunL.on rfl rfl ?_
      refine RunL.ok (OpOk.load rfl rfl rfl (Blk.out Blk.pts.left _ _ (by first | rfl | assumption))) rfl ?_
      refine RunL.on rfl rfl ?_
      refine RunL.ok (OpOk.asF (OpOk.lss rfl rfl) (by omega)) rfl ?_
      refine RunL.ok (OpOk.pickF rfl rfl) rfl ?_
      refine RunL.ok (OpOk.move rfl) rfl ?_
      refine RunL.on rfl rfl ?_
      refine RunL.ok (OpOk.fieldAddr fld111_2 rfl) rfl ?_
      refine RunL.on rfl rfl ?_
      refine RunL.ok (OpOk.load rfl rfl rfl (Blk.out Blk.pts.left _ _ (by first | rfl | assumption))) rfl ?_
      refine RunL.on rfl rfl ?_
      refine RunL.ok (OpOk.asF (OpOk.gtr rfl rfl) (by omega)) rfl ?_
      refine RunL.ok (OpOk.pickF rfl rfl) rfl ?_
      refine RunL.nil ?_
      refine Run.condF rfl ?_
      refine Run.skip ?_
      refine Run.seq ?_
      refine Run.seq ?_
      refine Run.region ?_
      refine RunL.ok (OpOk.move rfl) rfl ?_
      refine RunL.ok (OpOk.lenR rfl rfl rdb.left.left.left rfl) rfl ?_
      refine RunL.ok (OpOk.asF (OpOk.gtr rfl rfl) (by omega)) rfl ?_
      refine RunL.nil ?_
      refine Run.condF rfl ?_
      refine Run.skip ?_
      refine Run.seq ?_
      refine Run.seq ?_
      refine Run.region ?_
      refine RunL.ok (OpOk.move rfl) rfl ?_
      refine RunL.ok (OpOk.asT (OpOk.lss rfl rfl) (by omega)) rfl ?_
      refine RunL.ok (OpOk.move rfl) rfl ?_
      refine RunL.on rfl rfl ?_
      refine RunL.ok (OpOk.fieldAddr fld89_4 rfl) rfl ?_
      refine RunL.on rfl rfl ?_
      refine RunL.ok (OpOk.load rfl rfl rfl (Blk.out Blk.pts.left.left _ _ (by first | rfl | assumption))) rfl ?_
      refine RunL.on rfl rfl ?_
      refine RunL.ok (OpOk.lenV rfl rfl rfl) rfl ?_
      refine RunL.on rfl rfl ?_
      refine RunL.ok (OpOk.asF (OpOk.geq rfl rfl) (by omega)) rfl ?_
      refine RunL.ok (OpOk.pickT rfl rfl) rfl ?_
      refine RunL.nil ?_
      refine Run.condF rfl ?_
      refine Run.skip ?_
      refine Run.seq ?_
      refine Run.seq ?_
      refine Run.region ?_
      refine RunL.ok (OpOk.fieldAddr fld89_2 rfl) rfl ?_
      refine RunL.ok (OpOk.load rfl rfl rfl (Blk.out Blk.pts.left.left _ _ (by first | rfl | assumption))) rfl ?_
      refine RunL.ok (OpOk.asF (OpOk.geq rfl rfl) (by omega)) rfl ?_
      refine RunL.nil ?_
      refine Run.condF rfl ?_
      refine Run.skip ?_
      refine Run.seq ?_
      refine Run.region ?_
      refine RunL.ok (OpOk.loadS rfl rfl ti89 rfl Blk.pts.left.left rfl) rfl ?_
      refine RunL.call cal48 rfl (s48 rd.left.left.left) rfl (fun vx5 Ax5 hx5 => ?_)
      obtain ⟨x6, ⟨rfl, rfl⟩⟩ := hx5
      refine RunL.ok (OpOk.assign rfl) rfl ?_
      refine RunL.nil ?_
      refine Run.seq ?_
      refine Run.seq ?_
      refine Run.region ?_
      refine RunL.ok (OpOk.move rfl) rfl ?_
      refine RunL.ok (OpOk.asT (OpOk.lss rfl rfl) (by omega)) rfl ?_
      refine RunL.nil ?_
      refine Run.condT rfl ?_
      refine Run.seq ?_
      refine Run.region ?_
      refine RunL.ok (OpOk.assign rfl) rfl ?_
      refine RunL.ok (OpOk.assign rfl) rfl ?_
      refine RunL.nil ?_
      refine Run.ret2 Try.func58 rfl rfl rfl ?_
      exact ⟨_, rfl, (asg (asg (asg as1)))⟩
    · refine Run.seq ?_
      refine Run.region ?_
      refine RunL.box rfl rfl (fun bx1 => ?_)
      refine RunL.box rfl rfl (fun bx2 => ?_)
      refine RunL.ok (OpOk.assign rfl) rfl ?_
      refine RunL.ok (OpOk.assign rfl) rfl ?_
      refine RunL.nil ?_
      refine Run.seq ?_
      refine Run.region ?_
      refine RunL.ok (OpOk.loadS rfl rfl ti89 rfl Blk.pts.left rfl) rfl ?_
      refine RunL.ok (OpOk.fieldAddr fld111_1 rfl) rfl ?_
      refine RunL.ok (OpOk.load rfl rfl rfl (Blk.out Blk.pts _ _ (by first | rfl | assumption))) rfl ?_
      refine RunL.ok (OpOk.fieldAddr fld111_2 rfl) rfl ?_
      refine RunL.ok (OpOk.load rfl rfl rfl (Blk.out Blk.pts _ _ (by first | rfl | assumption))) rfl ?_
      refine RunL.call cal46 rfl (s46 rd.left.left) rfl (fun vx3 Ax3 hx3 => ?_)
      obtain ⟨x4, ⟨rfl, rfl⟩⟩ := hx3
      refine RunL.ok (OpOk.assign rfl) rfl ?_
      refine RunL.nil ?_
      refine Run.seq ?_
      refine Run.seq ?_
      refine Run.region ?_
      refine RunL.ok (OpOk.fieldAddr fld111_0 rfl) rfl ?_
      refine RunL.ok (OpOk.load rfl rfl rfl (Blk.out Blk.pts.left _ _ (by first | rfl | assumption))) rfl ?_
      refine RunL.ok (OpOk.asF (OpOk.lss rfl rfl) (by omega)) rfl ?_
      refine RunL.ok (OpOk.move rfl) rfl ?_
      refine RunL.on rfl rfl ?_
      refine RunL.ok (OpOk.fieldAddr fld111_0 rfl) rfl ?_
      refine RunL.on rfl rfl ?_
      refine RunL.ok (OpOk.load rfl rfl rfl (Blk.out Blk.pts.left _ _ (by first | rfl | assumption))) rfl ?_
      refine RunL.on rfl rfl ?_
      refine RunL.ok (OpOk.asF (OpOk.gtr rfl rfl) (by omega)) rfl ?_
      refine RunL.ok (OpOk.pickF rfl rfl) rfl ?_
      refine RunL.ok (OpOk.move rfl) rfl ?_
      refine RunL.on rfl rfl ?_
      refine RunL.ok (OpOk.fieldAddr fld111_1 rfl) rfl ?_
      refine RunL.on rfl rfl ?_
      refine RunL.ok (OpOk.load rfl rfl rfl (Blk.out Blk.pts.left _ _ (by first | rfl | assumption))) rfl ?_
      refine RunL.on rfl rfl ?_
      refine RunL.ok (OpOk.asF (OpOk.lss rfl rfl) (by omega)) rfl ?_
      refine RunL.ok (OpOk.pickF rfl rfl) rfl ?_
      refine RunL.ok (OpOk.move rfl) rfl ?_
      refine RunL.on rfl rfl ?_
      refine RunL.ok (OpOk.fieldAddr fld111_1 rfl) rfl ?_
      refine RunL.on rfl rfl ?_
      refine RunL.ok (OpOk.load rfl rfl rfl (Blk.out Blk.pts.left _ _ (by first | rfl | assumption))) rfl ?_
      refine RunL.on rfl rfl ?_
      refine RunL.ok (OpOk.asF (OpOk.gtr rfl rfl) (by omega)) rfl ?_
      refine RunL.ok (OpOk.pickF rfl rfl) rfl ?_
      refine RunL.ok (OpOk.move rfl) rfl ?_
      refine RunL.on rfl rfl ?_
      refine RunL.ok (OpOk.fieldAddr fld111_2 rfl) rfl ?_
      refine RunL.on rfl rfl ?_
      refine RunL.ok (OpOk.load rfl rfl rfl (Blk.out Blk.pts.left _ _ (by first | rfl | assumption))) rfl ?_
      refine RunL.on rfl rfl ?_
      refine RunL.ok (OpOk.asF (OpOk.lss rfl rfl) (by omega)) rfl ?_
      refine RunL.ok (OpOk.pickF rfl rfl) rfl ?_
      refine RunL.ok (OpOk.move rfl) rfl ?_
      refine RunL.on rfl rfl ?_
      refine RunL.ok (OpOk.fieldAddr fld111_2 rfl) rfl ?_
      refine RunL.on rfl rfl ?_
      refine RunL.ok (OpOk.load rfl rfl rfl (Blk.out Blk.pts.left _ _ (by first | rfl | assumption))) rfl ?_
      refine RunL.on rfl rfl ?_
      refine RunL.ok (OpOk.asF (OpOk.gtr rfl rfl) (by omega)) rfl ?_
      refine RunL.ok (OpOk.pickF rfl rfl) rfl ?_
      refine RunL.nil ?_
      refine Run.condF rfl ?_
      refine Run.skip ?_
      refine Run.seq ?_
      refine Run.seq ?_
      refine Run.region ?_
      refine RunL.ok (OpOk.move rfl) rfl ?_
      refine RunL.ok (OpOk.lenR rfl rfl rdb.left.left.left rfl) rfl ?_
      refine RunL.ok (OpOk.asF (OpOk.gtr rfl rfl) (by omega)) rfl ?_
      refine RunL.nil ?_
      refine Run.condF rfl ?_
      refine Run.skip ?_
      refine Run.seq ?_
      refine Run.seq ?_
      refine Run.region ?_
      refine RunL.ok (OpOk.move rfl) rfl ?_
      refine RunL.ok (OpOk.asF (OpOk.lss rfl rfl) (by omega)) rfl ?_
      refine RunL.ok (OpOk.move rfl) rfl ?_
      refine RunL.off rfl rfl rfl rfl ?_
      refine RunL.off rfl rfl rfl rfl ?_
      refine RunL.off rfl rfl rfl rfl ?_
      refine RunL.off rfl rfl rfl rfl ?_
      refine RunL.ok (OpOk.pickF rfl rfl) rfl ?_
      refine RunL.nil ?_
      refine Run.condF rfl ?_
      refine Run.skip ?_
      refine Run.seq ?_
      refine Run.seq ?_
      refine Run.region ?_
      refine RunL.ok (OpOk.fieldAddr fld89_2 rfl) rfl ?_
      refine RunL.ok (OpOk.load rfl rfl rfl (Blk.out Blk.pts.left.left _ _ (by first | rfl | assumption))) rfl ?_
      refine RunL.ok (OpOk.asF (OpOk.geq rfl rfl) (by omega)) rfl ?_
      refine RunL.nil ?_
      refine Run.condF rfl ?_
      refine Run.skip ?_
      refine Run.seq ?_
      refine Run.region ?_
      refine RunL.ok (OpOk.loadS rfl rfl ti89 rfl Blk.pts.left.left rfl) rfl ?_
      refine RunL.call cal48 rfl (s48 rd.left.left.left) rfl (fun vx5 Ax5 hx5 => ?_)
      obtain ⟨x6, ⟨rfl, rfl⟩⟩ := hx5
      refine RunL.ok (OpOk.assign rfl) rfl ?_
      refine RunL.nil ?_
      refine Run.seq ?_
      refine Run.seq ?_
      refine Run.region ?_
      refine RunL.ok (OpOk.move rfl) rfl ?_
      refine RunL.ok (OpOk.asT (OpOk.lss rfl rfl) (by omega)) rfl ?_
      refine RunL.nil ?_
      refine Run.condT rfl ?_
      refine Run.seq ?_
      refine Run.region ?_
      refine RunL.ok (OpOk.assign rfl) rfl ?_
      refine RunL.ok (OpOk.assign rfl) rfl ?_
      refine RunL.nil ?_
      refine Run.ret2 Try.func58 rfl rfl rfl ?_
      exact ⟨_, rfl, (asg (asg (asg as1)))⟩
theorem stores_new {cn j : Nat} (rd : Rd w0 A (.slice ad m cap) 4 m (Fl encT111 es)) (rdb : Rd w0 A u 1 n (B bs)) (hr : rightP (k, o, i, (f : Int))) (hn : n ≤ 64) (hat : atE o i es < 0) (hm : m < 5) (hq0 : 0 ≤ q) (hq : q < 65535) (hf : freeE es = (f : Int)) (hf6 : f < 6) (hes : ∀ e ∈ es, okE e) (hc3 : cn ≤ 3) :
    Spec Try.prog w0 58 [.agg #[.int .i64 a, .int .i64 b, .int .i64 q, .int .i64 (cn : Int), .slice ad m cap], .agg #[.int .i64 k, .int .i64 o, .int .i64 i, .int .i64 s], u] A (fun v' A' => ∃ v adx capx ady capy J, v' = .tuple #[v, .int .i64 0] ∧ A' = A * J * own 5 1 (.slice adx 64 capx) 64 (B (full64 bs)) * own 5 1 (.slice ady 32 capy) 32 (B (sectB (listB (q + 1) (es ++ [(k, o, i, (f : Int))])))) * own 104 2 v 3 (Fl encT104 (rows3 f (3 - cn) bs (sectB (listB (q + 1) (es ++ [(k, o, i, (f : Int))]))) adx capx ady capy))) := by
  have hl0 := rd.lenFl (fun _ => rfl) (by decide)
  subst hl0
  have hl1 := rdb.lenB
  subst hl1
  have hmx := rdb.max
  have hes2 : ∀ e ∈ es ++ [(k, o, i, (f : Int))], okE e := okE_snoc hes hr hf6
  have hm5 : es.length + 1 ≤ 5 := hm
  have hr2 := hr
  obtain ⟨r1, r2, r3, r4, r5, r6⟩ := hr2
  dsimp only at r1 r2 r3 r4 r5 r6
  have rw_f := hf
  have hll : (listB (q + 1) (es ++ [(k, o, i, (f : Int))])).length ≤ 30 := by
    rw [listB_len]
    simp only [List.length_append, List.length_set, List.length_cons, List.length_nil]
    omega
  refine Spec.of_run [(0, .agg #[.int .i64 a, .int .i64 b, .int .i64 q, .int .i64 (cn : Int), .slice ad es.length cap]), (1, .agg #[.int .i64 k, .int .i64 o, .int .i64 i, .int .i64 s]), (2, u)] Try.func58 rfl (Nat.le_of_ble_eq_true rfl) (by repeat (first | exact trivial | refine ⟨rfl, ?_⟩)) ?_
  refine Run.seq ?_
  refine Run.region ?_
  refine RunL.box rfl rfl (fun bx1 => ?_)
  refine RunL.box rfl rfl (fun bx2 => ?_)
  refine RunL.ok (OpOk.assign rfl) rfl ?_
  refine RunL.ok (OpOk.assign rfl) rfl ?_
  refine RunL.nil ?_
  refine Run.seq ?_
  refine Run.region ?_
  refine RunL.ok (OpOk.loadS rfl rfl ti89 rfl Blk.pts.left rfl) rfl ?_
  refine RunL.ok (OpOk.fieldAddr fld111_1 rfl) rfl ?_
  refine RunL.ok (OpOk.load rfl rfl rfl (Blk.out Blk.pts _ _ (by first | rfl | assumption))) rfl ?_
  refine RunL.ok (OpOk.fieldAddr fld111_2 rfl) rfl ?_
  refine RunL.ok (OpOk.load rfl rfl rfl (Blk.out Blk.pts _ _ (by first | rfl | assumption))) rfl ?_
  refine RunL.call cal46 rfl (s46 rd.left.left) rfl (fun vx3 Ax3 hx3 => ?_)
  obtain ⟨x4, ⟨rfl, rfl⟩⟩ := hx3
  refine RunL.ok (OpOk.assign rfl) rfl ?_
  refine RunL.nil ?_
  refine Run.seq ?_
  refine Run.seq ?_
  refine Run.region ?_
  refine RunL.ok (OpOk.fieldAddr fld111_0 rfl) rfl ?_
  refine RunL.ok (OpOk.load rfl rfl rfl (Blk.out Blk.pts.left _ _ (by first | rfl | assumption))) rfl ?_
  refine RunL.ok (OpOk.asF (OpOk.lss rfl rfl) (by omega)) rfl ?_
  refine RunL.ok (OpOk.move rfl) rfl ?_
  refine RunL.on rfl rfl ?_
  refine RunL.ok (OpOk.fieldAddr fld111_0 rfl) rfl ?_
  refine RunL.on rfl rfl ?_
  refine RunL.ok (OpOk.load rfl rfl rfl (Blk.out Blk.pts.left _ _ (by first | rfl | assumption))) rfl ?_
  refine RunL.on rfl rfl ?_
  refine RunL.ok (OpOk.asF (OpOk.gtr rfl rfl) (by omega)) rfl ?_
  refine RunL.ok (OpOk.pickF rfl rfl) rfl ?_
  refine RunL.ok (OpOk.move rfl) rfl ?_
  refine RunL.on rfl rfl ?_
  refine RunL.ok (OpOk.fieldAddr fld111_1 rfl) rfl ?_
  refine RunL.on rfl rfl ?_
  refine RunL.ok (OpOk.load rfl rfl rfl (Blk.out Blk.pts.left _ _ (by first | rfl | assumption))) rfl ?_
  refine RunL.on rfl rfl ?_
  refine RunL.ok (OpOk.asF (OpOk.lss rfl rfl) (by omega)) rfl ?_
  refine RunL.ok (OpOk.pickF rfl rfl) rfl ?_
  refine RunL.ok (OpOk.move rfl) rfl ?_
  refine RunL.on rfl rfl ?_
  refine RunL.ok (OpOk.fieldAddr fld111_1 rfl) rfl ?_
  refine RunL.on rfl rfl ?_
  refine RunL.ok (OpOk.load rfl rfl rfl (Blk.out Blk.pts.left _ _ (by first | rfl | assumption))) rfl ?_
  refine RunL.on rfl rfl ?_
  refine RunL.ok (OpOk.asF (OpOk.gtr rfl rfl) (by omega)) rfl ?_
  refine RunL.ok (OpOk.pickF rfl rfl) rfl ?_
  refine RunL.ok (OpOk.move rfl) rfl ?_
  refine RunL.on rfl rfl ?_
  refine RunL.ok (OpOk.fieldAddr fld111_2 rfl) rfl ?_
  refine RunL.on rfl rfl ?_
  refine RunL.ok (OpOk.load rfl rfl rfl (Blk.out Blk.pts.left _ _ (by first | rfl | assumption))) rfl ?_
  refine RunL.on rfl rfl ?_
  refine RunL.ok (OpOk.asF (OpOk.lss rfl rfl) (by omega)) rfl ?_
  refine RunL.ok (OpOk.pickF rfl rfl) rfl ?_
  refine RunL.ok (OpOk.move rfl) rfl ?_
  refine RunL.on rfl rfl ?_
  refine RunL.ok (OpOk.fieldAddr fld111_2 rfl) rfl ?_
  refine RunL.on rfl rfl ?_
  refine RunL.ok (OpOk.load rfl rfl rfl (Blk.out Blk.pts.left _ _ (by first | rfl | assumption))) rfl ?_
  refine RunL.on rfl rfl ?_
  refine RunL.ok (OpOk.asF (OpOk.gtr rfl rfl) (by omega)) rfl ?_
  refine RunL.ok (OpOk.pickF rfl rfl) rfl ?_
  refine RunL.nil ?_
  refine Run.condF rfl ?_
  refine Run.skip ?_
  refine Run.seq ?_
  refine Run.seq ?_
  refine Run.region ?_
  refine RunL.ok (OpOk.move rfl) rfl ?_
  refine RunL.ok (OpOk.lenR rfl rfl rdb.left.left.left rfl) rfl ?_
  refine RunL.ok (OpOk.asF (OpOk.gtr rfl rfl) (by omega)) rfl ?_
  refine RunL.nil ?_
  refine Run.condF rfl ?_
  refine Run.skip ?_
  refine Run.seq ?_
  refine Run.seq ?_
  refine Run.region ?_
  refine RunL.ok (OpOk.move rfl) rfl ?_
  refine RunL.ok (OpOk.asT (OpOk.lss rfl rfl) (by omega)) rfl ?_
  refine RunL.ok (OpOk.move rfl) rfl ?_
  refine RunL.on rfl rfl ?_
  refine RunL.ok (OpOk.fieldAddr fld89_4 rfl) rfl ?_
  refine RunL.on rfl rfl ?_
  refine RunL.ok (OpOk.load rfl rfl rfl (Blk.out Blk.pts.left.left _ _ (by first | rfl | assumption))) rfl ?_
  refine RunL.on rfl rfl ?_
  refine RunL.ok (OpOk.lenV rfl rfl rfl) rfl ?_
  refine RunL.on rfl rfl ?_
  refine RunL.ok (OpOk.asF (OpOk.geq rfl rfl) (by omega)) rfl ?_
  refine RunL.ok (OpOk.pickT rfl rfl) rfl ?_
  refine RunL.nil ?_
  refine Run.condF rfl ?_
  refine Run.skip ?_
  refine Run.seq ?_
  refine Run.seq ?_
  refine Run.region ?_
  refine RunL.ok (OpOk.fieldAddr fld89_2 rfl) rfl ?_
  refine RunL.ok (OpOk.load rfl rfl rfl (Blk.out Blk.pts.left.left _ _ (by first | rfl | assumption))) rfl ?_
  refine RunL.ok (OpOk.asF (OpOk.geq rfl rfl) (by omega)) rfl ?_
  refine RunL.nil ?_
  refine Run.condF rfl ?_
  refine Run.skip ?_
  refine Run.seq ?_
  refine Run.region ?_
  refine RunL.ok (OpOk.loadS rfl rfl ti89 rfl Blk.pts.left.left rfl) rfl ?_
  refine RunL.call cal48 rfl (s48 rd.left.left.left) rfl (fun vx5 Ax5 hx5 => ?_)
  obtain ⟨x6, ⟨rfl, rfl⟩⟩ := hx5
  refine RunL.ok (OpOk.assign rfl) rfl ?_
  refine RunL.nil ?_
  refine Run.seq ?_
  refine Run.seq ?_
  rw [rw_f]
  refine Run.region ?_
  refine RunL.ok (OpOk.move rfl) rfl ?_
  refine RunL.ok (OpOk.asF (OpOk.lss rfl rfl) (by omega)) rfl ?_
  refine RunL.nil ?_
  refine Run.condF rfl ?_
  refine Run.skip ?_
  refine Run.seq ?_
  refine Run.region ?_
  refine RunL.ok (OpOk.move rfl) rfl ?_
  refine RunL.ok (OpOk.fieldAddr fld111_3 rfl) rfl ?_
  refine RunL.store ti3 rfl rfl rfl (frl (frl rfl)) (by exact Nat.le_of_ble_eq_true rfl) (.inl rfl) ?_
  refine RunL.nil ?_
  refine Run.seq ?_
  refine Run.region ?_
  refine RunL.makeB (m := 64) rfl ti5 rfl rfl (by omega) rfl (fun vx7 rdx7 => ?_)
  refine RunL.ok (OpOk.assign rfl) rfl ?_
  refine RunL.nil ?_
  refine Run.seq ?_
  refine Run.seq ?_
  refine Run.region ?_
  refine RunL.ok (OpOk.assign rfl) rfl ?_
  refine RunL.nil ?_
  refine Run.block ?_
  refine Run.jump ((Run.loopJ (X := Nat) (fun x => [(11, .int .i64 (x : Int)), (10, vx7), (9, .int .i64 (f : Int)), (8, .int .i64 (atE o i es)), (4, .pointer (some ⟨bx2, 0, none⟩)), (3, .pointer (some ⟨bx1, 0, none⟩)), (2, u)]) (fun x => A * x4 * x6 * pts bx1 (.cells #[.int .i64 a, .int .i64 b, .int .i64 q, .int .i64 (cn : Int), .slice ad es.length cap] 89 (0, 0)) * pts bx2 (.cells #[.int .i64 k, .int .i64 o, .int .i64 i, .int .i64 (f : Int)] 111 (0, 0)) * own 5 1 vx7 64 (B (bs.take x ++ List.replicate (64 - x) 0))) (fun x => x ≤ bs.length) (fun x => bs.length - x) 0 (Nat.zero_le _) (fun x hx ih => ?_))) ⟨rfl, rfl, rfl, rfl, rfl, rfl, rfl, trivial⟩ (Grew.of (frc rfl (frc rfl (frc (frl (frl rfl)) rfl))) (Grew.refl _))
  rcases Nat.lt_or_ge x bs.length with hlt | hge
  · have hst : (bs.take x ++ List.replicate (64 - x) 0).set x (bs.getD x 0) = bs.take (x + 1) ++ List.replicate (64 - (x + 1)) 0 := by
      rw [List.set_append_right _ _ (by rw [List.length_take]; omega), List.length_take, show x - min x bs.length = 0 by omega, take_next hlt, show 64 - x = (64 - (x + 1)) + 1 by omega, List.replicate_succ, List.set_cons_zero, List.append_assoc]
      rfl
    refine Run.seq ?_
    refine Run.seq ?_
    refine Run.region ?_
    refine RunL.ok (OpOk.move rfl) rfl ?_
    refine RunL.ok (OpOk.move rfl) rfl ?_
    refine RunL.ok (OpOk.lenR rfl rfl rdb.left.left.left.left.left rfl) rfl ?_
    refine RunL.ok (OpOk.asT (OpOk.lss rfl rfl) (by omega)) rfl ?_
    refine RunL.nil ?_
    refine Run.condT rfl ?_
    refine Run.skip ?_
    refine Run.seq ?_
    refine Run.block ?_
    refine Run.region ?_
    refine RunL.ok (OpOk.move rfl) rfl ?_
    refine RunL.ok (OpOk.move rfl) rfl ?_
    refine RunL.ok (OpOk.move rfl) rfl ?_
    refine RunL.ok (OpOk.move rfl) rfl ?_
    refine RunL.ok (OpOk.idx1N rfl ti5 rfl rdb.left.left.left.left.left rfl (by omega)) rfl ?_
    refine RunL.ok (OpOk.load rfl rfl rfl (Rd.getB rdb.left.left.left.left.left (by omega))) rfl ?_
    refine RunL.know (fun w s => (s.conv rfl).ownRd0) (fun rdy1 => ?_)
    refine RunL.ok (OpOk.idx1N rfl ti5 rfl (Rd.right rdy1) rfl (by omega)) rfl ?_
    refine RunL.storeB _ ti5 rfl rfl rfl rfl (by omega) ?_
    refine RunL.nil ?_
    refine Run.inBlock ?_
    refine Run.region ?_
    refine RunL.ok (OpOk.move rfl) rfl ?_
    refine RunL.ok (OpOk.addN _ 1 rfl rfl rfl rfl (by omega)) rfl ?_
    refine RunL.ok (OpOk.assign rfl) rfl ?_
    refine RunL.nil ?_
    rw [hst]
    refine Run.jump ((ih (x + 1) (by omega) (by omega))) ⟨rfl, rfl, rfl, rfl, rfl, rfl, rfl, trivial⟩ ((Grew.refl _))
  · obtain rfl : x = bs.length := by omega
    clear ih
    rw [List.take_length, ← full64]
    refine Run.know (fun w s => s.ownRd0) (fun rd3 => ?_)
    obtain ⟨adx, capx, rfl, _, _⟩ := rd3.form
    have rdc := rd3.cutB0 (j := 32) (by omega)
    have rdd := rd3.cutB (i := 32) (j := 64) (by omega) (by omega)
    refine Run.seq ?_
    refine Run.seq ?_
    refine Run.region ?_
    refine RunL.ok (OpOk.move rfl) rfl ?_
    refine RunL.ok (OpOk.move rfl) rfl ?_
    refine RunL.ok (OpOk.lenR rfl rfl rdb.left.left.left.left.left rfl) rfl ?_
    refine RunL.ok (OpOk.asF (OpOk.lss rfl rfl) (by omega)) rfl ?_
    refine RunL.nil ?_
    refine Run.condF rfl ?_
    refine Run.exit rfl ?_
    refine Run.seq ?_
    refine Run.region ?_
    refine RunL.ok (OpOk.assign rfl) rfl ?_
    refine RunL.nil ?_
    refine Run.seq ?_
    refine Run.region ?_
    refine RunL.ok (OpOk.move rfl) rfl ?_
    refine RunL.ok (OpOk.fieldAddr fld89_4 rfl) rfl ?_
    refine RunL.ok (OpOk.load rfl rfl rfl (Blk.out Blk.pts.left.left _ _ (by first | rfl | assumption))) rfl ?_
    refine RunL.ent (Ent.ownNil' _ 111 4 [] rfl) ?_
    refine RunL.appendF0 rfl ti111 rfl rfl rfl rfl rd.left.left.left.left.left.left rfl (by decide) (by omega) (by simp only [maxLen]; omega) rfl (fun vy1 rdy1 => ?_)
    refine RunL.ok (OpOk.assign rfl) rfl ?_
    refine RunL.nil ?_
    refine Run.seq ?_
    refine Run.seq ?_
    refine Run.region ?_
    refine RunL.ok (OpOk.move rfl) rfl ?_
    refine RunL.ok (OpOk.asT (OpOk.lss rfl rfl) (by omega)) rfl ?_
    refine RunL.nil ?_
    refine Run.condT rfl ?_
    refine Run.region ?_
    refine RunL.ok (OpOk.move rfl) rfl ?_
    refine RunL.ok (OpOk.loadS rfl rfl ti111 rfl Blk.pts.left.left rfl) rfl ?_
    refine RunL.litFl (enc := encT111) [(k, (o, (i, ↑f)))] rfl ti111 rfl (fun _ => rfl) rfl rfl (by decide) (by decide) rfl (fun vy2 rdy2 => ?_)
    refine RunL.know (fun w s => (s.conv rfl).ownRd0) (fun rdy4 => ?_)
    refine RunL.appendF rfl ti111 rfl rfl rfl (frl rfl) (Rd.right rdy4) rfl (by decide) (by omega) (by simp only [maxLen]; omega) rfl (fun vy3 rdy3 => ?_)
    refine RunL.ok (OpOk.assign rfl) rfl ?_
    refine RunL.nil ?_
    refine Run.seq ?_
    refine Run.know (fun w s => (s.conv rfl).ownRd0) (fun rdy5 => ?_)
    (apply Run.drawD [] (by rfl) (sep_emp _).symm; case hchk => kernel_rfl)
    refine Sd.quiet 0 _ _ rfl rfl rfl rfl rfl (QOp.ok (fun X => OpOk.move rfl)) ?_
    refine Sd.quiet 1 _ _ rfl rfl rfl rfl rfl (QOp.ok (fun X => OpOk.mulN 2 _ rfl rfl rfl rfl (by omega))) ?_
    refine Sd.quiet 2 _ _ rfl rfl rfl rfl rfl (QOp.ok (fun X => OpOk.addN 3 _ rfl rfl rfl rfl (by omega))) ?_
    refine Sd.quiet 3 _ _ rfl rfl rfl rfl rfl (QOp.ok (fun X => OpOk.move rfl)) ?_
    refine Sd.quiet 4 _ _ rfl rfl rfl rfl rfl (QOp.ok (fun X => OpOk.cut (j := 32) rfl ti5 rfl (Rd.right rd3).left.left.left.left rfl ⟨_, rfl⟩ (by omega) (by omega))) ?_
    refine Sd.quiet 5 _ _ rfl rfl rfl rfl rfl (QOp.ok (fun X => OpOk.build (cells := #[.int (IntKind.i64) (↑(3 + 2 * f)), .slice (if capx = 0 then adx else Option.map (fun x => x.add (0 * 1)) adx) (32 - 0) (capx - 0)]) rfl (fun w => run_build w 104 _ _ (by rfl)))) ?_
    refine Sd.quiet 6 _ _ rfl rfl rfl rfl rfl (QOp.ok (fun X => OpOk.move rfl)) ?_
    refine Sd.quiet 7 _ _ rfl rfl rfl rfl rfl (QOp.ok (fun X => OpOk.mulN 2 _ rfl rfl rfl rfl (by omega))) ?_
    refine Sd.quiet 8 _ _ rfl rfl rfl rfl rfl (QOp.ok (fun X => OpOk.addN 4 _ rfl rfl rfl rfl (by omega))) ?_
    refine Sd.quiet 9 _ _ rfl rfl rfl rfl rfl (QOp.ok (fun X => OpOk.move rfl)) ?_
    refine Sd.quiet 10 _ _ rfl rfl rfl rfl rfl (QOp.ok (fun X => OpOk.cut (i := 32) rfl ti5 rfl (Rd.right rd3).left.left.left.left ⟨_, rfl⟩ rfl (by omega) (by omega))) ?_
    refine Sd.quiet 11 _ _ rfl rfl rfl rfl rfl (QOp.ok (fun X => OpOk.build (cells := #[.int (IntKind.i64) (↑(4 + 2 * f)), .slice (if capx = 32 then adx else Option.map (fun x => x.add (32 * 1)) adx) (64 - 32) (capx - 32)]) rfl (fun w => run_build w 104 _ _ (by rfl)))) ?_
    refine Sd.quiet 12 _ _ rfl rfl rfl rfl rfl (QOp.ok (fun X => OpOk.fieldAddr fld89_3 rfl)) ?_
    refine Sd.quiet 13 _ _ rfl rfl rfl rfl rfl (QOp.ok (fun X => OpOk.load rfl rfl rfl (Blk.out Blk.pts.left.left.left.left.left.left _ _ (by first | rfl | assumption)))) ?_
    refine Sd.quiet 14 _ _ rfl rfl rfl rfl rfl (QOp.ok (fun X => OpOk.subN 3 _ rfl rfl rfl rfl (by omega) (by omega))) ?_
    refine Sd.quiet 15 _ _ rfl rfl rfl rfl rfl (QOp.ok (fun X => OpOk.fieldAddr fld89_2 rfl)) ?_
    refine Sd.quiet 16 _ _ rfl rfl rfl rfl rfl (QOp.ok (fun X => OpOk.load rfl rfl rfl (Blk.out Blk.pts.left.left.left.left.left.left _ _ (by first | rfl | assumption)))) ?_
    refine Sd.quiet 17 _ _ rfl rfl rfl rfl rfl (QOp.ok (fun X => OpOk.add rfl rfl (wrapI (by omega) (by omega)))) ?_
    refine Sd.quiet 18 _ _ rfl rfl rfl rfl rfl (QOp.ok (fun X => OpOk.move rfl)) ?_
    refine Sd.quiet 24 _ _ rfl rfl rfl rfl rfl (QOp.ok (fun X => OpOk.assign rfl)) ?_
    (refine Sd.exec 19 rfl rfl rfl rfl rfl ?hrest (by rfl) (fun Xy6 Ky6 hKy6 => ?_); case hrest => kernel_rfl)
    refine RunL.mem (fl2 (sep_emp _) (sep_emp _)) ?_
    refine RunL.call cal53 rfl (s53 (Rd.right rdy5).left (by omega) (by assumption) (by omega) (by assumption)) rfl (fun vy7 Ay7 hy7 => ?_)
    obtain ⟨y8, rfl⟩ := hy7
    refine RunL.know (fun w s => (s.conv rfl).ownRd0) (fun rdy9 => ?_)
    refine Sd.ret hKy6 (Eq.trans rfl (gp2 (sep_emp _).symm (asg rfl))) ⟨_, (emp_sep _).symm⟩ ?_
    (refine Sd.exec 20 rfl rfl rfl rfl rfl ?hrest (by rfl) (fun Xy10 Ky10 hKy10 => ?_); case hrest => kernel_rfl)
    refine RunL.mem (fl2 (flS rfl) (sep_emp _)) ?_
    refine RunL.call cal52 rfl (s52a (Rd.right rdy9) (by omega)) rfl (fun vy11 Ay11 hy11 => ?_)
    obtain ⟨y12, ⟨y13, ⟨y14, ⟨rfl, rfl⟩⟩⟩⟩ := hy11
    refine RunL.know (fun w s => (s.conv rfl).ownRd0) (fun rdy15 => ?_)
    refine Sd.ret hKy10 (Eq.trans rfl (gp2 (sep_emp _).symm (asg (asg (asg rfl))))) ⟨_, (asg rfl)⟩ ?_
    refine Sd.quiet 21 _ _ rfl rfl rfl rfl rfl (QOp.ok (fun X => OpOk.build (cells := #[.int (IntKind.i64) (↑(3 - cn)), .slice (y12) (32) (y13)]) rfl (fun w => run_build w 104 _ _ (by rfl)))) ?_
    (refine Sd.exec 22 rfl rfl rfl rfl rfl ?hrest (by rfl) (fun Xy16 Ky16 hKy16 => ?_); case hrest => kernel_rfl)
    refine RunL.mem (fl2 (flS (flS (flS rfl))) (sep_emp _)) ?_
    refine RunL.litFl (enc := encT104) (rows3 f (3 - cn) bs (sectB (listB (q + 1) (es ++ [(k, o, i, (f : Int))]))) adx capx y12 y13) rfl ti104 rfl (fun _ => rfl) rfl rfl (by decide) (by decide) rfl (fun vr rdr => ?_)
    refine RunL.know (fun w s => (s.conv rfl).ownRd0) (fun rdz1 => ?_)
    refine Sd.ret hKy16 (Eq.trans rfl (gp2 (sep_emp _).symm (asg (asg (asg (asg rfl)))))) ⟨_, rfl⟩ ?_
    refine Sd.quiet 23 _ _ rfl rfl rfl rfl rfl (QOp.ok (fun X => OpOk.assign rfl)) ?_
    (apply Sd.tail; case hall => kernel_rfl)
    refine RunL.mem (fl2 (flS (flS (flS (flS rfl)))) (sep_emp _)) ?_
    refine RunL.nil ?_
    refine Run.ret2 Try.func58 rfl rfl rfl ?_
    exact ⟨_, _, _, _, _, _, rfl, (Eq.trans (frc rfl (frc rfl (frc (frl (frl (frl (frl (frl rfl))))) rfl))) (congrArg (· * _) (congrArg (· * _) (congrArg (· * _) (asg (asg (asg (asg (asg (asg (asg (asg as1))))))))))))⟩
theorem stores_old {cn j : Nat} (rd : Rd w0 A (.slice ad m cap) 4 m (Fl encT111 es)) (rdb : Rd w0 A u 1 n (B bs)) (hr : rightP (k, o, i, (f : Int))) (hn : n ≤ 64) (hat : atE o i es = (j : Int)) (hjm : j < m) (hm : m ≤ 5) (hq0 : 0 ≤ q) (hq : q < 65535) (hf : freeE es = (f : Int)) (hf6 : f < 6) (hes : ∀ e ∈ es, okE e) (hc3 : cn ≤ 3) :
    Spec Try.prog w0 58 [.agg #[.int .i64 a, .int .i64 b, .int .i64 q, .int .i64 (cn : Int), .slice ad m cap], .agg #[.int .i64 k, .int .i64 o, .int .i64 i, .int .i64 s], u] A (fun v' A' => ∃ v adx capx ady capy J, v' = .tuple #[v, .int .i64 0] ∧ A' = A * J * own 5 1 (.slice adx 64 capx) 64 (B (full64 bs)) * own 5 1 (.slice ady 32 capy) 32 (B (sectB (listB (q + 1) (es.set j (k, o, i, (f : Int)))))) * own 104 2 v 3 (Fl encT104 (rows3 f (3 - cn) bs (sectB (listB (q + 1) (es.set j (k, o, i, (f : Int))))) adx capx ady capy))) := by
  have hl0 := rd.lenFl (fun _ => rfl) (by decide)
  subst hl0
  have hl1 := rdb.lenB
  subst hl1
  have hmx := rdb.max
  have rw_j := hat
  have hes2 : ∀ e ∈ es.set j (k, o, i, (f : Int)), okE e := okE_set hes hr hf6
  have hr2 := hr
  obtain ⟨r1, r2, r3, r4, r5, r6⟩ := hr2
  dsimp only at r1 r2 r3 r4 r5 r6
  have rw_f := hf
  have hll : (listB (q + 1) (es.set j (k, o, i, (f : Int)))).length ≤ 30 := by
    rw [listB_len]
    simp only [List.length_append, List.length_set, List.length_cons, List.length_nil]
    omega
  refine Spec.of_run [(0, .agg #[.int .i64 a, .int .i64 b, .int .i64 q, .int .i64 (cn : Int), .slice ad es.length cap]), (1, .agg #[.int .i64 k, .int .i64 o, .int .i64 i, .int .i64 s]), (2, u)] Try.func58 rfl (Nat.le_of_ble_eq_true rfl) (by repeat (first | exact trivial | refine ⟨rfl, ?_⟩)) ?_
  refine Run.seq ?_
  refine Run.region ?_
  refine RunL.box rfl rfl (fun bx1 => ?_)
  refine RunL.box rfl rfl (fun bx2 => ?_)
  refine RunL.ok (OpOk.assign rfl) rfl ?_
  refine RunL.ok (OpOk.assign rfl) rfl ?_
  refine RunL.nil ?_
  refine Run.seq ?_
  refine Run.region ?_
  refine RunL.ok (OpOk.loadS rfl rfl ti89 rfl Blk.pts.left rfl) rfl ?_
  refine RunL.ok (OpOk.fieldAddr fld111_1 rfl) rfl ?_
  refine RunL.ok (OpOk.load rfl rfl rfl (Blk.out Blk.pts _ _ (by first | rfl | assumption))) rfl ?_
  refine RunL.ok (OpOk.fieldAddr fld111_2 rfl) rfl ?_
  refine RunL.ok (OpOk.load rfl rfl rfl (Blk.out Blk.pts _ _ (by first | rfl | assumption))) rfl ?_
  refine RunL.call cal46 rfl (s46 rd.left.left) rfl (fun vx3 Ax3 hx3 => ?_)
  obtain ⟨x4, ⟨rfl, rfl⟩⟩ := hx3
  refine RunL.ok (OpOk.assign rfl) rfl ?_
  refine RunL.nil ?_
  refine Run.seq ?_
  refine Run.seq ?_
  rw [rw_j]
  refine Run.region ?_
  refine RunL.ok (OpOk.fieldAddr fld111_0 rfl) rfl ?_
  refine RunL.ok (OpOk.load rfl rfl rfl (Blk.out Blk.pts.left _ _ (by first | rfl | assumption))) rfl ?_
  refine RunL.ok (OpOk.asF (OpOk.lss rfl rfl) (by omega)) rfl ?_
  refine RunL.ok (OpOk.move rfl) rfl ?_
  refine RunL.on rfl rfl ?_
  refine RunL.ok (OpOk.fieldAddr fld111_0 rfl) rfl ?_
  refine RunL.on rfl rfl ?_
  refine RunL.ok (OpOk.load rfl rfl rfl (Blk.out Blk.pts.left _ _ (by first | rfl | assumption))) rfl ?_
  refine RunL.on rfl rfl ?_
  refine RunL.ok (OpOk.asF (OpOk.gtr rfl rfl) (by omega)) rfl ?_
  refine RunL.ok (OpOk.pickF rfl rfl) rfl ?_
  refine RunL.ok (OpOk.move rfl) rfl ?_
  refine RunL.on rfl rfl ?_
  refine RunL.ok (OpOk.fieldAddr fld111_1 rfl) rfl ?_
  refine RunL.on rfl rfl ?_
  refine RunL.ok (OpOk.load rfl rfl rfl (Blk.out Blk.pts.left _ _ (by first | rfl | assumption))) rfl ?_
  refine RunL.on rfl rfl ?_
  refine RunL.ok (OpOk.asF (OpOk.lss rfl rfl) (by omega)) rfl ?_
  refine RunL.ok (OpOk.pickF rfl rfl) rfl ?_
  refine RunL.ok (OpOk.move rfl) rfl ?_
  refine RunL.on rfl rfl ?_
  refine RunL.ok (OpOk.fieldAddr fld111_1 rfl) rfl ?_
  refine RunL.on rfl rfl ?_
  refine RunL.ok (OpOk.load rfl rfl rfl (Blk.out Blk.pts.left _ _ (by first | rfl | assumption))) rfl ?_
  refine RunL.on rfl rfl ?_
  refine RunL.ok (OpOk.asF (OpOk.gtr rfl rfl) (by omega)) rfl ?_
  refine RunL.ok (OpOk.pickF rfl rfl) rfl ?_
  refine RunL.ok (OpOk.move rfl) rfl ?_
  refine RunL.on rfl rfl ?_
  refine RunL.ok (OpOk.fieldAddr fld111_2 rfl) rfl ?_
  refine RunL.on rfl rfl ?_
  refine RunL.ok (OpOk.load rfl rfl rfl (Blk.out Blk.pts.left _ _ (by first | rfl | assumption))) rfl ?_
  refine RunL.on rfl rfl ?_
  refine RunL.ok (OpOk.asF (OpOk.lss rfl rfl) (by omega)) rfl ?_
  refine RunL.ok (OpOk.pickF rfl rfl) rfl ?_
  refine RunL.ok (OpOk.move rfl) rfl ?_
  refine RunL.on rfl rfl ?_
  refine RunL.ok (OpOk.fieldAddr fld111_2 rfl) rfl ?_
  refine RunL.on rfl rfl ?_
  refine RunL.ok (OpOk.load rfl rfl rfl (Blk.out Blk.pts.left _ _ (by first | rfl | assumption))) rfl ?_
  refine RunL.on rfl rfl ?_
  refine RunL.ok (OpOk.asF (OpOk.gtr rfl rfl) (by omega)) rfl ?_
  refine RunL.ok (OpOk.pickF rfl rfl) rfl ?_
  refine RunL.nil ?_
  refine Run.condF rfl ?_
  refine Run.skip ?_
  refine Run.seq ?_
  refine Run.seq ?_
  refine Run.region ?_
  refine RunL.ok (OpOk.move rfl) rfl ?_
  refine RunL.ok (OpOk.lenR rfl rfl rdb.left.left.left rfl) rfl ?_
  refine RunL.ok (OpOk.asF (OpOk.gtr rfl rfl) (by omega)) rfl ?_
  refine RunL.nil ?_
  refine Run.condF rfl ?_
  refine Run.skip ?_
  refine Run.seq ?_
  refine Run.seq ?_
  refine Run.region ?_
  refine RunL.ok (OpOk.move rfl) rfl ?_
  refine RunL.ok (OpOk.asF (OpOk.lss rfl rfl) (by omega)) rfl ?_
  refine RunL.ok (OpOk.move rfl) rfl ?_
  refine RunL.off rfl rfl rfl rfl ?_
  refine RunL.off rfl rfl rfl rfl ?_
  refine RunL.off rfl rfl rfl rfl ?_
  refine RunL.off rfl rfl rfl rfl ?_
  refine RunL.ok (OpOk.pickF rfl rfl) rfl ?_
  refine RunL.nil ?_
  refine Run.condF rfl ?_
  refine Run.skip ?_
  refine Run.seq ?_
  refine Run.seq ?_
  refine Run.region ?_
  refine RunL.ok (OpOk.fieldAddr fld89_2 rfl) rfl ?_
  refine RunL.ok (OpOk.load rfl rfl rfl (Blk.out Blk.pts.left.left _ _ (by first | rfl | assumption))) rfl ?_
  refine RunL.ok (OpOk.asF (OpOk.geq rfl rfl) (by omega)) rfl ?_
  refine RunL.nil ?_
  refine Run.condF rfl ?_
  refine Run.skip ?_
  refine Run.seq ?_
  refine Run.region ?_
  refine RunL.ok (OpOk.loadS rfl rfl ti89 rfl Blk.pts.left.left rfl) rfl ?_
  refine RunL.call cal48 rfl (s48 rd.left.left.left) rfl (fun vx5 Ax5 hx5 => ?_)
  obtain ⟨x6, ⟨rfl, rfl⟩⟩ := hx5
  refine RunL.ok (OpOk.assign rfl) rfl ?_
  refine RunL.nil ?_
  refine Run.seq ?_
  refine Run.seq ?_
  rw [rw_f]
  refine Run.region ?_
  refine RunL.ok (OpOk.move rfl) rfl ?_
  refine RunL.ok (OpOk.asF (OpOk.lss rfl rfl) (by omega)) rfl ?_
  refine RunL.nil ?_
  refine Run.condF rfl ?_
  refine Run.skip ?_
  refine Run.seq ?_
  refine Run.region ?_
  refine RunL.ok (OpOk.move rfl) rfl ?_
  refine RunL.ok (OpOk.fieldAddr fld111_3 rfl) rfl ?_
  refine RunL.store ti3 rfl rfl rfl (frl (frl rfl)) (by exact Nat.le_of_ble_eq_true rfl) (.inl rfl) ?_
  refine RunL.nil ?_
  refine Run.seq ?_
  refine Run.region ?_
  refine RunL.makeB (m := 64) rfl ti5 rfl rfl (by omega) rfl (fun vx7 rdx7 => ?_)
  refine RunL.ok (OpOk.assign rfl) rfl ?_
  refine RunL.nil ?_
  refine Run.seq ?_
  refine Run.seq ?_
  refine Run.region ?_
  refine RunL.ok (OpOk.assign rfl) rfl ?_
  refine RunL.nil ?_
  refine Run.block ?_
  refine Run.jump ((Run.loopJ (X := Nat) (fun x => [(11, .int .i64 (x : Int)), (10, vx7), (9, .int .i64 (f : Int)), (8, .int .i64 ((j : Int))), (4, .pointer (some ⟨bx2, 0, none⟩)), (3, .pointer (some ⟨bx1, 0, none⟩)), (2, u)]) (fun x => A * x4 * x6 * pts bx1 (.cells #[.int .i64 a, .int .i64 b, .int .i64 q, .int .i64 (cn : Int), .slice ad es.length cap] 89 (0, 0)) * pts bx2 (.cells #[.int .i64 k, .int .i64 o, .int .i64 i, .int .i64 (f : Int)] 111 (0, 0)) * own 5 1 vx7 64 (B (bs.take x ++ List.replicate (64 - x) 0))) (fun x => x ≤ bs.length) (fun x => bs.length - x) 0 (Nat.zero_le _) (fun x hx ih => ?_))) ⟨rfl, rfl, rfl, rfl, rfl, rfl, rfl, trivial⟩ (Grew.of (frc rfl (frc rfl (frc (frl (frl rfl)) rfl))) (Grew.refl _))
  rcases Nat.lt_or_ge x bs.length with hlt | hge
  · have hst : (bs.take x ++ List.replicate (64 - x) 0).set x (bs.getD x 0) = bs.take (x + 1) ++ List.replicate (64 - (x + 1)) 0 := by
      rw [List.set_append_right _ _ (by rw [List.length_take]; omega), List.length_take, show x - min x bs.length = 0 by omega, take_next hlt, show 64 - x = (64 - (x + 1)) + 1 by omega, List.replicate_succ, List.set_cons_zero, List.append_assoc]
      rfl
    refine Run.seq ?_
    refine Run.seq ?_
    refine Run.region ?_
    refine RunL.ok (OpOk.move rfl) rfl ?_
    refine RunL.ok (OpOk.move rfl) rfl ?_
    refine RunL.ok (OpOk.lenR rfl rfl rdb.left.left.left.left.left rfl) rfl ?_
    refine RunL.ok (OpOk.asT (OpOk.lss rfl rfl) (by omega)) rfl ?_
    refine RunL.nil ?_
    refine Run.condT rfl ?_
    refine Run.skip ?_
    refine Run.seq ?_
    refine Run.block ?_
    refine Run.region ?_
    refine RunL.ok (OpOk.move rfl) rfl ?_
    refine RunL.ok (OpOk.move rfl) rfl ?_
    refine RunL.ok (OpOk.move rfl) rfl ?_
    refine RunL.ok (OpOk.move rfl) rfl ?_
    refine RunL.ok (OpOk.idx1N rfl ti5 rfl rdb.left.left.left.left.left rfl (by omega)) rfl ?_
    refine RunL.ok (OpOk.load rfl rfl rfl (Rd.getB rdb.left.left.left.left.left (by omega))) rfl ?_
    refine RunL.know (fun w s => (s.conv rfl).ownRd0) (fun rdy1 => ?_)
    refine RunL.ok (OpOk.idx1N rfl ti5 rfl (Rd.right rdy1) rfl (by omega)) rfl ?_
    refine RunL.storeB _ ti5 rfl rfl rfl rfl (by omega) ?_
    refine RunL.nil ?_
    refine Run.inBlock ?_
    refine Run.region ?_
    refine RunL.ok (OpOk.move rfl) rfl ?_
    refine RunL.ok (OpOk.addN _ 1 rfl rfl rfl rfl (by omega)) rfl ?_
    refine RunL.ok (OpOk.assign rfl) rfl ?_
    refine RunL.nil ?_
    rw [hst]
    refine Run.jump ((ih (x + 1) (by omega) (by omega))) ⟨rfl, rfl, rfl, rfl, rfl, rfl, rfl, trivial⟩ ((Grew.refl _))
  · obtain rfl : x = bs.length := by omega
    clear ih
    rw [List.take_length, ← full64]
    refine Run.know (fun w s => s.ownRd0) (fun rd3 => ?_)
    obtain ⟨adx, capx, rfl, _, _⟩ := rd3.form
    have rdc := rd3.cutB0 (j := 32) (by omega)
    have rdd := rd3.cutB (i := 32) (j := 64) (by omega) (by omega)
    refine Run.seq ?_
    refine Run.seq ?_
    refine Run.region ?_
    refine RunL.ok (OpOk.move rfl) rfl ?_
    refine RunL.ok (OpOk.move rfl) rfl ?_
    refine RunL.ok (OpOk.lenR rfl rfl rdb.left.left.left.left.left rfl) rfl ?_
    refine RunL.ok (OpOk.asF (OpOk.lss rfl rfl) (by omega)) rfl ?_
    refine RunL.nil ?_
    refine Run.condF rfl ?_
    refine Run.exit rfl ?_
    refine Run.seq ?_
    refine Run.region ?_
    refine RunL.ok (OpOk.assign rfl) rfl ?_
    refine RunL.nil ?_
    refine Run.seq ?_
    refine Run.region ?_
    refine RunL.ok (OpOk.move rfl) rfl ?_
    refine RunL.ok (OpOk.fieldAddr fld89_4 rfl) rfl ?_
    refine RunL.ok (OpOk.load rfl rfl rfl (Blk.out Blk.pts.left.left _ _ (by first | rfl | assumption))) rfl ?_
    refine RunL.ent (Ent.ownNil' _ 111 4 [] rfl) ?_
    refine RunL.appendF0 rfl ti111 rfl rfl rfl rfl rd.left.left.left.left.left.left rfl (by decide) (by omega) (by simp only [maxLen]; omega) rfl (fun vy1 rdy1 => ?_)
    refine RunL.ok (OpOk.assign rfl) rfl ?_
    refine RunL.nil ?_
    refine Run.seq ?_
    refine Run.seq ?_
    refine Run.region ?_
    refine RunL.ok (OpOk.move rfl) rfl ?_
    refine RunL.ok (OpOk.asF (OpOk.lss rfl rfl) (by omega)) rfl ?_
    refine RunL.nil ?_
    refine Run.condF rfl ?_
    refine Run.region ?_
    refine RunL.ok (OpOk.move rfl) rfl ?_
    refine RunL.ok (OpOk.move rfl) rfl ?_
    refine RunL.ok (OpOk.loadS rfl rfl ti111 rfl Blk.pts.left.left rfl) rfl ?_
    refine RunL.know (fun w s => (s.conv rfl).ownRd0) (fun rdy2 => ?_)
    refine RunL.ok (OpOk.idxN rfl ti111 rfl (Rd.right rdy2) rfl (by omega)) rfl ?_
    refine RunL.storeFl (enc := encT111) ((k, (o, (i, ↑f)))) ti111 rfl rfl rfl (fun _ => rfl) rfl rfl (by first | omega | (simp; omega)) (by omega) ?_
    refine RunL.nil ?_
    refine Run.seq ?_
    refine Run.know (fun w s => (s.conv rfl).ownRd0) (fun rdy3 => ?_)
    (apply Run.drawD [] (by rfl) (sep_emp _).symm; case hchk => kernel_rfl)
    refine Sd.quiet 0 _ _ rfl rfl rfl rfl rfl (QOp.ok (fun X => OpOk.move rfl)) ?_
    refine Sd.quiet 1 _ _ rfl rfl rfl rfl rfl (QOp.ok (fun X => OpOk.mulN 2 _ rfl rfl rfl rfl (by omega))) ?_
    refine Sd.quiet 2 _ _ rfl rfl rfl rfl rfl (QOp.ok (fun X => OpOk.addN 3 _ rfl rfl rfl rfl (by omega))) ?_
    refine Sd.quiet 3 _ _ rfl rfl rfl rfl rfl (QOp.ok (fun X => OpOk.move rfl)) ?_
    refine Sd.quiet 4 _ _ rfl rfl rfl rfl rfl (QOp.ok (fun X => OpOk.cut (j := 32) rfl ti5 rfl (Rd.right rd3).left.left.left rfl ⟨_, rfl⟩ (by omega) (by omega))) ?_
    refine Sd.quiet 5 _ _ rfl rfl rfl rfl rfl (QOp.ok (fun X => OpOk.build (cells := #[.int (IntKind.i64) (↑(3 + 2 * f)), .slice (if capx = 0 then adx else Option.map (fun x => x.add (0 * 1)) adx) (32 - 0) (capx - 0)]) rfl (fun w => run_build w 104 _ _ (by rfl)))) ?_
    refine Sd.quiet 6 _ _ rfl rfl rfl rfl rfl (QOp.ok (fun X => OpOk.move rfl)) ?_
    refine Sd.quiet 7 _ _ rfl rfl rfl rfl rfl (QOp.ok (fun X => OpOk.mulN 2 _ rfl rfl rfl rfl (by omega))) ?_
    refine Sd.quiet 8 _ _ rfl rfl rfl rfl rfl (QOp.ok (fun X => OpOk.addN 4 _ rfl rfl rfl rfl (by omega))) ?_
    refine Sd.quiet 9 _ _ rfl rfl rfl rfl rfl (QOp.ok (fun X => OpOk.move rfl)) ?_
    refine Sd.quiet 10 _ _ rfl rfl rfl rfl rfl (QOp.ok (fun X => OpOk.cut (i := 32) rfl ti5 rfl (Rd.right rd3).left.left.left ⟨_, rfl⟩ rfl (by omega) (by omega))) ?_
    refine Sd.quiet 11 _ _ rfl rfl rfl rfl rfl (QOp.ok (fun X => OpOk.build (cells := #[.int (IntKind.i64) (↑(4 + 2 * f)), .slice (if capx = 32 then adx else Option.map (fun x => x.add (32 * 1)) adx) (64 - 32) (capx - 32)]) rfl (fun w => run_build w 104 _ _ (by rfl)))) ?_
    refine Sd.quiet 12 _ _ rfl rfl rfl rfl rfl (QOp.ok (fun X => OpOk.fieldAddr fld89_3 rfl)) ?_
    refine Sd.quiet 13 _ _ rfl rfl rfl rfl rfl (QOp.ok (fun X => OpOk.load rfl rfl rfl (Blk.out Blk.pts.left.left.left.left.left _ _ (by first | rfl | assumption)))) ?_
    refine Sd.quiet 14 _ _ rfl rfl rfl rfl rfl (QOp.ok (fun X => OpOk.subN 3 _ rfl rfl rfl rfl (by omega) (by omega))) ?_
    refine Sd.quiet 15 _ _ rfl rfl rfl rfl rfl (QOp.ok (fun X => OpOk.fieldAddr fld89_2 rfl)) ?_
    refine Sd.quiet 16 _ _ rfl rfl rfl rfl rfl (QOp.ok (fun X => OpOk.load rfl rfl rfl (Blk.out Blk.pts.left.left.left.left.left _ _ (by first | rfl | assumption)))) ?_
    refine Sd.quiet 17 _ _ rfl rfl rfl rfl rfl (QOp.ok (fun X => OpOk.add rfl rfl (wrapI (by omega) (by omega)))) ?_
    refine Sd.quiet 18 _ _ rfl rfl rfl rfl rfl (QOp.ok (fun X => OpOk.move rfl)) ?_
    refine Sd.quiet 24 _ _ rfl rfl rfl rfl rfl (QOp.ok (fun X => OpOk.assign rfl)) ?_
    (refine Sd.exec 19 rfl rfl rfl rfl rfl ?hrest (by rfl) (fun Xy4 Ky4 hKy4 => ?_); case hrest => kernel_rfl)
    refine RunL.mem (fl2 (sep_emp _) (sep_emp _)) ?_
    refine RunL.call cal53 rfl (s53 (Rd.right rdy3).left (by omega) (by assumption) (by omega) (by assumption)) rfl (fun vy5 Ay5 hy5 => ?_)
    obtain ⟨y6, rfl⟩ := hy5
    refine RunL.know (fun w s => (s.conv rfl).ownRd0) (fun rdy7 => ?_)
    refine Sd.ret hKy4 (Eq.trans rfl (gp2 (sep_emp _).symm (asg rfl))) ⟨_, (emp_sep _).symm⟩ ?_
    (refine Sd.exec 20 rfl rfl rfl rfl rfl ?hrest (by rfl) (fun Xy8 Ky8 hKy8 => ?_); case hrest => kernel_rfl)
    refine RunL.mem (fl2 (flS rfl) (sep_emp _)) ?_
    refine RunL.call cal52 rfl (s52a (Rd.right rdy7) (by omega)) rfl (fun vy9 Ay9 hy9 => ?_)
    obtain ⟨y10, ⟨y11, ⟨y12, ⟨rfl, rfl⟩⟩⟩⟩ := hy9
    refine RunL.know (fun w s => (s.conv rfl).ownRd0) (fun rdy13 => ?_)
    refine Sd.ret hKy8 (Eq.trans rfl (gp2 (sep_emp _).symm (asg (asg (asg rfl))))) ⟨_, (asg rfl)⟩ ?_
    refine Sd.quiet 21 _ _ rfl rfl rfl rfl rfl (QOp.ok (fun X => OpOk.build (cells := #[.int (IntKind.i64) (↑(3 - cn)), .slice (y10) (32) (y11)]) rfl (fun w => run_build w 104 _ _ (by rfl)))) ?_
    (refine Sd.exec 22 rfl rfl rfl rfl rfl ?hrest (by rfl) (fun Xy14 Ky14 hKy14 => ?_); case hrest => kernel_rfl)
    refine RunL.mem (fl2 (flS (flS (flS rfl))) (sep_emp _)) ?_
    refine RunL.litFl (enc := encT104) (rows3 f (3 - cn) bs (sectB (listB (q + 1) (es.set j (k, o, i, (f : Int))))) adx capx y10 y11) rfl ti104 rfl (fun _ => rfl) rfl rfl (by decide) (by decide) rfl (fun vr rdr => ?_)
    refine RunL.know (fun w s => (s.conv rfl).ownRd0) (fun rdz1 => ?_)
    refine Sd.ret hKy14 (Eq.trans rfl (gp2 (sep_emp _).symm (asg (asg (asg (asg rfl)))))) ⟨_, rfl⟩ ?_
    refine Sd.quiet 23 _ _ rfl rfl rfl rfl rfl (QOp.ok (fun X => OpOk.assign rfl)) ?_
    (apply Sd.tail; case hall => kernel_rfl)
    refine RunL.mem (fl2 (flS (flS (flS (flS rfl)))) (sep_emp _)) ?_
    refine RunL.nil ?_
    refine Run.ret2 Try.func58 rfl rfl rfl ?_
    exact ⟨_, _, _, _, _, _, rfl, (Eq.trans (frc rfl (frc rfl (frc (frl (frl (frl (frl rfl)))) rfl))) (congrArg (· * _) (congrArg (· * _) (congrArg (· * _) (asg (asg (asg (asg (asg (asg (asg as1)))))))))))⟩
end
end Go.Proofs.Yteopadjihklkmaa
end

section
namespace Go.Proofs.Yteopadjihklkmaa
open Go Go.Proofs
set_option maxRecDepth 100000
set_option maxHeartbeats 4000000
set_option linter.unusedSimpArgs false
set_option linter.unusedVariables false
def rmE (es : List En) (j i : Nat) : List En := (es.take i).take j ++ (es.take i).drop (j + 1)
theorem rmE_len {es : List En} {j i : Nat} (hi : i ≤ es.length) : (rmE es j i).length = if i ≤ j then i else i - 1 := by
  rw [rmE, List.length_append, List.length_take, List.length_drop, List.length_take]
  split <;> omega
theorem rmE_all {es : List En} {j : Nat} : rmE es j es.length = es.take j ++ es.drop (j + 1) := by rw [rmE, List.take_length]
theorem rmE_at {es : List En} {j : Nat} (hj : j < es.length) : rmE es j (j + 1) = rmE es j j := by
  rw [rmE, rmE, List.take_take, List.take_take, show min j (j + 1) = min j j by omega, List.drop_of_length_le (by rw [List.length_take]; omega), List.drop_of_length_le (by rw [List.length_take]; omega)]
theorem rmE_next {es : List En} {j i : Nat} (hi : i < es.length) (hne : i ≠ j) : rmE es j (i + 1) = rmE es j i ++ [es.getD i default] := by
  rw [rmE, rmE, take_next hi]
  have hl : (es.take i).length = i := by rw [List.length_take]; omega
  rcases Nat.lt_or_ge i j with h | h
  · rw [List.take_of_length_le (by rw [List.length_append, hl]; simp; omega), List.take_of_length_le (l := es.take i) (by omega), List.drop_of_length_le (by rw [List.length_append, hl]; simp; omega), List.drop_of_length_le (l := es.take i) (by omega), List.append_nil, List.append_nil]
  · rw [List.take_append_of_le_length (by omega), List.drop_append_of_le_length (by omega), List.append_assoc]
section
variable {w0 : World} {A : Asn} {a b q o i : Int} {ad : Option Addr} {m cap cn j : Nat} {es : List En}
theorem s59a {c : Int} (rd : Rd w0 A (.slice ad m cap) 4 m (Fl encT111 es)) (hat : atE o i es < 0) : Spec Try.prog w0 59 [.agg #[.int .i64 a, .int .i64 b, .int .i64 q, .int .i64 c, .slice ad m cap], .int .i64 o, .int .i64 i] A (fun v' A' => ∃ J, v' = .tuple #[.slice none 0 0, .int .i64 21] ∧ A' = A * J) := by
  refine Spec.of_run [(0, .agg #[.int .i64 a, .int .i64 b, .int .i64 q, .int .i64 c, .slice ad m cap]), (1, .int .i64 o), (2, .int .i64 i)] Try.func59 rfl (Nat.le_of_ble_eq_true rfl) (by repeat (first | exact trivial | refine ⟨rfl, ?_⟩)) ?_
  refine Run.seq ?_
  refine Run.region ?_
  refine RunL.box rfl rfl (fun bx1 => ?_)
  refine RunL.ok (OpOk.assign rfl) rfl ?_
  refine RunL.ok (OpOk.assign rfl) rfl ?_
  refine RunL.nil ?_
  refine Run.seq ?_
  refine Run.region ?_
  refine RunL.ok (OpOk.loadS rfl rfl ti89 rfl Blk.pts rfl) rfl ?_
  refine RunL.ok (OpOk.move rfl) rfl ?_
  refine RunL.ok (OpOk.move rfl) rfl ?_
  refine RunL.call cal46 rfl (s46 rd.left) rfl (fun vx2 Ax2 hx2 => ?_)
  obtain ⟨x3, ⟨rfl, rfl⟩⟩ := hx2
  refine RunL.ok (OpOk.assign rfl) rfl ?_
  refine RunL.nil ?_
  refine Run.seq ?_
  refine Run.seq ?_
  refine Run.region ?_
  refine RunL.ok (OpOk.move rfl) rfl ?_
  refine RunL.ok (OpOk.asT (OpOk.lss rfl rfl) (by omega)) rfl ?_
  refine RunL.nil ?_
  refine Run.condT rfl ?_
  refine Run.seq ?_
  refine Run.region ?_
  refine RunL.ok (OpOk.assign rfl) rfl ?_
  refine RunL.ok (OpOk.assign rfl) rfl ?_
  refine RunL.nil ?_
  refine Run.ret2 Try.func59 rfl rfl rfl ?_
  exact ⟨_, rfl, (asg as1)⟩
theorem s59b {c : Int} (rd : Rd w0 A (.slice ad m cap) 4 m (Fl encT111 es)) (hat : 0 ≤ atE o i es) (hq : 65535 ≤ q) : Spec Try.prog w0 59 [.agg #[.int .i64 a, .int .i64 b, .int .i64 q, .int .i64 c, .slice ad m cap], .int .i64 o, .int .i64 i] A (fun v' A' => ∃ J, v' = .tuple #[.slice none 0 0, .int .i64 29] ∧ A' = A * J) := by
  refine Spec.of_run [(0, .agg #[.int .i64 a, .int .i64 b, .int .i64 q, .int .i64 c, .slice ad m cap]), (1, .int .i64 o), (2, .int .i64 i)] Try.func59 rfl (Nat.le_of_ble_eq_true rfl) (by repeat (first | exact trivial | refine ⟨rfl, ?_⟩)) ?_
  refine Run.seq ?_
  refine Run.region ?_
  refine RunL.box rfl rfl (fun bx1 => ?_)
  refine RunL.ok (OpOk.assign rfl) rfl ?_
  refine RunL.ok (OpOk.assign rfl) rfl ?_
  refine RunL.nil ?_
  refine Run.seq ?_
  refine Run.region ?_
  refine RunL.ok (OpOk.loadS rfl rfl ti89 rfl Blk.pts rfl) rfl ?_
  refine RunL.ok (OpOk.move rfl) rfl ?_
  refine RunL.ok (OpOk.move rfl) rfl ?_
  refine RunL.call cal46 rfl (s46 rd.left) rfl (fun vx2 Ax2 hx2 => ?_)
  obtain ⟨x3, ⟨rfl, rfl⟩⟩ := hx2
  refine RunL.ok (OpOk.assign rfl) rfl ?_
  refine RunL.nil ?_
  refine Run.seq ?_
  refine Run.seq ?_
  refine Run.region ?_
  refine RunL.ok (OpOk.move rfl) rfl ?_
  refine RunL.ok (OpOk.asF (OpOk.lss rfl rfl) (by omega)) rfl ?_
  refine RunL.nil ?_
  refine Run.condF rfl ?_
  refine Run.skip ?_
  refine Run.seq ?_
  refine Run.seq ?_
  refine Run.region ?_
  refine RunL.ok (OpOk.fieldAddr fld89_2 rfl) rfl ?_
  refine RunL.ok (OpOk.load rfl rfl rfl (Blk.out Blk.pts.left _ _ (by first | rfl | assumption))) rfl ?_
  refine RunL.ok (OpOk.asT (OpOk.geq rfl rfl) (by omega)) rfl ?_
  refine RunL.nil ?_
  refine Run.condT rfl ?_
  refine Run.seq ?_
  refine Run.region ?_
  refine RunL.ok (OpOk.assign rfl) rfl ?_
  refine RunL.ok (OpOk.assign rfl) rfl ?_
  refine RunL.nil ?_
  refine Run.ret2 Try.func59 rfl rfl rfl ?_
  exact ⟨_, rfl, (asg as1)⟩
theorem drops_ok (rd : Rd w0 A (.slice ad m cap) 4 m (Fl encT111 es)) (hat : atE o i es = (j : Int)) (hjm : j < m) (hm : m ≤ 5) (hes : ∀ e ∈ es, okE e) (hq0 : 0 ≤ q) (hq : q < 65535) (hc3 : cn ≤ 3) : Spec Try.prog w0 59 [.agg #[.int .i64 a, .int .i64 b, .int .i64 q, .int .i64 (cn : Int), .slice ad m cap], .int .i64 o, .int .i64 i] A (fun v' A' => ∃ v ady capy J, v' = .tuple #[v, .int .i64 0] ∧ A' = A * J * own 5 1 (.slice ady 32 capy) 32 (B (sectB (listB (q + 1) (es.take j ++ es.drop (j + 1))))) * own 104 2 v 1 (Fl encT104 [((3 - cn, ⟨.slice ady 32 capy, rfl⟩, sectB (listB (q + 1) (es.take j ++ es.drop (j + 1)))) : Rw)])) := by
  have hl0 := rd.lenFl (fun _ => rfl) (by decide)
  subst hl0
  have rw_j := hat
  have hes2 : ∀ e ∈ rmE es j es.length, okE e := fun e he => by
    rw [rmE_all] at he
    rcases List.mem_append.1 he with h | h
    · exact hes e (List.mem_of_mem_take h)
    · exact hes e (List.mem_of_mem_drop h)
  have hlen := rmE_len (j := j) (Nat.le_refl es.length)
  rw [if_neg (by omega)] at hlen
  have hll : (listB (q + 1) (rmE es j es.length)).length ≤ 30 := by
    rw [listB_len, hlen]
    omega
  rw [← rmE_all]
  refine Spec.of_run [(0, .agg #[.int .i64 a, .int .i64 b, .int .i64 q, .int .i64 (cn : Int), .slice ad es.length cap]), (1, .int .i64 o), (2, .int .i64 i)] Try.func59 rfl (Nat.le_of_ble_eq_true rfl) (by repeat (first | exact trivial | refine ⟨rfl, ?_⟩)) ?_
  refine Run.seq ?_
  refine Run.region ?_
  refine RunL.box rfl rfl (fun bx1 => ?_)
  refine RunL.ok (OpOk.assign rfl) rfl ?_
  refine RunL.ok (OpOk.assign rfl) rfl ?_
  refine RunL.nil ?_
  refine Run.seq ?_
  refine Run.region ?_
  refine RunL.ok (OpOk.loadS rfl rfl ti89 rfl Blk.pts rfl) rfl ?_
  refine RunL.ok (OpOk.move rfl) rfl ?_
  refine RunL.ok (OpOk.move rfl) rfl ?_
  refine RunL.call cal46 rfl (s46 rd.left) rfl (fun vx2 Ax2 hx2 => ?_)
  obtain ⟨x3, ⟨rfl, rfl⟩⟩ := hx2
  refine RunL.ok (OpOk.assign rfl) rfl ?_
  refine RunL.nil ?_
  refine Run.seq ?_
  refine Run.seq ?_
  rw [rw_j]
  refine Run.region ?_
  refine RunL.ok (OpOk.move rfl) rfl ?_
  refine RunL.ok (OpOk.asF (OpOk.lss rfl rfl) (by omega)) rfl ?_
  refine RunL.nil ?_
  refine Run.condF rfl ?_
  refine Run.skip ?_
  refine Run.seq ?_
  refine Run.seq ?_
  refine Run.region ?_
  refine RunL.ok (OpOk.fieldAddr fld89_2 rfl) rfl ?_
  refine RunL.ok (OpOk.load rfl rfl rfl (Blk.out Blk.pts.left _ _ (by first | rfl | assumption))) rfl ?_
  refine RunL.ok (OpOk.asF (OpOk.geq rfl rfl) (by omega)) rfl ?_
  refine RunL.nil ?_
  refine Run.condF rfl ?_
  refine Run.skip ?_
  refine Run.seq ?_
  refine Run.region ?_
  refine RunL.ok (OpOk.assign rfl) rfl ?_
  refine RunL.nil ?_
  refine Run.seq ?_
  refine Run.seq ?_
  refine Run.region ?_
  refine RunL.ok (OpOk.assign rfl) rfl ?_
  refine RunL.nil ?_
  refine Run.block ?_
  refine Run.ent (Ent.ownNil' _ 111 4 (Fl encT111 ([] : List En)) rfl) ?_
  refine Run.jump ((Run.loopJ (X := Nat × Asn × Value × List En) (fun x => [(10, .int .i64 (x.1 : Int)), (9, x.2.2.1), (8, .int .i64 (j : Int)), (3, .pointer (some ⟨bx1, 0, none⟩))]) (fun x => A * x.2.1 * pts bx1 (.cells (Value.agg #[.int .i64 a, .int .i64 b, .int .i64 q, .int .i64 (cn : Int), .slice ad es.length cap]).cells 89 (0, 0)) * own 111 4 x.2.2.1 x.2.2.2.length (Fl encT111 x.2.2.2)) (fun x => x.1 ≤ es.length ∧ x.2.2.2 = rmE es j x.1) (fun x => es.length - x.1) (0, _, .slice none 0 0, []) ⟨Nat.zero_le _, by simp [rmE]⟩ (fun x hx ih => ?_))) ⟨rfl, rfl, rfl, rfl, trivial⟩ (Grew.of (Eq.trans (frc rfl (frc (frl rfl) rfl)) (congrArg (· * _) (congrArg (· * _) as1))) (Grew.refl _))
  obtain ⟨x, J, v, L⟩ := x
  simp only at hx ih ⊢
  obtain ⟨hx, hL⟩ := hx
  have hxl := rmE_len (j := j) hx
  rw [← hL] at hxl
  rcases Nat.lt_or_ge x es.length with hlt | hge
  · rcases Nat.decEq x j with hne | heq
    · have hnx := rmE_next hlt hne
      obtain ⟨e, hoe⟩ : ∃ e, es.getD x default = e := ⟨_, rfl⟩
      rw [hoe, ← hL] at hnx
      obtain ⟨k, o2, i2, s⟩ := e
      have hxl5 : L.length ≤ 5 := by rw [hxl]; split <;> omega
      refine Run.seq ?_
      refine Run.seq ?_
      refine Run.region ?_
      refine RunL.ok (OpOk.move rfl) rfl ?_
      refine RunL.ok (OpOk.fieldAddr fld89_4 rfl) rfl ?_
      refine RunL.ok (OpOk.load rfl rfl rfl (Blk.out Blk.pts.left _ _ (by first | rfl | assumption))) rfl ?_
      refine RunL.ok (OpOk.lenV rfl rfl rfl) rfl ?_
      refine RunL.ok (OpOk.asT (OpOk.lss rfl rfl) (by omega)) rfl ?_
      refine RunL.nil ?_
      refine Run.condT rfl ?_
      refine Run.skip ?_
      refine Run.seq ?_
      refine Run.block ?_
      refine Run.seq ?_
      refine Run.region ?_
      refine RunL.ok (OpOk.move rfl) rfl ?_
      refine RunL.ok (OpOk.move rfl) rfl ?_
      refine RunL.ok (OpOk.as (c := true) (OpOk.neq rfl rfl) (by rw [decide_eq_false (by omega)]; rfl)) rfl ?_
      refine RunL.nil ?_
      refine Run.condT rfl ?_
      refine Run.region ?_
      refine RunL.ok (OpOk.move rfl) rfl ?_
      refine RunL.ok (OpOk.fieldAddr fld89_4 rfl) rfl ?_
      refine RunL.ok (OpOk.load rfl rfl rfl (Blk.out Blk.pts.left _ _ (by first | rfl | assumption))) rfl ?_
      refine RunL.ok (OpOk.move rfl) rfl ?_
      refine RunL.ok (OpOk.idxN rfl ti111 rfl rd.left.left.left rfl (by omega)) rfl ?_
      refine RunL.ok (OpOk.loadFlE (by assumption) rfl rfl ti111 rfl rd.left.left.left (fun _ => rfl) rfl (by omega)) rfl ?_
      refine RunL.litFl (enc := encT111) [(k, o2, i2, s)] rfl ti111 rfl (fun _ => rfl) rfl rfl (by decide) (by decide) rfl (fun vy1 rdy1 => ?_)
      refine RunL.know (fun w s => (s.conv rfl).ownRd0) (fun rdy3 => ?_)
      refine RunL.appendF rfl ti111 rfl rfl rfl (frl rfl) (Rd.right rdy3) rfl (by decide) (by omega) (by simp only [maxLen]; omega) rfl (fun vy2 rdy2 => ?_)
      refine RunL.ok (OpOk.assign rfl) rfl ?_
      refine RunL.nil ?_
      refine Run.inBlock ?_
      refine Run.region ?_
      refine RunL.ok (OpOk.move rfl) rfl ?_
      refine RunL.ok (OpOk.addN _ 1 rfl rfl rfl rfl (by omega)) rfl ?_
      refine RunL.ok (OpOk.assign rfl) rfl ?_
      refine RunL.nil ?_
      rw [show L.length + 1 = (L ++ [(k, o2, i2, s)]).length by simp]
      refine Run.jump ((ih (x + 1, _, vy2, L ++ [(k, o2, i2, s)]) ⟨by dsimp only; omega, hnx.symm⟩ (by dsimp only; omega))) ⟨rfl, rfl, rfl, rfl, trivial⟩ (Grew.of (Eq.trans (frc rfl (frc (frl rfl) rfl)) (congrArg (· * _) (congrArg (· * _) (asg as1)))) (Grew.refl _))
    · subst heq
      have hat2 := rmE_at hlt
      rw [← hL] at hat2
      refine Run.seq ?_
      refine Run.seq ?_
      refine Run.region ?_
      refine RunL.ok (OpOk.move rfl) rfl ?_
      refine RunL.ok (OpOk.fieldAddr fld89_4 rfl) rfl ?_
      refine RunL.ok (OpOk.load rfl rfl rfl (Blk.out Blk.pts.left _ _ (by first | rfl | assumption))) rfl ?_
      refine RunL.ok (OpOk.lenV rfl rfl rfl) rfl ?_
      refine RunL.ok (OpOk.asT (OpOk.lss rfl rfl) (by omega)) rfl ?_
      refine RunL.nil ?_
      refine Run.condT rfl ?_
      refine Run.skip ?_
      refine Run.seq ?_
      refine Run.block ?_
      refine Run.seq ?_
      refine Run.region ?_
      refine RunL.ok (OpOk.move rfl) rfl ?_
      refine RunL.ok (OpOk.move rfl) rfl ?_
      refine RunL.ok (OpOk.as (c := false) (OpOk.neq rfl rfl) (by rw [decide_eq_true (by omega)]; rfl)) rfl ?_
      refine RunL.nil ?_
      refine Run.condF rfl ?_
      refine Run.skip ?_
      refine Run.inBlock ?_
      refine Run.region ?_
      refine RunL.ok (OpOk.move rfl) rfl ?_
      refine RunL.ok (OpOk.addN _ 1 rfl rfl rfl rfl (by omega)) rfl ?_
      refine RunL.ok (OpOk.assign rfl) rfl ?_
      refine RunL.nil ?_
      refine Run.jump ((ih (x + 1, _, v, L) ⟨by dsimp only; omega, hat2.symm⟩ (by dsimp only; omega))) ⟨rfl, rfl, rfl, rfl, trivial⟩ (Grew.of (congrArg (· * _) (congrArg (· * _) as1)) (Grew.refl _))
  · obtain rfl : x = es.length := by omega
    clear ih
    subst hL
    have hl5 : (rmE es j es.length).length ≤ 5 := by omega
    refine Run.seq ?_
    refine Run.seq ?_
    refine Run.region ?_
    refine RunL.ok (OpOk.move rfl) rfl ?_
    refine RunL.ok (OpOk.fieldAddr fld89_4 rfl) rfl ?_
    refine RunL.ok (OpOk.load rfl rfl rfl (Blk.out Blk.pts.left _ _ (by first | rfl | assumption))) rfl ?_
    refine RunL.ok (OpOk.lenV rfl rfl rfl) rfl ?_
    refine RunL.ok (OpOk.asF (OpOk.lss rfl rfl) (by omega)) rfl ?_
    refine RunL.nil ?_
    refine Run.condF rfl ?_
    refine Run.exit rfl ?_
    refine Run.seq ?_
    refine Run.know (fun w s => (s.conv rfl).ownRd0) (fun rdy1 => ?_)
    (apply Run.drawD [] (by rfl) (sep_emp _).symm; case hchk => kernel_rfl)
    refine Sd.quiet 0 _ _ rfl rfl rfl rfl rfl (QOp.ok (fun X => OpOk.fieldAddr fld89_3 rfl)) ?_
    refine Sd.quiet 1 _ _ rfl rfl rfl rfl rfl (QOp.ok (fun X => OpOk.load rfl rfl rfl (Blk.out Blk.pts.left.left.left _ _ (by first | rfl | assumption)))) ?_
    refine Sd.quiet 2 _ _ rfl rfl rfl rfl rfl (QOp.ok (fun X => OpOk.subN 3 _ rfl rfl rfl rfl (by omega) (by omega))) ?_
    refine Sd.quiet 3 _ _ rfl rfl rfl rfl rfl (QOp.ok (fun X => OpOk.fieldAddr fld89_2 rfl)) ?_
    refine Sd.quiet 4 _ _ rfl rfl rfl rfl rfl (QOp.ok (fun X => OpOk.load rfl rfl rfl (Blk.out Blk.pts.left.left.left _ _ (by first | rfl | assumption)))) ?_
    refine Sd.quiet 5 _ _ rfl rfl rfl rfl rfl (QOp.ok (fun X => OpOk.add rfl rfl (wrapI (by omega) (by omega)))) ?_
    refine Sd.quiet 6 _ _ rfl rfl rfl rfl rfl (QOp.ok (fun X => OpOk.move rfl)) ?_
    refine Sd.quiet 12 _ _ rfl rfl rfl rfl rfl (QOp.ok (fun X => OpOk.assign rfl)) ?_
    (refine Sd.exec 7 rfl rfl rfl rfl rfl ?hrest (by rfl) (fun Xy2 Ky2 hKy2 => ?_); case hrest => kernel_rfl)
    refine RunL.mem (fl2 (sep_emp _) (sep_emp _)) ?_
    refine RunL.call cal53 rfl (s53 (Rd.right rdy1).left (by omega) (by assumption) (by omega) (by assumption)) rfl (fun vy3 Ay3 hy3 => ?_)
    obtain ⟨y4, rfl⟩ := hy3
    refine RunL.know (fun w s => (s.conv rfl).ownRd0) (fun rdy5 => ?_)
    refine Sd.ret hKy2 (Eq.trans rfl (gp2 (sep_emp _).symm (asg rfl))) ⟨_, (emp_sep _).symm⟩ ?_
    (refine Sd.exec 8 rfl rfl rfl rfl rfl ?hrest (by rfl) (fun Xy6 Ky6 hKy6 => ?_); case hrest => kernel_rfl)
    refine RunL.mem (fl2 (flS rfl) (sep_emp _)) ?_
    refine RunL.call cal52 rfl (s52a (Rd.right rdy5) (by omega)) rfl (fun vy7 Ay7 hy7 => ?_)
    obtain ⟨y8, ⟨y9, ⟨y10, ⟨rfl, rfl⟩⟩⟩⟩ := hy7
    refine RunL.know (fun w s => (s.conv rfl).ownRd0) (fun rdy11 => ?_)
    refine Sd.ret hKy6 (Eq.trans rfl (gp2 (sep_emp _).symm (asg (asg (asg rfl))))) ⟨_, (asg rfl)⟩ ?_
    refine Sd.quiet 9 _ _ rfl rfl rfl rfl rfl (QOp.ok (fun X => OpOk.build (cells := #[.int (IntKind.i64) (↑(3 - cn)), .slice (y8) (32) (y9)]) rfl (fun w => run_build w 104 _ _ (by rfl)))) ?_
    (refine Sd.exec 10 rfl rfl rfl rfl rfl ?hrest (by rfl) (fun Xy12 Ky12 hKy12 => ?_); case hrest => kernel_rfl)
    refine RunL.mem (fl2 (flS (flS (flS rfl))) (sep_emp _)) ?_
    refine RunL.litFl (enc := encT104) [((3 - cn, ⟨.slice y8 32 y9, rfl⟩, sectB (listB (q + 1) (rmE es j es.length))) : Rw)] rfl ti104 rfl (fun _ => rfl) rfl rfl (by decide) (by decide) rfl (fun vr rdr => ?_)
    refine RunL.know (fun w s => (s.conv rfl).ownRd0) (fun rdz1 => ?_)
    refine Sd.ret hKy12 (Eq.trans rfl (gp2 (sep_emp _).symm (asg (asg (asg (asg rfl)))))) ⟨_, rfl⟩ ?_
    refine Sd.quiet 11 _ _ rfl rfl rfl rfl rfl (QOp.ok (fun X => OpOk.assign rfl)) ?_
    (apply Sd.tail; case hall => kernel_rfl)
    refine RunL.mem (fl2 (flS (flS (flS (flS rfl)))) (sep_emp _)) ?_
    refine RunL.nil ?_
    refine Run.ret2 Try.func59 rfl rfl rfl ?_
    exact ⟨_, _, _, _, rfl, (congrArg (· * _) (congrArg (· * _) (asg (asg (asg (asg (asg as1)))))))⟩
end
end Go.Proofs.Yteopadjihklkmaa
end

section
namespace Go.Proofs.Yteopadjihklkmaa
open Go Go.Proofs
set_option maxRecDepth 100000
set_option maxHeartbeats 4000000
set_option linter.unusedSimpArgs false
set_option linter.unusedVariables false
/-- The entries behind a Store. -/
def putE (es : List En) (x : En) : List En := if atE x.2.1 x.2.2.1 es < 0 then es ++ [x] else es.set (atE x.2.1 x.2.2.1 es).toNat x
/-- The entries behind a Drop. -/
def offE (es : List En) (o i : Int) : List En := es.take (atE o i es).toNat ++ es.drop ((atE o i es).toNat + 1)
/-- What a Store writes, how it ends, the entries then. -/
def storesP (q : Int) (t : Nat) (es : List En) (k o i : Int) (bs : List UInt8) : List (Nat × List UInt8) × Int × List En :=
  if ¬ rightP (k, o, i, 0) then ([], 2, []) else if 64 < bs.length then ([], 11, []) else if atE o i es < 0 ∧ 5 ≤ es.length then ([], 20, []) else if 65535 ≤ q then ([], 29, []) else if freeE es < 0 then ([], 21, []) else
    ([(3 + 2 * (freeE es).toNat, (full64 bs).take 32), (4 + 2 * (freeE es).toNat, (full64 bs).drop 32), (3 - t, sectB (listB (q + 1) (putE es (k, o, i, freeE es))))], 0, putE es (k, o, i, freeE es))
def dropsP (q : Int) (t : Nat) (es : List En) (o i : Int) : List (Nat × List UInt8) × Int × List En :=
  if atE o i es < 0 then ([], 21, []) else if 65535 ≤ q then ([], 29, []) else ([(3 - t, sectB (listB (q + 1) (offE es o i)))], 0, offE es o i)
section
variable {w0 : World} {A : Asn} {a b q k o i s w : Int} {ad : Option Addr} {m cap n t : Nat} {es : List En} {u : Value} {bs xs : List UInt8}
/-- The rows that the document tells: some memory M keeps what they hold. -/
def RowsR (w0 : World) (A : Asn) (R : List (Nat × List UInt8) × Int × List En) : Value → Asn → Prop := fun v' A' => ∃ v M rows J, v' = .tuple #[v, .int .i64 R.2.1] ∧ Alls (GR w0) M rows ∧ rows.map rc = R.1 ∧ A' = A * J * M * own 104 2 v rows.length (Fl encT104 rows)
theorem RowsR.nil0 {R : List (Nat × List UInt8) × Int × List En} {e : Int} {J : Asn} (hR : R.1 = []) (he : R.2.1 = e) : RowsR w0 A R (.tuple #[.slice none 0 0, .int .i64 e]) (A * J) := by
  refine ⟨.slice none 0 0, emp, [], J, by rw [he], Alls.nil, hR.symm, ?_⟩
  show A * J = A * J * emp * own 104 2 (.slice none 0 0) 0 []
  rw [own_nil_eq, sep_emp, sep_emp]
theorem storesR (rd : Rd w0 A (.slice ad m cap) 4 m (Fl encT111 es)) (rdb : Rd w0 A u 1 n (B bs)) (hes : ∀ e ∈ es, okE e) (hm : m ≤ 5) (hq0 : 0 ≤ q) (ht : t ≤ 3) :
    Spec Try.prog w0 58 [.agg #[.int .i64 a, .int .i64 b, .int .i64 q, .int .i64 (t : Int), .slice ad m cap], .agg #[.int .i64 k, .int .i64 o, .int .i64 i, .int .i64 s], u] A (RowsR w0 A (storesP q t es k o i bs)) := by
  have hl0 := rd.lenFl (fun _ => rfl) (by decide)
  have hl1 := rdb.lenB
  have hrr : ∀ s2 : Int, rightP (k, o, i, s2) ↔ rightP (k, o, i, 0) := fun s2 => Iff.rfl
  have hfr := freeE_range es
  have har := atE_range o i es
  unfold storesP
  by_cases h1 : rightP (k, o, i, 0)
  · rw [if_neg (by simpa using h1)]
    by_cases h2 : 64 < bs.length
    · rw [if_pos h2]
      refine (s58b (s := s) rd rdb h1 (by omega)).mono ?_
      rintro v' A' ⟨J, rfl, rfl⟩
      exact RowsR.nil0 rfl rfl
    · rw [if_neg h2]
      by_cases h3 : atE o i es < 0 ∧ 5 ≤ es.length
      · rw [if_pos h3]
        refine (s58c (s := s) rd rdb h1 (by omega) h3.1 (by omega)).mono ?_
        rintro v' A' ⟨J, rfl, rfl⟩
        exact RowsR.nil0 rfl rfl
      · rw [if_neg h3]
        have hroom : roomP o i es := by unfold roomP; omega
        by_cases h4 : 65535 ≤ q
        · rw [if_pos h4]
          refine (s58d (s := s) rd rdb h1 (by omega) hroom h4).mono ?_
          rintro v' A' ⟨J, rfl, rfl⟩
          exact RowsR.nil0 rfl rfl
        · rw [if_neg h4]
          by_cases h5 : freeE es < 0
          · rw [if_pos h5]
            refine (s58e (s := s) rd rdb h1 (by omega) hroom (by omega) h5).mono ?_
            rintro v' A' ⟨J, rfl, rfl⟩
            exact RowsR.nil0 rfl rfl
          · rw [if_neg h5]
            obtain ⟨f, hf⟩ := Int.eq_ofNat_of_zero_le (by omega : 0 ≤ freeE es)
            have key : ∀ (v' : Value) (A' : Asn) (es2 : List En) (w : World), (∃ v adx capx ady capy J, v' = .tuple #[v, .int .i64 0] ∧ A' = A * J * own 5 1 (.slice adx 64 capx) 64 (B (full64 bs)) * own 5 1 (.slice ady 32 capy) 32 (B (sectB (listB (q + 1) es2))) * own 104 2 v 3 (Fl encT104 (rows3 f (3 - t) bs (sectB (listB (q + 1) es2)) adx capx ady capy))) → Sat w0 w A' → es2 = putE es (k, o, i, freeE es) → RowsR w0 A ([(3 + 2 * (freeE es).toNat, (full64 bs).take 32), (4 + 2 * (freeE es).toNat, (full64 bs).drop 32), (3 - t, sectB (listB (q + 1) (putE es (k, o, i, freeE es))))], 0, putE es (k, o, i, freeE es)) v' A' := by
              rintro v' A' es2 w ⟨v, adx, capx, ady, capy, J, rfl, rfl⟩ hs rfl
              have h64 : (full64 bs).length = 64 := full64_len (by omega)
              have rdy := hs.weak.ownRd0
              have rdx := hs.weak.weak.ownRd0
              have hsl := rdy.lenB
              refine ⟨v, own 5 1 (.slice adx 64 capx) 64 (B (full64 bs)) * own 5 1 (.slice ady 32 capy) 32 (B (sectB (listB (q + 1) (putE es (k, o, i, freeE es))))), rows3 f (3 - t) bs (sectB (listB (q + 1) (putE es (k, o, i, freeE es)))) adx capx ady capy, J, rfl, ?_, ?_, ?_⟩
              · refine Alls.cons ?_ (Alls.cons ?_ (Alls.cons ?_ Alls.nil))
                · have := rdx.cutB0 (j := 32) (by omega)
                  show Rd w0 _ (cutV (.slice adx 64 capx) 0 32 1) 1 ((full64 bs).take 32).length (B ((full64 bs).take 32))
                  rw [show ((full64 bs).take 32).length = 32 by rw [List.length_take]; omega]
                  exact this.left
                · have := rdx.cutB (i := 32) (j := 64) (by omega) (by omega)
                  rw [List.take_of_length_le (by rw [List.length_drop, h64]; decide)] at this
                  show Rd w0 _ (cutV (.slice adx 64 capx) 32 64 1) 1 ((full64 bs).drop 32).length (B ((full64 bs).drop 32))
                  rw [show ((full64 bs).drop 32).length = 32 by rw [List.length_drop]; omega]
                  exact this.left
                · show Rd w0 _ (.slice ady 32 capy) 1 (sectB (listB (q + 1) (putE es (k, o, i, freeE es)))).length (B (sectB (listB (q + 1) (putE es (k, o, i, freeE es)))))
                  rw [hsl]
                  exact rdy.right
              · rw [hf, Int.toNat_natCast]
                rfl
              · rw [← sep_assoc]
                rfl
            by_cases h6 : atE o i es < 0
            · refine Spec.learn2 (stores_new (j := 0) rd rdb (f := f) h1 (by omega) h6 (by omega) hq0 (by omega) hf (by omega) hes ht) ?_
              exact fun v' A' w h hs => key v' A' _ w h hs (by rw [putE, if_pos h6, hf])
            · obtain ⟨j, hj⟩ := Int.eq_ofNat_of_zero_le (by omega : 0 ≤ atE o i es)
              refine Spec.learn2 (stores_old rd rdb (f := f) h1 (by omega) hj (by omega) hm hq0 (by omega) hf (by omega) hes ht) ?_
              exact fun v' A' w h hs => key v' A' _ w h hs (by rw [putE, if_neg h6, hf]; dsimp only; rw [hj, Int.toNat_natCast])
  · rw [if_pos h1]
    refine (s58a (s := s) rd rdb h1).mono ?_
    rintro v' A' ⟨J, rfl, rfl⟩
    exact RowsR.nil0 rfl rfl
theorem dropsR (rd : Rd w0 A (.slice ad m cap) 4 m (Fl encT111 es)) (hes : ∀ e ∈ es, okE e) (hm : m ≤ 5) (hq0 : 0 ≤ q) (ht : t ≤ 3) :
    Spec Try.prog w0 59 [.agg #[.int .i64 a, .int .i64 b, .int .i64 q, .int .i64 (t : Int), .slice ad m cap], .int .i64 o, .int .i64 i] A (RowsR w0 A (dropsP q t es o i)) := by
  have hl0 := rd.lenFl (fun _ => rfl) (by decide)
  have har := atE_range o i es
  unfold dropsP
  by_cases h1 : atE o i es < 0
  · rw [if_pos h1]
    refine (s59a rd h1).mono ?_
    rintro v' A' ⟨J, rfl, rfl⟩
    exact RowsR.nil0 rfl rfl
  · rw [if_neg h1]
    by_cases h2 : 65535 ≤ q
    · rw [if_pos h2]
      refine (s59b rd (by omega) h2).mono ?_
      rintro v' A' ⟨J, rfl, rfl⟩
      exact RowsR.nil0 rfl rfl
    · rw [if_neg h2]
      obtain ⟨j, hj⟩ := Int.eq_ofNat_of_zero_le (by omega : 0 ≤ atE o i es)
      refine Spec.learn2 (drops_ok rd hj (by omega) hm hes hq0 (by omega) ht) ?_
      rintro v' A' w ⟨v, ady, capy, J, rfl, rfl⟩ hs
      have rdy := hs.weak.ownRd0
      have hsl := rdy.lenB
      unfold offE
      rw [hj, Int.toNat_natCast]
      refine ⟨v, own 5 1 (.slice ady 32 capy) 32 (B (sectB (listB (q + 1) (es.take j ++ es.drop (j + 1))))), [((3 - t, ⟨.slice ady 32 capy, rfl⟩, sectB (listB (q + 1) (es.take j ++ es.drop (j + 1)))) : Rw)], J, rfl, ?_, rfl, rfl⟩
      refine Alls.cons ?_ Alls.nil
      show Rd w0 _ (.slice ady 32 capy) 1 (sectB (listB (q + 1) (es.take j ++ es.drop (j + 1)))).length (B (sectB (listB (q + 1) (es.take j ++ es.drop (j + 1)))))
      rw [hsl]
      exact rdy
end
end Go.Proofs.Yteopadjihklkmaa
end

section
namespace Go.Proofs.Yteopadjihklkmaa
open Go Go.Proofs
set_option maxRecDepth 100000
set_option maxHeartbeats 4000000
set_option linter.unusedSimpArgs false
set_option linter.unusedVariables false
abbrev Out := List (Nat × List UInt8) × Int × List En
/-- How many rows are written; how it ends. -/
def donN (R : Out) (w : Int) : Nat := if 0 ≤ w ∧ w < R.1.length then w.toNat else R.1.length
def errN (R : Out) (w : Int) : Int := if 0 ≤ w ∧ w < R.1.length then 30 else R.2.1
/-- A view: number, issuer, count, copy, entries. -/
abbrev Vw := Int × Int × Int × Int × List En
def vwN (R : Out) (w a b q t : Int) : Vw := if errN R w = 0 then (a, b, q + 1, 3 - t, R.2.2) else (0, 0, 0, 0, [])
/-- A change of a card, told. -/
def ChangeR (A : Asn) (p : Nat) (xs : List UInt8) (w a b q t : Int) (R : Out) : Value → Asn → Prop := fun v' A' => ∃ ad cap w2 J,
  v' = .tuple #[.agg #[.int .i64 (vwN R w a b q t).1, .int .i64 (vwN R w a b q t).2.1, .int .i64 (vwN R w a b q t).2.2.1, .int .i64 (vwN R w a b q t).2.2.2.1, .slice ad (vwN R w a b q t).2.2.2.2.length cap], .int .i64 (errN R w)] ∧ (w < 0 → w2 = w) ∧
  A' = A * J * own 111 4 (.slice ad (vwN R w a b q t).2.2.2.2.length cap) (vwN R w a b q t).2.2.2.2.length (Fl encT111 (vwN R w a b q t).2.2.2.2) * pts p (.cells (B ((doneF xs (R.1.take (donN R w)))) ++ [Value.int .i64 (w2)]).toArray 177 (0, 0))
section
variable {w0 : World} {A : Asn} {p : Nat} {a b q k o i s w : Int} {ad : Option Addr} {m cap n t : Nat} {es : List En} {u : Value} {bs xs : List UInt8}
theorem ChangeR.refuse {R : Out} {e : Int} {J : Asn} {tt : Int} (hR : R.1 = []) (he : R.2.1 = e) (hne : e ≠ 0) (hw : w = w) : ChangeR A p xs w a b q tt R (.tuple #[.agg #[.int .i64 0, .int .i64 0, .int .i64 0, .int .i64 0, .slice none 0 0], .int .i64 e]) (A * pts p (.cells (B (xs) ++ [Value.int .i64 (w)]).toArray 177 (0, 0)) * J) := by
  have hE : errN R w = e := by rw [errN, hR, if_neg (by intro h; have h2 := h.2; simp at h2; omega), he]
  have hV : vwN R w a b q tt = (0, 0, 0, 0, []) := by rw [vwN, hE, if_neg hne]
  unfold ChangeR
  rw [hV, hE, hR, List.take_nil, doneF]
  refine ⟨none, 0, w, J, rfl, fun _ => rfl, ?_⟩
  show _ = A * J * own 111 4 (.slice none 0 0) 0 [] * _
  rw [own_nil_eq, sep_emp, sep_assoc, sep_comm _ J, ← sep_assoc]
theorem ChangeR.torn {R : Out} {J : Asn} {tt w2 : Int} {ys : List UInt8} (hw : 0 ≤ w) (hw2 : w < R.1.length) (hy : ys = doneF xs (R.1.take w.toNat)) : ChangeR A p xs w a b q tt R (.tuple #[.agg #[.int .i64 0, .int .i64 0, .int .i64 0, .int .i64 0, .slice none 0 0], .int .i64 30]) (A * J * pts p (.cells (B (ys) ++ [Value.int .i64 (w2)]).toArray 177 (0, 0))) := by
  have hE : errN R w = 30 := by rw [errN, if_pos ⟨hw, hw2⟩]
  have hV : vwN R w a b q tt = (0, 0, 0, 0, []) := by rw [vwN, hE, if_neg (by decide)]
  have hN : donN R w = w.toNat := by rw [donN, if_pos ⟨hw, hw2⟩]
  subst hy
  unfold ChangeR
  rw [hV, hE, hN]
  refine ⟨none, 0, w2, J, rfl, fun h => by omega, ?_⟩
  show _ = A * J * own 111 4 (.slice none 0 0) 0 [] * _
  rw [own_nil_eq, sep_emp]
theorem ChangeR.done {R : Out} {J : Asn} {tt t2 w2 : Int} {ys : List UInt8} {m2 cap2 : Nat} {ad2 : Option Addr} (hw : w < 0 ∨ R.1.length ≤ w) (h0 : R.2.1 = 0) (hy : ys = doneF xs R.1) (hm : m2 = R.2.2.length) (ht : t2 = 3 - tt) (hw2 : w < 0 → w2 = w) : ChangeR A p xs w a b q tt R (.tuple #[.agg #[.int .i64 a, .int .i64 b, .int .i64 (q + 1), .int .i64 t2, .slice ad2 m2 cap2], .int .i64 0]) (A * J * own 111 4 (.slice ad2 m2 cap2) m2 (Fl encT111 R.2.2) * pts p (.cells (B (ys) ++ [Value.int .i64 (w2)]).toArray 177 (0, 0))) := by
  have hE : errN R w = 0 := by rw [errN, if_neg (by omega), h0]
  have hV : vwN R w a b q tt = (a, b, q + 1, 3 - tt, R.2.2) := by rw [vwN, if_pos hE]
  have hN : donN R w = R.1.length := by rw [donN, if_neg (by omega)]
  subst hy hm ht
  unfold ChangeR
  rw [hV, hE, hN, List.take_length]
  exact ⟨ad2, cap2, w2, J, rfl, hw2, rfl⟩
theorem body_rows (f : Nat) (x y z : List UInt8) (t : Nat) : ([(3 + 2 * f, x), (4 + 2 * f, y), (t, z)] : List (Nat × List UInt8)) = rowsF (3 + 2 * f) [x, y] ++ [(t, z)] := by
  simp only [rowsF, List.cons_append, List.nil_append]
  rw [show 3 + 2 * f + 1 = 4 + 2 * f by omega]
theorem storeR (rd : Rd w0 A (.slice ad m cap) 4 m (Fl encT111 es)) (rdb : Rd w0 A u 1 n (B bs)) (hes : ∀ e ∈ es, okE e) (hm : m ≤ 5) (hq0 : 0 ≤ q) (ht : 1 ≤ t) (ht2 : t ≤ 2) (hx : xs.length = 512) (hw : w ≤ 9223372036854775807) :
    Spec Try.prog w0 57 [.pointer (some ⟨p, 0, none⟩), .agg #[.int .i64 a, .int .i64 b, .int .i64 q, .int .i64 (t : Int), .slice ad m cap], .agg #[.int .i64 k, .int .i64 o, .int .i64 i, .int .i64 s], u] (A * pts p (.cells (B (xs) ++ [Value.int .i64 (w)]).toArray 177 (0, 0))) (ChangeR A p xs w a b q t (storesP q t es k o i bs)) := by
  have hl0 := rd.lenFl (fun _ => rfl) (by decide)
  have hl1 := rdb.lenB
  have hfr := freeE_range es
  have har := atE_range o i es
  unfold storesP
  by_cases h1 : rightP (k, o, i, 0)
  · rw [if_neg (by simpa using h1)]
    by_cases h2 : 64 < bs.length
    · rw [if_pos h2]
      refine (s57b (s := s) rd.left rdb.left h1 (by omega)).mono ?_
      rintro v' A' ⟨J, rfl, rfl⟩
      exact ChangeR.refuse rfl rfl (by decide) rfl
    · rw [if_neg h2]
      by_cases h3 : atE o i es < 0 ∧ 5 ≤ es.length
      · rw [if_pos h3]
        refine (s57c (s := s) rd.left rdb.left h1 (by omega) h3.1 (by omega)).mono ?_
        rintro v' A' ⟨J, rfl, rfl⟩
        exact ChangeR.refuse rfl rfl (by decide) rfl
      · rw [if_neg h3]
        have hroom : roomP o i es := by unfold roomP; omega
        by_cases h4 : 65535 ≤ q
        · rw [if_pos h4]
          refine (s57d (s := s) rd.left rdb.left h1 (by omega) hroom h4).mono ?_
          rintro v' A' ⟨J, rfl, rfl⟩
          exact ChangeR.refuse rfl rfl (by decide) rfl
        · rw [if_neg h4]
          by_cases h5 : freeE es < 0
          · rw [if_pos h5]
            refine (s57e (s := s) rd.left rdb.left h1 (by omega) hroom (by omega) h5).mono ?_
            rintro v' A' ⟨J, rfl, rfl⟩
            exact ChangeR.refuse rfl rfl (by decide) rfl
          · rw [if_neg h5]
            obtain ⟨f, hf⟩ := Int.eq_ofNat_of_zero_le (by omega : 0 ≤ freeE es)
            rw [hf, Int.toNat_natCast, body_rows]
            have hct : 3 - (t : Int) = ((3 - t : Nat) : Int) := by omega
            have h64 : (full64 bs).length = 64 := full64_len (by omega)
            have hly : (doneF xs (rowsF (3 + 2 * f) [(full64 bs).take 32, (full64 bs).drop 32])).length = 512 := doneF_len _ _ hx (fun r hr => by
              simp only [rowsF, List.mem_cons, List.not_mem_nil, or_false] at hr
              rcases hr with rfl | rfl
              · exact ⟨by dsimp only; omega, by dsimp only; rw [List.length_take]; omega⟩
              · exact ⟨by dsimp only; omega, by dsimp only; rw [List.length_drop]; omega⟩)
            by_cases h6 : 0 ≤ w ∧ w < 2
            · obtain ⟨W, rfl⟩ := Int.eq_ofNat_of_zero_le h6.1
              refine (s57f (s := s) rd rdb hf (by omega) h1 (by omega) hroom (by omega) hx hw ⟨wrote_part _ _ W _ (by show W < 2; omega)⟩).mono ?_
              rintro v' A' ⟨J, rfl, rfl⟩
              refine ChangeR.torn h6.1 ?_ ?_
              · dsimp only
                rw [List.length_append, rowsF_len]
                show (W : Int) < ((2 + 1 : Nat) : Int)
                omega
              · dsimp only
                rw [Int.toNat_natCast, List.take_append_of_le_length (by rw [rowsF_len]; show W ≤ 2; omega)]
            · have hWa := wrote_all [(full64 bs).take 32, (full64 bs).drop 32] xs w (3 + 2 * f) (by show w < 0 ∨ ((2 : Nat) : Int) ≤ w; omega)
              generalize hw2 : (if w < 0 then w else w - ([(full64 bs).take 32, (full64 bs).drop 32] : List (List UInt8)).length) = w2 at hWa
              have hw2b : (w < 0 → w2 = w) ∧ (0 ≤ w → w2 = w - 2) := by
                rw [← hw2]
                constructor
                · intro h; rw [if_pos h]
                · intro h; rw [if_neg (by omega)]; rfl
              have hput : ∀ (es2 : List En), wroteF (doneF xs (rowsF (3 + 2 * f) [(full64 bs).take 32, (full64 bs).drop 32])) w2 (3 - t) [sectB (listB (q + 1) es2)] = if w2 = 0 then (doneF xs (rowsF (3 + 2 * f) [(full64 bs).take 32, (full64 bs).drop 32]), w2, 30) else (doneF xs (rowsF (3 + 2 * f) [(full64 bs).take 32, (full64 bs).drop 32] ++ [(3 - t, sectB (listB (q + 1) es2))]), (if 0 < w2 then w2 - 1 else w2), 0) := fun es2 => by
                rw [doneF_append]
                rfl
              by_cases h7 : w = 2
              · have h0 : w2 = 0 := by have := hw2b.2 (by omega); omega
                rw [h0] at hput hWa
                have hfin : ∀ (es2 : List En) (J : Asn), ChangeR A p xs w a b q t (rowsF (3 + 2 * f) [(full64 bs).take 32, (full64 bs).drop 32] ++ [(3 - t, sectB (listB (q + 1) es2))], 0, es2) (.tuple #[.agg #[.int .i64 0, .int .i64 0, .int .i64 0, .int .i64 0, .slice none 0 0], .int .i64 30]) (A * J * pts p (.cells (B ((doneF xs (rowsF (3 + 2 * f) [(full64 bs).take 32, (full64 bs).drop 32]))) ++ [Value.int .i64 (0)]).toArray 177 (0, 0))) := fun es2 J => by
                  refine ChangeR.torn (by omega) ?_ ?_
                  · dsimp only
                    rw [List.length_append, rowsF_len, h7]
                    show (2 : Int) < ((2 + 1 : Nat) : Int)
                    omega
                  · dsimp only
                    rw [h7, show (2 : Int).toNat = 2 from rfl, List.take_left' (show (rowsF (3 + 2 * f) [List.take 32 (full64 bs), List.drop 32 (full64 bs)]).length = 2 from rowsF_len _ _)]
                by_cases h8 : atE o i es < 0
                · have hpe : putE es (k, o, i, (f : Int)) = es ++ [(k, o, i, (f : Int))] := by rw [putE, if_pos h8]
                  rw [hpe]
                  refine (s57g (s := s) (j := 0) h8 (by omega) rd rdb hf (by omega) h1 (by omega) hes hq0 (by omega) hx hly hw (by decide) hct (by omega) ⟨hWa⟩ ⟨hput _⟩).mono ?_
                  rintro v' A' ⟨J, rfl, rfl⟩
                  exact hfin _ J
                · obtain ⟨j, hj⟩ := Int.eq_ofNat_of_zero_le (by omega : 0 ≤ atE o i es)
                  have hpe : putE es (k, o, i, (f : Int)) = es.set j (k, o, i, (f : Int)) := by rw [putE, if_neg h8]; dsimp only; rw [hj, Int.toNat_natCast]
                  rw [hpe]
                  refine (s57i (s := s) hj (by omega) hm rd rdb hf (by omega) h1 (by omega) hes hq0 (by omega) hx hly hw (by decide) hct (by omega) ⟨hWa⟩ ⟨hput _⟩).mono ?_
                  rintro v' A' ⟨J, rfl, rfl⟩
                  exact hfin _ J
              · have h0 : w2 ≠ 0 := by
                  rcases Int.lt_or_le w 0 with h | h
                  · rw [hw2b.1 h]; omega
                  · rw [hw2b.2 h]; omega
                have hw2m : w2 ≤ 9223372036854775807 := by
                  rcases Int.lt_or_le w 0 with h | h
                  · rw [hw2b.1 h]; omega
                  · rw [hw2b.2 h]; omega
                have hput2 := fun es2 => (hput es2).trans (if_neg h0)
                have hfin : ∀ (es2 : List En) (J : Asn) (ad2 : Option Addr) (m2 cap2 : Nat), m2 = es2.length → ChangeR A p xs w a b q t (rowsF (3 + 2 * f) [(full64 bs).take 32, (full64 bs).drop 32] ++ [(3 - t, sectB (listB (q + 1) es2))], 0, es2) (.tuple #[.agg #[.int .i64 a, .int .i64 b, .int .i64 (q + 1), .int .i64 ((3 - t : Nat) : Int), .slice ad2 m2 cap2], .int .i64 0]) (A * J * own 111 4 (.slice ad2 m2 cap2) m2 (Fl encT111 es2) * pts p (.cells (B ((doneF xs (rowsF (3 + 2 * f) [(full64 bs).take 32, (full64 bs).drop 32] ++ [(3 - t, sectB (listB (q + 1) es2))]))) ++ [Value.int .i64 ((if 0 < w2 then w2 - 1 else w2))]).toArray 177 (0, 0))) := fun es2 J ad2 m2 cap2 hm2 => by
                  refine ChangeR.done (R := (rowsF (3 + 2 * f) [(full64 bs).take 32, (full64 bs).drop 32] ++ [(3 - t, sectB (listB (q + 1) es2))], 0, es2)) ?_ rfl rfl hm2 hct.symm (fun h => by rw [hw2b.1 h, if_neg (by omega)])
                  dsimp only
                  rw [List.length_append, rowsF_len]
                  show w < 0 ∨ ((2 + 1 : Nat) : Int) ≤ w
                  omega
                by_cases h8 : atE o i es < 0
                · have hpe : putE es (k, o, i, (f : Int)) = es ++ [(k, o, i, (f : Int))] := by rw [putE, if_pos h8]
                  rw [hpe]
                  refine (s57h (s := s) (j := 0) h8 (by omega) rd rdb hf (by omega) h1 (by omega) hes hq0 (by omega) hx hly hw hw2m hct (by omega) ⟨hWa⟩ ⟨hput2 _⟩).mono ?_
                  rintro v' A' ⟨ad2, cap2, J, rfl, rfl⟩
                  exact hfin _ J ad2 _ cap2 (by simp)
                · obtain ⟨j, hj⟩ := Int.eq_ofNat_of_zero_le (by omega : 0 ≤ atE o i es)
                  have hpe : putE es (k, o, i, (f : Int)) = es.set j (k, o, i, (f : Int)) := by rw [putE, if_neg h8]; dsimp only; rw [hj, Int.toNat_natCast]
                  rw [hpe]
                  refine (s57j (s := s) hj (by omega) hm rd rdb hf (by omega) h1 (by omega) hes hq0 (by omega) hx hly hw hw2m hct (by omega) ⟨hWa⟩ ⟨hput2 _⟩).mono ?_
                  rintro v' A' ⟨ad2, cap2, J, rfl, rfl⟩
                  exact hfin _ J ad2 _ cap2 (by simp)
  · rw [if_pos h1]
    refine (s57a (s := s) rd.left h1).mono ?_
    rintro v' A' ⟨J, rfl, rfl⟩
    exact ChangeR.refuse rfl rfl (by decide) rfl
theorem dropR (rd : Rd w0 A (.slice ad m cap) 4 m (Fl encT111 es)) (hes : ∀ e ∈ es, okE e) (hm : m ≤ 5) (hq0 : 0 ≤ q) (ht : 1 ≤ t) (ht2 : t ≤ 2) (hx : xs.length = 512) (hw : w ≤ 9223372036854775807) :
    Spec Try.prog w0 56 [.pointer (some ⟨p, 0, none⟩), .agg #[.int .i64 a, .int .i64 b, .int .i64 q, .int .i64 (t : Int), .slice ad m cap], .int .i64 o, .int .i64 i] (A * pts p (.cells (B (xs) ++ [Value.int .i64 (w)]).toArray 177 (0, 0))) (ChangeR A p xs w a b q t (dropsP q t es o i)) := by
  have hl0 := rd.lenFl (fun _ => rfl) (by decide)
  have har := atE_range o i es
  have hct : 3 - (t : Int) = ((3 - t : Nat) : Int) := by omega
  unfold dropsP
  by_cases h1 : atE o i es < 0
  · rw [if_pos h1]
    refine (s56a rd.left h1).mono ?_
    rintro v' A' ⟨J, rfl, rfl⟩
    exact ChangeR.refuse rfl rfl (by decide) rfl
  · rw [if_neg h1]
    by_cases h2 : 65535 ≤ q
    · rw [if_pos h2]
      refine (s56b rd.left (by omega) h2).mono ?_
      rintro v' A' ⟨J, rfl, rfl⟩
      exact ChangeR.refuse rfl rfl (by decide) rfl
    · rw [if_neg h2]
      obtain ⟨j, hj⟩ := Int.eq_ofNat_of_zero_le (by omega : 0 ≤ atE o i es)
      unfold offE
      rw [hj, Int.toNat_natCast]
      generalize hz : sectB (listB (q + 1) (es.take j ++ es.drop (j + 1))) = z
      have hput : wroteF xs w (3 - t) [z] = if w = 0 then (xs, w, 30) else (setSec xs (3 - t) z, (if 0 < w then w - 1 else w), 0) := rfl
      by_cases h3 : w = 0
      · rw [if_pos h3] at hput
        refine (s56c rd hj (by omega) hm hes hq0 (by omega) hx hw hct (by omega) ⟨by rw [hz]; exact hput⟩).mono ?_
        rintro v' A' ⟨J, rfl, rfl⟩
        refine ChangeR.torn (by omega) ?_ ?_
        · show w < ((1 : Nat) : Int)
          omega
        · rw [h3]
          rfl
      · rw [if_neg h3] at hput
        refine (s56d rd hj (by omega) hm hes hq0 (by omega) hx hw hct (by omega) ⟨by rw [hz]; exact hput⟩).mono ?_
        rintro v' A' ⟨ad2, cap2, J, rfl, rfl⟩
        refine ChangeR.done (R := ([(3 - t, z)], 0, es.take j ++ es.drop (j + 1))) ?_ rfl rfl ?_ hct.symm (fun h => by rw [if_neg (by omega)])
        · show w < 0 ∨ ((1 : Nat) : Int) ≤ w
          omega
        · dsimp only
          rw [List.length_append, List.length_take, List.length_drop]
          omega
end
end Go.Proofs.Yteopadjihklkmaa
end

section
namespace Go.Proofs.Yteopadjihklkmaa
open Go Go.Proofs
set_option maxRecDepth 100000
set_option maxHeartbeats 4000000
set_option linter.unusedSimpArgs false
set_option linter.unusedVariables false
theorem idxE_hit (p : En → Bool) : ∀ (l : List En) (i j : Nat), idxE p i l = (j : Int) → i ≤ j ∧ j - i < l.length ∧ p (l.getD (j - i) default) = true
  | [], i, j, h => by rw [idxE] at h; omega
  | e :: r, i, j, h => by
    rw [idxE] at h
    by_cases hp : p e = true
    · rw [if_pos hp] at h
      obtain rfl : i = j := by omega
      rw [Nat.sub_self]
      exact ⟨Nat.le_refl _, by simp, hp⟩
    · rw [if_neg hp] at h
      obtain ⟨h1, h2, h3⟩ := idxE_hit p r (i + 1) j h
      refine ⟨by omega, by rw [List.length_cons]; omega, ?_⟩
      rw [show j - i = (j - (i + 1)) + 1 by omega]
      exact h3
theorem atE_hit {o i : Int} {es : List En} {j : Nat} (h : atE o i es = (j : Int)) : j < es.length ∧ (es.getD j default).2.1 = o ∧ (es.getD j default).2.2.1 = i := by
  obtain ⟨_, h2, h3⟩ := idxE_hit _ _ _ _ h
  rw [Nat.sub_zero] at h2 h3
  exact ⟨h2, of_decide_eq_true h3⟩
theorem atE_miss {o i : Int} {es : List En} (h : atE o i es < 0) : ∀ e ∈ es, ¬ (e.2.1 = o ∧ e.2.2.1 = i) := fun e he hc => by
  have h1 := (idxE_any (fun x => decide (x.2.1 = o ∧ x.2.2.1 = i)) es 0).1
  have h2 : es.any (fun x => decide (x.2.1 = o ∧ x.2.2.1 = i)) = true := by
    rw [List.any_eq_true]
    exact ⟨e, he, decide_eq_true hc⟩
  have h3 := h1.2 h2
  have : atE o i es = idxE (fun x => decide (x.2.1 = o ∧ x.2.2.1 = i)) 0 es := rfl
  omega
theorem freeN_free (es : List En) : ∀ (n : Nat) (s : Int), 0 ≤ s → 0 ≤ freeN es n s → takenE es (freeN es n s) = false
  | 0, s, _, h => by rw [freeN] at h; omega
  | n + 1, s, hs, h => by
    rw [freeN] at h ⊢
    by_cases ht : takenE es s = false
    · rw [if_pos ht]
      exact ht
    · rw [if_neg ht] at h ⊢
      exact freeN_free es n (s + 1) (by omega) h
theorem freeE_free {es : List En} (h : 0 ≤ freeE es) : ∀ e ∈ es, e.2.2.2 ≠ freeE es := fun e he hc => by
  have h1 := freeN_free es 6 0 (by omega) h
  have h2 : takenE es (freeE es) = true := by
    rw [takenE, List.any_eq_true]
    exact ⟨e, he, decide_eq_true hc⟩
  have : takenE es (freeE es) = false := h1
  rw [this] at h2
  cases h2
theorem clash_false {x o : En} : clash x o = false ↔ o.2.2.2 ≠ x.2.2.2 ∧ ¬ (o.2.1 = x.2.1 ∧ o.2.2.1 = x.2.2.1) := by
  rw [clash, decide_eq_false_iff_not]
  constructor
  · intro h; exact ⟨fun e => h (.inl e), fun e => h (.inr e)⟩
  · rintro ⟨h1, h2⟩ (h | h)
    · exact h1 h
    · exact h2 h
theorem pair_at {es : List En} (h : es.Pairwise (fun o e => clash e o = false)) {a b : Nat} (ha : a < es.length) (hb : b < es.length) (hne : a ≠ b) : clash es[b] es[a] = false := by
  rw [List.pairwise_iff_getElem] at h
  rcases Nat.lt_or_ge a b with h1 | h1
  · exact h a b ha hb h1
  · rw [clash_symm]
    exact h b a hb ha (by omega)
theorem valid_put {es : List En} {k o i : Int} (hv : validE es) (hr : rightP (k, o, i, 0)) (hf : 0 ≤ freeE es) : validE (putE es (k, o, i, freeE es)) := by
  have hfr := freeE_range es
  have hge : goodE (k, o, i, freeE es) := ⟨hr, hf, by dsimp only; omega⟩
  have hff := freeE_free hf
  rw [putE]
  dsimp only
  by_cases h : atE o i es < 0
  · rw [if_pos h, validE_snoc]
    refine ⟨hv, hge, fun x hx => clash_false.2 ⟨hff x hx, atE_miss h x hx⟩⟩
  · rw [if_neg h]
    obtain ⟨j, hj⟩ := Int.eq_ofNat_of_zero_le (by omega : 0 ≤ atE o i es)
    obtain ⟨hjl, ho, hi⟩ := atE_hit hj
    rw [hj, Int.toNat_natCast]
    rw [List.getD_eq_getElem?_getD, List.getElem?_eq_getElem hjl, Option.getD_some] at ho hi
    refine ⟨fun e he => ?_, ?_⟩
    · rcases List.mem_or_eq_of_mem_set he with h1 | h1
      · exact hv.1 e h1
      · rw [h1]; exact hge
    · rw [List.pairwise_iff_getElem]
      intro a b ha hb hab
      rw [List.length_set] at ha hb
      rw [List.getElem_set, List.getElem_set]
      have other : ∀ c (hc : c < es.length), c ≠ j → clash (k, o, i, freeE es) es[c] = false := fun c hc hcj => by
        have := pair_at hv.2 hc hjl hcj
        rw [clash_false] at this ⊢
        refine ⟨hff _ (List.getElem_mem hc), ?_⟩
        rw [ho, hi] at this
        exact this.2
      by_cases h1 : j = a
      · rw [if_pos h1, if_neg (by omega), clash_symm]
        exact other b hb (by omega)
      · by_cases h2 : j = b
        · rw [if_neg h1, if_pos h2]
          exact other a ha (by omega)
        · rw [if_neg h1, if_neg h2]
          exact pair_at hv.2 ha hb (by omega)
theorem off_sub (es : List En) (j : Nat) : (es.take j ++ es.drop (j + 1)).Sublist es := by
  have h : (es.take j ++ es.drop (j + 1)).Sublist (es.take j ++ es.drop j) := by
    refine List.Sublist.append (List.Sublist.refl _) ?_
    rw [← List.drop_drop]
    exact List.drop_sublist _ _
  rwa [List.take_append_drop] at h
theorem valid_off {es : List En} {o i : Int} (hv : validE es) : validE (offE es o i) := by
  have hs := off_sub es (atE o i es).toNat
  exact ⟨fun e he => hv.1 e (hs.subset he), hv.2.sublist hs⟩
theorem putE_len {es : List En} {k o i s : Int} (h5 : es.length ≤ 5) (hr : ¬ (atE o i es < 0 ∧ 5 ≤ es.length)) : (putE es (k, o, i, s)).length ≤ 5 := by
  rw [putE]
  dsimp only
  split
  · rw [List.length_append]; simp; omega
  · rw [List.length_set]; exact h5
/-- A change does what it tells. -/
structure ChangeOk (xs : List UInt8) (q : Int) (t : Nat) (es : List En) (R : Out) : Prop where
  bad : R.2.1 ≠ 0 → R.1 = []
  err : R.2.1 ≠ 30
  nil : R.2.1 = 0 → R.1 ≠ []
  good : R.2.1 = 0 → Says (doneF xs R.1) (q + 1) (3 - t) R.2.2
  part : ∀ n, n < R.1.length → Says (doneF xs (R.1.take n)) q t es
  rows : ∀ r ∈ R.1, okRow r
  same : ∀ n, secOf (doneF xs (R.1.take n)) 0 = secOf xs 0
theorem stores_ok {xs : List UInt8} {q : Int} {t : Nat} {es : List En} (h : Says xs q t es) (k o i : Int) (bs : List UInt8) : ChangeOk xs q t es (storesP q t es k o i bs) := by
  obtain ⟨f1, f2, f3, f4, _⟩ := h.facts
  have ht := h.copy
  have hfr := freeE_range es
  have refuse : ∀ e : Int, e ≠ 0 → e ≠ 30 → ChangeOk xs q t es ([], e, []) := fun e h1 h2 => ⟨fun _ => rfl, h2, fun h => absurd h h1, fun h => absurd h h1, fun n hn => by simp at hn, fun r hr => (by cases hr), fun n => by rw [List.take_nil]; rfl⟩
  unfold storesP
  by_cases h1 : rightP (k, o, i, 0)
  · rw [if_neg (by simpa using h1)]
    by_cases h2 : 64 < bs.length
    · rw [if_pos h2]
      exact refuse _ (by decide) (by decide)
    · rw [if_neg h2]
      by_cases h3 : atE o i es < 0 ∧ 5 ≤ es.length
      · rw [if_pos h3]
        exact refuse _ (by decide) (by decide)
      · rw [if_neg h3]
        by_cases h4 : 65535 ≤ q
        · rw [if_pos h4]
          exact refuse _ (by decide) (by decide)
        · rw [if_neg h4]
          by_cases h5 : freeE es < 0
          · rw [if_pos h5]
            exact refuse _ (by decide) (by decide)
          · rw [if_neg h5]
            obtain ⟨f, hf⟩ := Int.eq_ofNat_of_zero_le (by omega : 0 ≤ freeE es)
            have h64 : (full64 bs).length = 64 := full64_len (by omega)
            have ha : ((full64 bs).take 32).length = 32 := by rw [List.length_take]; omega
            have hb : ((full64 bs).drop 32).length = 32 := by rw [List.length_drop]; omega
            have hv := valid_put f4 h1 (by omega)
            have hl := putE_len (k := k) (s := freeE es) f3 h3
            generalize putE es (k, o, i, freeE es) = es2 at hv hl
            rw [hf, Int.toNat_natCast]
            have s1 : Says (setSec xs (3 + 2 * f) ((full64 bs).take 32)) q t es := h.slot (by omega) (by omega) ha
            have s2 : Says (setSec (setSec xs (3 + 2 * f) ((full64 bs).take 32)) (4 + 2 * f) ((full64 bs).drop 32)) q t es := s1.slot (by omega) (by omega) hb
            have s3 := s2.put (u := 3 - t) (by omega) (by omega) hl hv
            have hsl : (sectB (listB (q + 1) es2)).length = 32 := by rw [sectB, sealed_length, pad_len (by rw [listB_len]; omega)]
            refine ⟨fun h => absurd rfl h, by show (0 : Int) ≠ 30; decide, fun _ => by simp, fun _ => s3, fun n hn => ?_, fun r hr => ?_, ?_⟩
            · match n, hn with
              | 0, _ => exact h
              | 1, _ => exact s1
              | 2, _ => exact s2
              | n + 3, hn => simp at hn; omega
            · simp only [List.mem_cons, List.not_mem_nil, or_false] at hr
              rcases hr with rfl | rfl | rfl
              · exact ⟨by dsimp only; omega, ha⟩
              · exact ⟨by dsimp only; omega, hb⟩
              · exact ⟨by dsimp only; omega, hsl⟩
            · have e3 : secOf (setSec (setSec (setSec xs (3 + 2 * f) ((full64 bs).take 32)) (4 + 2 * f) ((full64 bs).drop 32)) (3 - t) (sectB (listB (q + 1) es2))) 0 = secOf xs 0 := by
                rw [sec_set_other s2.len (by omega) (by omega) hsl (by omega), sec_set_other s1.len (by omega) (by omega) hb (by omega), sec_set_other h.len (by omega) (by omega) ha (by omega)]
              intro n
              match n with
              | 0 => rfl
              | 1 =>
                show secOf (setSec xs (3 + 2 * f) ((full64 bs).take 32)) 0 = _
                rw [sec_set_other h.len (by omega) (by omega) ha (by omega)]
              | 2 =>
                show secOf (setSec (setSec xs (3 + 2 * f) ((full64 bs).take 32)) (4 + 2 * f) ((full64 bs).drop 32)) 0 = _
                rw [sec_set_other s1.len (by omega) (by omega) hb (by omega), sec_set_other h.len (by omega) (by omega) ha (by omega)]
              | n + 3 =>
                dsimp only
                rw [List.take_of_length_le (by simp)]
                exact e3
  · rw [if_pos h1]
    exact refuse _ (by decide) (by decide)
theorem drops_is {xs : List UInt8} {q : Int} {t : Nat} {es : List En} (h : Says xs q t es) (o i : Int) : ChangeOk xs q t es (dropsP q t es o i) := by
  obtain ⟨f1, f2, f3, f4, _⟩ := h.facts
  have ht := h.copy
  have har := atE_range o i es
  have refuse : ∀ e : Int, e ≠ 0 → e ≠ 30 → ChangeOk xs q t es ([], e, []) := fun e h1 h2 => ⟨fun _ => rfl, h2, fun h => absurd h h1, fun h => absurd h h1, fun n hn => by simp at hn, fun r hr => (by cases hr), fun n => by rw [List.take_nil]; rfl⟩
  unfold dropsP
  by_cases h1 : atE o i es < 0
  · rw [if_pos h1]
    exact refuse _ (by decide) (by decide)
  · rw [if_neg h1]
    by_cases h2 : 65535 ≤ q
    · rw [if_pos h2]
      exact refuse _ (by decide) (by decide)
    · rw [if_neg h2]
      have hv := valid_off (o := o) (i := i) f4
      have hl : (offE es o i).length ≤ 5 := Nat.le_trans (off_sub es _).length_le f3
      generalize offE es o i = es2 at hv hl
      have s3 := h.put (u := 3 - t) (by omega) (by omega) hl hv
      have hsl : (sectB (listB (q + 1) es2)).length = 32 := by rw [sectB, sealed_length, pad_len (by rw [listB_len]; omega)]
      refine ⟨fun h => absurd rfl h, by show (0 : Int) ≠ 30; decide, fun _ => by simp, fun _ => s3, fun n hn => ?_, fun r hr => ?_, ?_⟩
      · match n, hn with
        | 0, _ => exact h
        | n + 1, hn => simp at hn
      · rw [List.mem_singleton.1 hr]
        exact ⟨by dsimp only; omega, hsl⟩
      · intro n
        match n with
        | 0 => rfl
        | n + 1 =>
          dsimp only
          rw [List.take_of_length_le (by simp)]
          show secOf (setSec xs (3 - t) (sectB (listB (q + 1) es2))) 0 = _
          rw [sec_set_other h.len (by omega) (by omega) hsl (by omega)]
end Go.Proofs.Yteopadjihklkmaa
end

section
namespace Go.Proofs.Yteopadjihklkmaa
open Go Go.Proofs
set_option maxRecDepth 100000
set_option maxHeartbeats 4000000
set_option linter.unusedSimpArgs false
set_option linter.unusedVariables false
theorem face_says {a b : Int} (hn : namedP a b) : sealed ((sectB (faceB a b)).take (32 - 2)) = sectB (faceB a b) ∧ faceOk (sectB (faceB a b)) ∧ cardB (sectB (faceB a b)) = a ∧ issB (sectB (faceB a b)) = b := by
  have hpl : (pad (faceB a b)).length = 30 := pad_len (by show 5 ≤ 30; decide)
  have ht : (sectB (faceB a b)).take (32 - 2) = pad (faceB a b) := by
    rw [sectB, sealed, List.take_append_of_le_length (by omega), List.take_of_length_le (by omega)]
  obtain ⟨h1, h2, h3, h4⟩ := hn
  have hc : cardB (sectB (faceB a b)) = a := by
    rw [cardB, ht]
    exact by2_of (by rw [pad_at (by show 2 < 5; decide)]; rfl) (by rw [pad_at (by show 2 + 1 < 5; decide)]; rfl) (by omega) h2
  have hi : issB (sectB (faceB a b)) = b := by
    rw [issB, ht]
    exact by1_of (by rw [pad_at (by show 4 < 5; decide)]; rfl) (by omega) (by omega)
  refine ⟨by rw [ht]; rfl, ?_, hc, hi⟩
  unfold faceOk
  rw [hc, hi]
  exact ⟨⟨h1, h2, h3, h4⟩, rfl⟩
/-- What a change leaves and tells. -/
structure OutIs (xs : List UInt8) (R : Out) (w a b q t : Int) (zs : List UInt8) (e a2 b2 q2 t2 : Int) (es2 : List En) : Prop where
  out : errN R w = e ∧ vwN R w a b q t = (a2, b2, q2, t2, es2) ∧ doneF xs (R.1.take (donN R w)) = zs
/-- What Format leaves. -/
def fmt2 (xs : List UInt8) : List UInt8 := setSec (setSec xs 1 (sectB (listB 1 []))) 2 (List.replicate 32 0)
def fmtF (xs : List UInt8) (a b : Int) : List UInt8 := setSec (fmt2 xs) 0 (sectB (faceB a b))
theorem d0_len : (sectB (listB 1 [])).length = 32 := by decide +kernel
theorem face_len (a b : Int) : (sectB (faceB a b)).length = 32 := by rw [sectB, sealed_length, pad_len (by show 5 ≤ 30; decide)]
theorem fmt2_len {xs : List UInt8} (h : xs.length = 512) : (fmt2 xs).length = 512 := setSec_len (setSec_len h (by decide) d0_len) (by decide) (by simp)
theorem fmt_says {xs : List UInt8} (h : xs.length = 512) {a b : Int} (hn : namedP a b) : Says (fmtF xs a b) 1 1 [] ∧ cardB (secOf (fmtF xs a b) 0) = a ∧ issB (secOf (fmtF xs a b) 0) = b := by
  obtain ⟨f1, f2, f3, f4⟩ := face_says hn
  have h1 : (setSec xs 1 (sectB (listB 1 []))).length = 512 := setSec_len h (by decide) d0_len
  have h2 := fmt2_len h
  have hfl := face_len a b
  have e0 : secOf (fmtF xs a b) 0 = sectB (faceB a b) := sec_set_same h2 (by decide) hfl
  have e1 : secOf (fmtF xs a b) 1 = sectB (listB 1 []) := by
    rw [fmtF, sec_set_other h2 (by decide) (by decide) hfl (by decide), fmt2, sec_set_other h1 (by decide) (by decide) (by simp) (by decide), sec_set_same h (by decide) d0_len]
  have e2 : secOf (fmtF xs a b) 2 = List.replicate 32 0 := by
    rw [fmtF, sec_set_other h2 (by decide) (by decide) hfl (by decide), fmt2, sec_set_same h1 (by decide) (by simp)]
  obtain ⟨l1, l2, l3⟩ := laid_ok (q := 1) (es := []) (by decide) (by decide) (by decide) ⟨fun e he => (by cases he), List.Pairwise.nil⟩
  have hno : okB (List.replicate 32 0) = false := by decide +kernel
  refine ⟨⟨setSec_len h2 (by decide) hfl, by rw [e0]; exact f1, by rw [e0]; exact f2, ?_, .inl rfl⟩, by rw [e0]; exact f3, by rw [e0]; exact f4⟩
  rw [bestF_two, bestF_one, e1, e2, hno, l1, l2, l3]
  rw [if_neg (fun h => by cases h.1), if_pos ⟨rfl, by decide⟩]
section
variable {w0 : World} {A : Asn} {p : Nat} {xs : List UInt8} {w q : Int} {t m : Nat} {es : List En} {u : Value}
theorem s39f (h : Says xs q t es) : Spec Try.prog w0 39 [.pointer (some ⟨p, 0, none⟩)] (A * pts p (.cells (B (xs) ++ [Value.int .i64 (w)]).toArray 177 (0, 0))) (fun v' A' => ∃ ad cap J, v' = .tuple #[.agg #[.int .i64 (cardB (secOf xs 0)), .int .i64 (issB (secOf xs 0)), .int .i64 q, .int .i64 (t : Int), .slice ad es.length cap], .int .i64 0] ∧ A' = A * J * own 111 4 (.slice ad es.length cap) es.length (Fl encT111 es) * pts p (.cells (B (xs) ++ [Value.int .i64 (w)]).toArray 177 (0, 0))) := by
  have hb := h.best
  have ht := h.copy
  have := s39e (w0 := w0) (A := A) (p := p) (w := w) h.len h.sld h.face (by rw [hb]; dsimp only; omega)
  rw [hb] at this
  exact this
section
variable {a b k o i s a2 b2 q2 t2 e : Int} {ad : Option Addr} {cap n : Nat} {es2 : List En} {bs zs : List UInt8}
theorem s57k (rd : Rd w0 A (.slice ad m cap) 4 m (Fl encT111 es)) (rdb : Rd w0 A u 1 n (B bs)) (h : Says xs q t es) (hw : w ≤ 9223372036854775807) (hO : OutIs xs (storesP q t es k o i bs) w a b q t zs e a2 b2 q2 t2 es2) :
    Spec Try.prog w0 57 [.pointer (some ⟨p, 0, none⟩), .agg #[.int .i64 a, .int .i64 b, .int .i64 q, .int .i64 (t : Int), .slice ad m cap], .agg #[.int .i64 k, .int .i64 o, .int .i64 i, .int .i64 s], u] (A * pts p (.cells (B (xs) ++ [Value.int .i64 (w)]).toArray 177 (0, 0))) (fun v' A' => ∃ ad cap w2 J, v' = .tuple #[.agg #[.int .i64 a2, .int .i64 b2, .int .i64 q2, .int .i64 t2, .slice ad es2.length cap], .int .i64 e] ∧ (w < 0 → w2 = w) ∧ A' = A * J * own 111 4 (.slice ad es2.length cap) es2.length (Fl encT111 es2) * pts p (.cells (B (zs) ++ [Value.int .i64 (w2)]).toArray 177 (0, 0))) := by
  have hl0 := rd.lenFl (fun _ => rfl) (by decide)
  obtain ⟨he, hv, hz⟩ := hO.out
  obtain ⟨f1, f2, f3, f4, _⟩ := h.facts
  have ht := h.copy
  have := storeR (w0 := w0) (A := A) (p := p) (q := q) (t := t) (a := a) (b := b) (k := k) (o := o) (i := i) (s := s) rd rdb (fun e he => okE_good (f4.1 e he)) (by omega) (by omega) (by omega) (by omega) h.len hw
  unfold ChangeR at this
  rw [hv, he, hz] at this
  exact this
theorem s56e (rd : Rd w0 A (.slice ad m cap) 4 m (Fl encT111 es)) (h : Says xs q t es) (hw : w ≤ 9223372036854775807) (hO : OutIs xs (dropsP q t es o i) w a b q t zs e a2 b2 q2 t2 es2) :
    Spec Try.prog w0 56 [.pointer (some ⟨p, 0, none⟩), .agg #[.int .i64 a, .int .i64 b, .int .i64 q, .int .i64 (t : Int), .slice ad m cap], .int .i64 o, .int .i64 i] (A * pts p (.cells (B (xs) ++ [Value.int .i64 (w)]).toArray 177 (0, 0))) (fun v' A' => ∃ ad cap w2 J, v' = .tuple #[.agg #[.int .i64 a2, .int .i64 b2, .int .i64 q2, .int .i64 t2, .slice ad es2.length cap], .int .i64 e] ∧ (w < 0 → w2 = w) ∧ A' = A * J * own 111 4 (.slice ad es2.length cap) es2.length (Fl encT111 es2) * pts p (.cells (B (zs) ++ [Value.int .i64 (w2)]).toArray 177 (0, 0))) := by
  have hl0 := rd.lenFl (fun _ => rfl) (by decide)
  obtain ⟨he, hv, hz⟩ := hO.out
  obtain ⟨f1, f2, f3, f4, _⟩ := h.facts
  have ht := h.copy
  have := dropR (w0 := w0) (A := A) (p := p) (q := q) (t := t) (a := a) (b := b) (o := o) (i := i) rd (fun e he => okE_good (f4.1 e he)) (by omega) (by omega) (by omega) (by omega) h.len hw
  unfold ChangeR at this
  rw [hv, he, hz] at this
  exact this
/-- A whole Format. -/
theorem s51d (hn : namedP a b) (hx : xs.length = 512) (hw : w < 0) : Spec Try.prog w0 51 [.pointer (some ⟨p, 0, none⟩), .int .i64 a, .int .i64 b] (A * pts p (.cells (B (xs) ++ [Value.int .i64 (w)]).toArray 177 (0, 0))) (fun v' A' => ∃ J, v' = .int .i64 0 ∧ A' = A * J * pts p (.cells (B ((fmtF xs a b)) ++ [Value.int .i64 (w)]).toArray 177 (0, 0))) := by
  refine s51c hn hx (ys := fmt2 xs) (w2 := w) (e := 0) ⟨?_⟩ ⟨?_⟩ (by omega) (fmt2_len hx) (by omega) rfl
  · simp only [wroteF]
    rw [if_neg (by omega), if_neg (by omega), if_neg (by omega), if_neg (by omega)]
    rfl
  · simp only [wroteF]
    rw [if_neg (by omega), if_neg (by omega)]
    rfl
end
theorem s37 : Spec Try.prog w0 37 [] A (fun v' A' => ∃ J, v' = .bool true ∧ A' = A * J) := by
  have hz0 : (List.replicate 512 (0 : UInt8)).length = 512 := by simp
  have hn : namedP 7 1 := ⟨by decide, by decide, by decide, by decide⟩
  obtain ⟨hS, hc, hi⟩ := fmt_says hz0 hn
  have rw_c := hc
  have rw_i := hi
  have hR : storesP 1 1 [] 1 2 9 [1] = ([(3, (full64 [1]).take 32), (4, (full64 [1]).drop 32), (2, sectB (listB 2 [(1, 2, 9, 0)]))], 0, [(1, 2, 9, 0)]) := by rfl
  have hE : errN (storesP 1 1 [] 1 2 9 [1]) (-1) = 0 := by rw [hR]; rfl
  have hV : vwN (storesP 1 1 [] 1 2 9 [1]) (-1) 7 1 1 ((1 : Nat) : Int) = (7, 1, 2, 2, [(1, 2, 9, 0)]) := by rw [hR]; rfl
  generalize hys : fmtF (List.replicate 512 0) 7 1 = ys at hS hc hi rw_c rw_i
  obtain ⟨zs, hz⟩ : ∃ zs, doneF ys ((storesP 1 1 [] 1 2 9 [1]).1.take (donN (storesP 1 1 [] 1 2 9 [1]) (-1))) = zs := ⟨_, rfl⟩
  have hSZ : zs.length = 512 ∧ secOf zs 3 = (full64 [1]).take 32 := by
    rw [hR] at hz
    have e : zs = setSec (setSec (setSec ys 3 ((full64 [1]).take 32)) 4 ((full64 [1]).drop 32)) 2 (sectB (listB 2 [(1, 2, 9, 0)])) := hz.symm
    have h1 : (setSec ys 3 ((full64 [1]).take 32)).length = 512 := setSec_len hS.len (by decide) (by decide)
    have h2 : (setSec (setSec ys 3 ((full64 [1]).take 32)) 4 ((full64 [1]).drop 32)).length = 512 := setSec_len h1 (by decide) (by decide)
    have h3 : (sectB (listB 2 [(1, 2, 9, 0)])).length = 32 := by decide +kernel
    rw [e]
    refine ⟨setSec_len h2 (by decide) h3, ?_⟩
    rw [sec_set_other h2 (by decide) (by decide) h3 (by decide), sec_set_other h1 (by decide) (by decide) (by decide) (by decide), sec_set_same hS.len (by decide) (by decide)]
  have hO : OutIs ys (storesP 1 1 [] 1 2 9 [1]) (-1) 7 1 1 ((1 : Nat) : Int) zs 0 7 1 2 2 [(1, 2, 9, 0)] := ⟨hE, hV, hz⟩
  obtain ⟨hzl, hz3⟩ := hSZ
  have hb0 : ((((secOf zs (3 + 2 * 0 : Int).toNat ++ secOf zs (3 + 2 * 0 + 1 : Int).toNat).getD (Int.toNat 0) 0).toNat : Nat) : Int) = 1 := by
    show ((((secOf zs 3 ++ secOf zs 4).getD 0 0).toNat : Nat) : Int) = 1
    rw [hz3]
    rfl
  refine Spec.of_run [] Try.func37 rfl (Nat.le_of_ble_eq_true rfl) (by repeat (first | exact trivial | refine ⟨rfl, ?_⟩)) ?_
  refine Run.seq ?_
  refine Run.region ?_
  refine RunL.ok (OpOk.assign rfl) rfl ?_
  refine RunL.nil ?_
  refine Run.seq ?_
  refine Run.region ?_
  refine RunL.call cal55 rfl (s55) rfl (fun vx1 Ax1 hx1 => ?_)
  obtain ⟨x2, ⟨rfl, rfl⟩⟩ := hx1
  refine RunL.ok (OpOk.assign rfl) rfl ?_
  refine RunL.nil ?_
  refine Run.seq ?_
  refine Run.seq ?_
  refine Run.region ?_
  refine RunL.ok (OpOk.move rfl) rfl ?_
  refine RunL.ok (OpOk.eqlPN rfl rfl) rfl ?_
  refine RunL.ok (OpOk.move rfl) rfl ?_
  refine RunL.on rfl rfl ?_
  refine RunL.ok (OpOk.move rfl) rfl ?_
  refine RunL.on rfl rfl ?_
  refine RunL.call cal51 rfl (s51d (by assumption) rfl (by omega)) rfl (fun vx6 Ax6 hx6 => ?_)
  obtain ⟨x7, ⟨rfl, rfl⟩⟩ := hx6
  refine RunL.on rfl rfl ?_
  refine RunL.ok (OpOk.as (c := false) (OpOk.neq rfl rfl) (by rw [decide_eq_true (by omega)]; rfl)) rfl ?_
  refine RunL.ok (OpOk.pickF rfl rfl) rfl ?_
  refine RunL.nil ?_
  refine Run.condF rfl ?_
  refine Run.skip ?_
  refine Run.seq ?_
  refine Run.region ?_
  refine RunL.ok (OpOk.move rfl) rfl ?_
  rw [hys]
  refine RunL.call cal39 rfl (s39f (by assumption)) rfl (fun vy5 Ay5 hy5 => ?_)
  obtain ⟨y6, ⟨y7, ⟨y8, ⟨rfl, rfl⟩⟩⟩⟩ := hy5
  refine RunL.ok (OpOk.move rfl) rfl ?_
  refine RunL.ok (OpOk.ext20 rfl) rfl ?_
  refine RunL.ok (OpOk.ext21 rfl) rfl ?_
  refine RunL.alloc ti86 rfl (fun by9 => ?_)
  refine RunL.storeAll ti86 rfl rfl rfl (ones rfl) rfl rfl ?_
  refine RunL.ok (OpOk.assign rfl) rfl ?_
  refine RunL.nil ?_
  refine Run.seq ?_
  refine Run.seq ?_
  rw [rw_c]
  rw [rw_i]
  refine Run.region ?_
  refine RunL.ok (OpOk.move rfl) rfl ?_
  refine RunL.ok (OpOk.as (c := false) (OpOk.neq rfl rfl) (by rw [decide_eq_true (by omega)]; rfl)) rfl ?_
  refine RunL.ok (OpOk.move rfl) rfl ?_
  refine RunL.on rfl rfl ?_
  refine RunL.ok (OpOk.fieldAddr fld86_0 rfl) rfl ?_
  refine RunL.on rfl rfl ?_
  refine RunL.ok (OpOk.load rfl rfl rfl (Blk.out Blk.pts _ _ (by first | rfl | assumption))) rfl ?_
  refine RunL.on rfl rfl ?_
  refine RunL.ok (OpOk.as (c := false) (OpOk.neq rfl rfl) (by rw [decide_eq_true (by omega)]; rfl)) rfl ?_
  refine RunL.ok (OpOk.pickF rfl rfl) rfl ?_
  refine RunL.ok (OpOk.move rfl) rfl ?_
  refine RunL.on rfl rfl ?_
  refine RunL.ok (OpOk.fieldAddr fld86_2 rfl) rfl ?_
  refine RunL.on rfl rfl ?_
  refine RunL.ok (OpOk.load rfl rfl rfl (Blk.out Blk.pts _ _ (by first | rfl | assumption))) rfl ?_
  refine RunL.on rfl rfl ?_
  refine RunL.ok (OpOk.as (c := false) (OpOk.neq rfl rfl) (by rw [decide_eq_true (by omega)]; rfl)) rfl ?_
  refine RunL.ok (OpOk.pickF rfl rfl) rfl ?_
  refine RunL.ok (OpOk.move rfl) rfl ?_
  refine RunL.on rfl rfl ?_
  refine RunL.ok (OpOk.fieldAddr fld86_3 rfl) rfl ?_
  refine RunL.on rfl rfl ?_
  refine RunL.ok (OpOk.load rfl rfl rfl (Blk.out Blk.pts _ _ (by first | rfl | assumption))) rfl ?_
  refine RunL.on rfl rfl ?_
  refine RunL.ok (OpOk.as (c := false) (OpOk.neq rfl rfl) (by rw [decide_eq_true (by omega)]; rfl)) rfl ?_
  refine RunL.ok (OpOk.pickF rfl rfl) rfl ?_
  refine RunL.nil ?_
  refine Run.condF rfl ?_
  refine Run.skip ?_
  refine Run.seq ?_
  refine Run.region ?_
  refine RunL.ok (OpOk.move rfl) rfl ?_
  refine RunL.ok (OpOk.loadS rfl rfl ti86 rfl Blk.pts rfl) rfl ?_
  refine RunL.ok (OpOk.build (cells := #[.int (IntKind.i64) (1), .int (IntKind.i64) (2), .int (IntKind.i64) (9), .int (IntKind.i64) (0)]) rfl (fun w => run_build w 111 _ _ (by rfl))) rfl ?_
  refine RunL.litB (xs := [1]) rfl ti5 rfl rfl rfl (by decide) rfl (fun vy10 rdy10 => ?_)
  refine RunL.know (fun w s => (s.conv (frl (frl (frl rfl)))).ownRd0) (fun rdy11 => ?_)
  refine RunL.know (fun w s => (s.conv rfl).ownRd0) (fun rdy12 => ?_)
  refine RunL.mem (frc (frl (frl rfl)) rfl) ?_
  refine RunL.call cal57 rfl (s57k (Rd.right rdy11).left.left (Rd.right rdy12) (by assumption) (by omega) (by assumption)) rfl (fun vy13 Ay13 hy13 => ?_)
  obtain ⟨y14, ⟨y15, ⟨y16, ⟨y17, ⟨rfl, ⟨y18, rfl⟩⟩⟩⟩⟩⟩ := hy13
  refine RunL.ok (OpOk.move rfl) rfl ?_
  refine RunL.ok (OpOk.ext20 rfl) rfl ?_
  refine RunL.ok (OpOk.ext21 rfl) rfl ?_
  refine RunL.alloc ti86 rfl (fun by19 => ?_)
  refine RunL.storeAll ti86 rfl rfl rfl (ones rfl) rfl rfl ?_
  refine RunL.ok (OpOk.assign rfl) rfl ?_
  refine RunL.nil ?_
  refine Run.seq ?_
  refine Run.region ?_
  refine RunL.ok (OpOk.move rfl) rfl ?_
  refine RunL.mem (frc (frl rfl) rfl) ?_
  refine RunL.call cal42 rfl (s42b (by assumption) (by omega) (by omega)) rfl (fun vy21 Ay21 hy21 => ?_)
  obtain ⟨y22, ⟨y23, ⟨rfl, rfl⟩⟩⟩ := hy21
  refine RunL.ok (OpOk.move rfl) rfl ?_
  refine RunL.ok (OpOk.ext20 rfl) rfl ?_
  refine RunL.ok (OpOk.ext21 rfl) rfl ?_
  refine RunL.ok (OpOk.assign rfl) rfl ?_
  refine RunL.ok (OpOk.assign rfl) rfl ?_
  refine RunL.nil ?_
  refine Run.seq ?_
  refine Run.region ?_
  refine RunL.ok (OpOk.move rfl) rfl ?_
  refine RunL.ok (OpOk.asT (OpOk.eql rfl rfl) (by omega)) rfl ?_
  refine RunL.ok (OpOk.move rfl) rfl ?_
  refine RunL.on rfl rfl ?_
  refine RunL.ok (OpOk.move rfl) rfl ?_
  refine RunL.on rfl rfl ?_
  refine RunL.ok (OpOk.asT (OpOk.eql rfl rfl) (by omega)) rfl ?_
  refine RunL.ok (OpOk.pickT rfl rfl) rfl ?_
  refine RunL.ok (OpOk.move rfl) rfl ?_
  refine RunL.on rfl rfl ?_
  refine RunL.ok (OpOk.fieldAddr fld86_2 rfl) rfl ?_
  refine RunL.on rfl rfl ?_
  refine RunL.ok (OpOk.load rfl rfl rfl (Blk.out Blk.pts.left.left.left _ _ (by first | rfl | assumption))) rfl ?_
  refine RunL.on rfl rfl ?_
  refine RunL.ok (OpOk.asT (OpOk.eql rfl rfl) (by omega)) rfl ?_
  refine RunL.ok (OpOk.pickT rfl rfl) rfl ?_
  refine RunL.ok (OpOk.move rfl) rfl ?_
  refine RunL.on rfl rfl ?_
  refine RunL.ok (OpOk.fieldAddr fld86_3 rfl) rfl ?_
  refine RunL.on rfl rfl ?_
  refine RunL.ok (OpOk.load rfl rfl rfl (Blk.out Blk.pts.left.left.left _ _ (by first | rfl | assumption))) rfl ?_
  refine RunL.on rfl rfl ?_
  refine RunL.ok (OpOk.asT (OpOk.eql rfl rfl) (by omega)) rfl ?_
  refine RunL.ok (OpOk.pickT rfl rfl) rfl ?_
  refine RunL.ok (OpOk.move rfl) rfl ?_
  refine RunL.on rfl rfl ?_
  refine RunL.ok (OpOk.fieldAddr fld86_4 rfl) rfl ?_
  refine RunL.on rfl rfl ?_
  refine RunL.ok (OpOk.load rfl rfl rfl (Blk.out Blk.pts.left.left.left _ _ (by first | rfl | assumption))) rfl ?_
  refine RunL.on rfl rfl ?_
  refine RunL.ok (OpOk.lenV rfl rfl rfl) rfl ?_
  refine RunL.on rfl rfl ?_
  refine RunL.ok (OpOk.eql rfl rfl) rfl ?_
  refine RunL.ok (OpOk.pickT rfl rfl) rfl ?_
  refine RunL.ok (OpOk.move rfl) rfl ?_
  refine RunL.on rfl rfl ?_
  refine RunL.ok (OpOk.move rfl) rfl ?_
  refine RunL.on rfl rfl ?_
  refine RunL.know (fun w s => (s.conv (frl rfl)).ownRd0) (fun rdy24 => ?_)
  refine RunL.ok (OpOk.lenR rfl rfl (Rd.right rdy24).left rfl) rfl ?_
  refine RunL.on rfl rfl ?_
  refine RunL.ok (OpOk.asT (OpOk.eql rfl rfl) (by omega)) rfl ?_
  refine RunL.ok (OpOk.pickT rfl rfl) rfl ?_
  refine RunL.ok (OpOk.move rfl) rfl ?_
  refine RunL.on rfl rfl ?_
  refine RunL.ok (OpOk.move rfl) rfl ?_
  refine RunL.on rfl rfl ?_
  refine RunL.ok (OpOk.idx1 rfl ti5 rfl (Rd.right rdy24).left rfl (by omega) (by omega)) rfl ?_
  refine RunL.on rfl rfl ?_
  refine RunL.ok (OpOk.load rfl rfl rfl (Rd.getB (Rd.right rdy24).left (by omega))) rfl ?_
  refine RunL.on rfl rfl ?_
  refine RunL.ok (OpOk.asT (OpOk.eql rfl rfl) (by omega)) rfl ?_
  refine RunL.ok (OpOk.pickT rfl rfl) rfl ?_
  refine RunL.ok (OpOk.assign rfl) rfl ?_
  refine RunL.nil ?_
  refine Run.ret1 Try.func37 rfl rfl ?_
  exact ⟨_, rfl, (asg (asg (asg (asg (asg (asg (asg (asg (asg (asg as1))))))))))⟩
end
end Go.Proofs.Yteopadjihklkmaa
end

section
namespace Go.Proofs.Yteopadjihklkmaa
open Go Go.Proofs
set_option maxRecDepth 100000
set_option maxHeartbeats 4000000
set_option linter.unusedSimpArgs false
set_option linter.unusedVariables false
/-- A change: its entry, its body (a slice, what it holds), off or not, the power. -/
abbrev Ch := En × SV × List UInt8 × Bool × Int
def encT113 : Ch → List Value := fun ((k, o, i, s), v, _, f, n) => [.int .i64 k, .int .i64 o, .int .i64 i, .int .i64 s, v.1, .bool f, .int .i64 n]
instance : OneC encT113 := ⟨fun ⟨⟨k, o, i, s⟩, v, b, f, n⟩ u hu => by
  simp only [encT113, List.mem_cons, List.not_mem_nil, or_false] at hu
  rcases hu with rfl | rfl | rfl | rfl | rfl | rfl | rfl
  · rfl
  · rfl
  · rfl
  · rfl
  · exact v.2
  · rfl
  · rfl⟩
def GC (w0 : World) (A : Asn) (p : Ch) : Prop := Rd w0 A p.2.1.1 1 p.2.2.1.length (B p.2.2.1)
instance {w0 : World} : Lift (GC w0) := ⟨fun h => Rd.left h, fun h => Rd.right h⟩
structure RowsIs (R : Out) (k : Nat) (f : Int) : Prop where
  out : R.1.length = k ∧ R.2.1 = f ∧ ∀ r ∈ R.1, okRow r
theorem id_facts (id : Int) : -65535 < id.tmod 65535 ∧ id.tmod 65535 < 65535 ∧ 0 ≤ (id.tmod 65535 + 65535).tmod 65535 ∧ (id.tmod 65535 + 65535).tmod 65535 < 65535 := by
  have h1 := Int.tmod_lt_of_pos id (by decide : (0 : Int) < 65535)
  have h2 : -65535 < id.tmod 65535 := by
    have := Int.lt_tmod_of_pos id (by decide : (0 : Int) < 65535)
    omega
  have h3 := Int.tmod_lt_of_pos (id.tmod 65535 + 65535) (by decide : (0 : Int) < 65535)
  have h4 := Int.tmod_nonneg (a := id.tmod 65535 + 65535) 65535 (by omega)
  exact ⟨h2, h1, h4, h3⟩
theorem id_named (id : Int) : namedP (1 + (id.tmod 65535 + 65535) % 65535) 1 := by
  exact ⟨by omega, by omega, by decide, by decide⟩
section
variable {w0 : World} {A : Asn} {a b q k o i s f : Int} {ad : Option Addr} {m cap n t kk : Nat} {es : List En} {u : Value} {bs xs : List UInt8}
theorem s58k (rd : Rd w0 A (.slice ad m cap) 4 m (Fl encT111 es)) (rdb : Rd w0 A u 1 n (B bs)) (h : Says xs q t es) (hR : RowsIs (storesP q t es k o i bs) kk f) :
    Spec Try.prog w0 58 [.agg #[.int .i64 a, .int .i64 b, .int .i64 q, .int .i64 (t : Int), .slice ad m cap], .agg #[.int .i64 k, .int .i64 o, .int .i64 i, .int .i64 s], u] A (fun v' A' => ∃ v M rows J, v' = .tuple #[v, .int .i64 f] ∧ Alls (GR w0) M rows ∧ rows.map rc = (storesP q t es k o i bs).1 ∧ rows.length = kk ∧ (∀ p ∈ rows, okRow (rc p)) ∧ A' = A * J * M * own 104 2 v rows.length (Fl encT104 rows)) := by
  have hl0 := rd.lenFl (fun _ => rfl) (by decide)
  obtain ⟨f1, f2, f3, f4, _⟩ := h.facts
  have ht := h.copy
  obtain ⟨h1, h2, h3⟩ := hR.out
  refine (storesR (a := a) (b := b) (s := s) (q := q) (t := t) (k := k) (o := o) (i := i) rd rdb (fun e he => okE_good (f4.1 e he)) (by omega) (by omega) (by omega)).mono ?_
  rintro v' A' ⟨v, M, rows, J, rfl, hal, hrm, rfl⟩
  rw [h2]
  refine ⟨v, M, rows, J, rfl, hal, hrm, ?_, fun p hp => ?_, rfl⟩
  · rw [← h1, ← hrm, List.length_map]
  · exact h3 _ (by rw [← hrm]; exact List.mem_map_of_mem hp)
theorem s59k (rd : Rd w0 A (.slice ad m cap) 4 m (Fl encT111 es)) (h : Says xs q t es) (hR : RowsIs (dropsP q t es o i) kk f) :
    Spec Try.prog w0 59 [.agg #[.int .i64 a, .int .i64 b, .int .i64 q, .int .i64 (t : Int), .slice ad m cap], .int .i64 o, .int .i64 i] A (fun v' A' => ∃ v M rows J, v' = .tuple #[v, .int .i64 f] ∧ Alls (GR w0) M rows ∧ rows.map rc = (dropsP q t es o i).1 ∧ rows.length = kk ∧ (∀ p ∈ rows, okRow (rc p)) ∧ A' = A * J * M * own 104 2 v rows.length (Fl encT104 rows)) := by
  have hl0 := rd.lenFl (fun _ => rfl) (by decide)
  obtain ⟨f1, f2, f3, f4, _⟩ := h.facts
  have ht := h.copy
  obtain ⟨h1, h2, h3⟩ := hR.out
  refine (dropsR (a := a) (b := b) (q := q) (t := t) (o := o) (i := i) rd (fun e he => okE_good (f4.1 e he)) (by omega) (by omega) (by omega)).mono ?_
  rintro v' A' ⟨v, M, rows, J, rfl, hal, hrm, rfl⟩
  rw [h2]
  refine ⟨v, M, rows, J, rfl, hal, hrm, ?_, fun p hp => ?_, rfl⟩
  · rw [← h1, ← hrm, List.length_map]
  · exact h3 _ (by rw [← hrm]; exact List.mem_map_of_mem hp)
end
end Go.Proofs.Yteopadjihklkmaa
end
