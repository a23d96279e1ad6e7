/- The oracle. -/
import Derived.Test.YtlmehpjcmdipmaaCat
import Derived.Test.YtlmehpjcmdipmaaMk
namespace Go.Proofs.Ytlmehpjcmdipmaa
open Go Go.Proofs
set_option maxRecDepth 100000
set_option maxHeartbeats 4000000
set_option linter.unusedSimpArgs false
abbrev Me := K4 × List UInt8
abbrev Mi := Int × K4 × List UInt8
theorem four25 : Four Try.prog 25 := ⟨_, _, _, _, Try.underlying25, by kernel_rfl, by kernel_rfl, by rfl, ⟨by rfl, by rfl, by rfl, by rfl⟩, ⟨by rfl, by rfl, by rfl, by rfl⟩, by rfl, by rfl, by rfl, by rfl⟩
theorem keyMe : KeyStr Try.prog 91 := ⟨_, _, Try.underlying91, by kernel_rfl, by rfl, by rfl, by rfl, by rfl, four25, by rfl⟩
def tokV (n : Int) : Value := .int .i64 n
abbrev ekT31 := km
abbrev vvT31 := tokV
theorem mapT31 : MapT Try.prog 31 km tokV (.int .i64 0) := ⟨_, _, Try.underlying31, keyStr keyMe, fun w => by rfl⟩
def encT85 (m : Mi) : List Value := [.int .i64 m.1, .int .i64 m.2.1.1, .int .i64 m.2.1.2.1, .int .i64 m.2.1.2.2.1, .int .i64 m.2.1.2.2.2, S m.2.2]
instance : OneC encT85 := ⟨fun a u hu => by
  simp only [encT85, List.mem_cons, List.not_mem_nil, or_false] at hu
  rcases hu with rfl | rfl | rfl | rfl | rfl | rfl <;> rfl⟩
def dictF : Nat → List Me → List (Me × Int)
  | _, [] => []
  | i, x :: r => (x, ((i + 1 : Nat) : Int)) :: dictF (i + 1) r
def mintF : Nat → List Me → List Mi
  | _, [] => []
  | i, x :: r => (((i + 1 : Nat) : Int), x.1, x.2) :: mintF (i + 1) r
/-- The number of a meaning, from 1 on; 0: there is none. -/
def atF : Nat → List Me → Me → Nat
  | _, [], _ => 0
  | i, x :: r, a => if a = x then i + 1 else atF (i + 1) r a
theorem mintF_length : ∀ (l : List Me) (i : Nat), (mintF i l).length = l.length
  | [], _ => rfl
  | x :: r, i => by simp [mintF, mintF_length r]
theorem mintF_snoc : ∀ (l : List Me) (i : Nat) (x : Me), mintF i (l ++ [x]) = mintF i l ++ [(((i + l.length + 1 : Nat) : Int), x.1, x.2)]
  | [], i, x => rfl
  | y :: r, i, x => by
    simp only [List.cons_append, mintF, mintF_snoc r, List.length_cons]
    rw [show i + 1 + r.length + 1 = i + (r.length + 1) + 1 by omega]
theorem dictF_snoc : ∀ (l : List Me) (i : Nat) (x : Me), dictF i (l ++ [x]) = dictF i l ++ [(x, ((i + l.length + 1 : Nat) : Int))]
  | [], i, x => rfl
  | y :: r, i, x => by
    simp only [List.cons_append, dictF, dictF_snoc r, List.length_cons]
    rw [show i + 1 + r.length + 1 = i + (r.length + 1) + 1 by omega]
theorem mintF_get : ∀ (l : List Me) (i k : Nat), k < l.length → (mintF i l).getD k default = (((i + k + 1 : Nat) : Int), (l.getD k default).1, (l.getD k default).2)
  | [], _, _, h => by simp at h
  | x :: r, i, 0, _ => rfl
  | x :: r, i, k + 1, h => by
    have := mintF_get r (i + 1) k (by simpa using h)
    simp only [mintF, List.getD_cons_succ]
    rw [this, show i + 1 + k + 1 = i + (k + 1) + 1 by omega]
theorem atF_zero : ∀ {l : List Me} {i : Nat} {a : Me}, atF i l a = 0 → mget (dictF i l) a = none ∧ a ∉ l
  | [], _, _, _ => ⟨rfl, by simp⟩
  | x :: r, i, a, h => by
    simp only [atF] at h
    split at h
    · cases h
    · obtain ⟨h1, h2⟩ := atF_zero h
      exact ⟨by rw [dictF, mget, if_neg ‹_›, h1], by simp only [List.mem_cons, not_or]; exact ⟨‹_›, h2⟩⟩
theorem atF_pos : ∀ {l : List Me} {i : Nat} {a : Me}, atF i l a ≠ 0 → mget (dictF i l) a = some ((atF i l a : Nat) : Int) ∧ i < atF i l a ∧ atF i l a ≤ i + l.length ∧ l.getD (atF i l a - i - 1) default = a
  | [], _, _, h => absurd rfl h
  | x :: r, i, a, h => by
    simp only [atF] at h ⊢
    split at h
    · rename_i e
      rw [if_pos e]
      refine ⟨by rw [dictF, mget, if_pos e], by omega, by simp, ?_⟩
      rw [show i + 1 - i - 1 = 0 by omega, List.getD_cons_zero, e]
    · rename_i e
      rw [if_neg e]
      obtain ⟨h1, h2, h3, h4⟩ := atF_pos h
      refine ⟨by rw [dictF, mget, if_neg e, h1], by omega, by simp; omega, ?_⟩
      obtain ⟨k, hk⟩ : ∃ k, atF (i + 1) r a - i - 1 = k + 1 := ⟨atF (i + 1) r a - (i + 1) - 1, by omega⟩
      rw [hk, List.getD_cons_succ, show k = atF (i + 1) r a - (i + 1) - 1 by omega]
      exact h4
theorem mput_new {K V : Type} [DecidableEq K] {a : K} {x : V} : ∀ {l : List (K × V)}, mget l a = none → mput l a x = l ++ [(a, x)]
  | [], _ => rfl
  | p :: r, h => by
    simp only [mget] at h
    split at h
    · cases h
    · rw [mput, if_neg ‹_›, mput_new h]; rfl
def omap (mv : Value) (l : List Me) : Asn := ⟨fun h => (mv = .map none ∧ l = [] ∧ ∀ b, h b = none) ∨ ∃ b, mv = .map (some b) ∧ (mapA km tokV b (dictF 0 l)).holds h⟩
theorem omap_nil : omap (.map none) [] = emp := by
  refine Asn.ext' fun p => ⟨?_, fun h => .inl ⟨rfl, rfl, h⟩⟩
  rintro (⟨_, _, h⟩ | ⟨b, h, _⟩)
  · exact h
  · cases h
theorem omap_some (b : Nat) (l : List Me) : omap (.map (some b)) l = mapA km tokV b (dictF 0 l) := by
  refine Asn.ext' fun p => ⟨?_, fun h => .inr ⟨b, rfl, h⟩⟩
  rintro (⟨h, _⟩ | ⟨c, h, h2⟩)
  · cases h
  · simp only [Value.map.injEq, Option.some.injEq] at h
    exact h ▸ h2
theorem Sat.omapForm {w0 w : World} {A : Asn} {mv : Value} {l : List Me} (h : Sat w0 w (A * omap mv l)) : (mv = .map none ∧ l = []) ∨ ∃ b, mv = .map (some b) := by
  refine h.fact fun q hq => ?_
  rcases hq with ⟨h1, h2, _⟩ | ⟨b, h1, _⟩
  · exact .inl ⟨h1, h2⟩
  · exact .inr ⟨b, h1⟩
section
variable {w0 : World} {A : Asn} {p : Nat} {mv av : Value} {l : List Me}
theorem mint_a {k : K4} {u : Value} {m : Nat} {ls : List (Value × List UInt8)} (rd : Rd w0 A u 1 m (Fl encV ls)) (al : Alls (GB w0) A ls) (hat : atF 0 l (k, flatB ls) = 0) (hb : (flatB ls).length ≤ 140737488355328) (hl : l.length ≤ 1048576) :
    Spec Try.prog w0 14 [.pointer (some ⟨p, 0, none⟩), .agg #[.int .i64 k.1, .int .i64 k.2.1, .int .i64 k.2.2.1, .int .i64 k.2.2.2], u] (A * pts p (.cells #[mv, av] 34 (0, 0)) * omap mv (l) * own 85 6 av (l).length (Fl encT85 (mintF 0 (l)))) (fun v' A' => v' = .int .i64 ((l.length + 1 : Nat) : Int) ∧ ∃ mv2 av2 J, A' = A * J * pts p (.cells #[mv2, av2] 34 (0, 0)) * omap mv2 ((l ++ [(k, flatB ls)])) * own 85 6 av2 ((l ++ [(k, flatB ls)])).length (Fl encT85 (mintF 0 ((l ++ [(k, flatB ls)]))))) := by
  obtain ⟨hg, hn⟩ := atF_zero hat
  have hml := mintF_length l 0
  refine Spec.of_run [(0, .pointer (some ⟨p, 0, none⟩)), (1, .agg #[.int .i64 k.1, .int .i64 k.2.1, .int .i64 k.2.2.1, .int .i64 k.2.2.2]), (2, u)] Try.func14 rfl (Nat.le_of_ble_eq_true rfl) (by repeat (first | exact trivial | refine ⟨rfl, ?_⟩)) ?_
  refine Run.know (fun w s => Sat.omapForm (s.conv (sep_last _ _ _))) (fun hmv => ?_)
  rcases hmv with ⟨rfl, rfl⟩ | ⟨b, rfl⟩
  · rw [omap_nil, sep_emp]
    refine Run.seq ?_
    refine Run.region ?_
    refine RunL.box rfl rfl (fun bx1 => ?_)
    refine RunL.ok (OpOk.assign rfl) rfl ?_
    refine RunL.nil ?_
    refine Run.seq ?_
    refine Run.know (fun w s => (s.conv (frl rfl)).ownRd0) (fun rdx2 => ?_)
    (apply Run.drawD [6] (by rfl) (sep_emp _).symm; case hchk => kernel_rfl)
    refine Sd.quiet 0 _ _ rfl rfl rfl rfl rfl (QOp.ok (fun X => OpOk.loadS rfl rfl ti25 rfl Blk.pts.left.left rfl)) ?_
    refine Sd.quiet 1 _ _ rfl rfl rfl rfl rfl (QOp.ok (fun X => OpOk.move rfl)) ?_
    apply Sd.make 5 (by rfl) (by rfl) (by rfl) (by rfl) (by rfl) (by rfl)
    case h =>
      intro Xx5 Kx5 hKx5
      refine RunL.mem (sep_emp _) ?_
      refine RunL.allocX ti91 rfl (fun vx6 => ?_)
      exact RunL.mem (Eq.trans rfl (gp2 rfl (sep_emp _).symm)) (hKx5 _)
    (refine Sd.exec 2 rfl rfl rfl rfl rfl ?hrest (by rfl) (fun Xx8 Kx8 hKx8 => ?_); case hrest => kernel_rfl)
    refine RunL.mem (fl2 (sep_emp _) (sep_emp _)) ?_
    refine RunL.call cal40 rfl (s40 rd.left.left.left.left al.left.left.left.left (by assumption)) rfl (fun vx9 Ax9 hx9 => ?_)
    obtain rfl := hx9
    refine RunL.know (fun w s => (s.conv rfl).ownRd0) (fun rdx10 => ?_)
    refine Sd.ret hKx8 (Eq.trans rfl (gp2 (sep_emp _).symm rfl)) ⟨_, (emp_sep _).symm⟩ ?_
    refine Sd.quiet 3 _ _ rfl rfl rfl rfl rfl (QOp.ok (fun X => OpOk.strOf rfl rfl rfl rfl (Rd.right rdx10).left)) ?_
    refine Sd.quiet 4 _ _ rfl rfl rfl rfl rfl (QOp.ok (fun X => OpOk.build (cells := #[.int (IntKind.i64) (k.fst), .int (IntKind.i64) (k.snd.fst), .int (IntKind.i64) (k.snd.snd.fst), .int (IntKind.i64) (k.snd.snd.snd), .string ({ data := (flatB ls).toArray })]) rfl (fun w => run_build w 91 _ _ (by rfl)))) ?_
    (refine Sd.take 5 _ ?hrest (fun vx11 hvx11 => ?_); case hrest => kernel_rfl)
    obtain ⟨bx11, rfl⟩ := boxOf hvx11
    rw [boxA_eq]
    (apply Sd.tail; case hall => kernel_rfl)
    refine RunL.mem (fl2 (flS rfl) (sep_emp _)) ?_
    refine RunL.storeAll ti91 rfl rfl rfl (ones rfl) rfl rfl ?_
    refine RunL.nil ?_
    refine Run.seq ?_
    (apply Run.drawD [] (by rfl) (sep_emp _).symm; case hchk => kernel_rfl)
    refine Sd.quiet 0 _ _ rfl rfl rfl rfl rfl (QOp.ok (fun X => OpOk.move rfl)) ?_
    refine Sd.quiet 1 _ _ rfl rfl rfl rfl rfl (QOp.ok (fun X => OpOk.nilOk rfl)) ?_
    refine Sd.quiet 2 _ _ rfl rfl rfl rfl rfl (QOp.ok (fun X => OpOk.fieldAddr fld34_0 rfl)) ?_
    refine Sd.quiet 3 _ _ rfl rfl rfl rfl rfl (QOp.ok (fun X => OpOk.load rfl rfl rfl (Blk.out Blk.pts.left.left.left.left.left.left _ _ (by first | rfl | assumption)))) ?_
    refine Sd.quiet 4 _ _ rfl rfl rfl rfl rfl (QOp.ok (fun X => OpOk.loadS rfl rfl ti91 rfl Blk.pts.left.left rfl)) ?_
    refine Sd.quiet 5 _ _ rfl rfl rfl rfl rfl (QOp.ok (fun X => OpOk.lookOkNil (a := ((k.fst, k.snd.fst, k.snd.snd.fst, k.snd.snd.snd), flatB ls)) mapT31 rfl rfl)) ?_
    refine Sd.quiet 6 _ _ rfl rfl rfl rfl rfl (QOp.ok (fun X => OpOk.move rfl)) ?_
    refine Sd.quiet 7 _ _ rfl rfl rfl rfl rfl (QOp.ok (fun X => OpOk.ext20 rfl)) ?_
    refine Sd.quiet 8 _ _ rfl rfl rfl rfl rfl (QOp.ok (fun X => OpOk.ext21 rfl)) ?_
    refine Sd.quiet 9 _ _ rfl rfl rfl rfl rfl (QOp.ok (fun X => OpOk.assign rfl)) ?_
    refine Sd.quiet 10 _ _ rfl rfl rfl rfl rfl (QOp.ok (fun X => OpOk.assign rfl)) ?_
    (apply Sd.tail; case hall => kernel_rfl)
    refine RunL.mem (fl2 (sep_emp _) (sep_emp _)) ?_
    refine RunL.nil ?_
    refine Run.seq ?_
    refine Run.seq ?_
    refine Run.region ?_
    refine RunL.ok (OpOk.move rfl) rfl ?_
    refine RunL.nil ?_
    refine Run.condF rfl ?_
    refine Run.skip ?_
    refine Run.seq ?_
    refine Run.seq ?_
    refine Run.region ?_
    refine RunL.ok (OpOk.move rfl) rfl ?_
    refine RunL.ok (OpOk.nilOk rfl) rfl ?_
    refine RunL.ok (OpOk.fieldAddr fld34_0 rfl) rfl ?_
    refine RunL.ok (OpOk.load rfl rfl rfl (Blk.out Blk.pts.left.left.left.left _ _ (by first | rfl | assumption))) rfl ?_
    refine RunL.ok (OpOk.eqlMap rfl rfl) rfl ?_
    refine RunL.nil ?_
    refine Run.condT rfl ?_
    refine Run.region ?_
    refine RunL.ok (OpOk.move rfl) rfl ?_
    refine RunL.makeM (ek := ekT31) (vv := vvT31) rfl (fun bx12 => ?_)
    refine RunL.ok (OpOk.nilOk rfl) rfl ?_
    refine RunL.ok (OpOk.fieldAddr fld34_0 rfl) rfl ?_
    refine RunL.store ti31 rfl rfl rfl (frl (frl (frl (frl (frl rfl))))) (by exact Nat.le_of_ble_eq_true rfl) (.inl rfl) ?_
    refine RunL.nil ?_
    refine Run.seq ?_
    refine Run.region ?_
    refine RunL.ok (OpOk.move rfl) rfl ?_
    refine RunL.ok (OpOk.nilOk rfl) rfl ?_
    refine RunL.ok (OpOk.fieldAddr fld34_1 rfl) rfl ?_
    refine RunL.ok (OpOk.load rfl rfl rfl (Blk.out Blk.pts _ _ (by first | rfl | assumption))) rfl ?_
    refine RunL.ok (OpOk.lenR rfl rfl (Rd.right rdx2).left.left.left.left.left rfl) rfl ?_
    refine RunL.ok (OpOk.addN _ 1 rfl rfl rfl rfl (by omega)) rfl ?_
    refine RunL.ok (OpOk.assign rfl) rfl ?_
    refine RunL.nil ?_
    refine Run.seq ?_
    (apply Run.drawD [6] (by rfl) (sep_emp _).symm; case hchk => kernel_rfl)
    refine Sd.quiet 0 _ _ rfl rfl rfl rfl rfl (QOp.ok (fun X => OpOk.move rfl)) ?_
    refine Sd.quiet 1 _ _ rfl rfl rfl rfl rfl (QOp.ok (fun X => OpOk.nilOk rfl)) ?_
    refine Sd.quiet 2 _ _ rfl rfl rfl rfl rfl (QOp.ok (fun X => OpOk.fieldAddr fld34_0 rfl)) ?_
    refine Sd.quiet 3 _ _ rfl rfl rfl rfl rfl (QOp.ok (fun X => OpOk.load rfl rfl rfl (Blk.out Blk.pts.left.left _ _ (by first | rfl | assumption)))) ?_
    refine Sd.quiet 4 _ _ rfl rfl rfl rfl rfl (QOp.ok (fun X => OpOk.loadS rfl rfl ti91 rfl Blk.pts.left.left.left.left rfl)) ?_
    refine Sd.quiet 5 _ _ rfl rfl rfl rfl rfl (QOp.ok (fun X => OpOk.move rfl)) ?_
    (apply Sd.tail; case hall => kernel_rfl)
    refine RunL.mem (fl2 (sep_emp _) (sep_emp _)) ?_
    refine RunL.mapPut (a := ((k.fst, k.snd.fst, k.snd.snd.fst, k.snd.snd.snd), flatB ls)) mapT31 rfl rfl rfl (frl rfl) ?_
    refine RunL.nil ?_
    refine Run.seq ?_
    (apply Run.drawD [14] (by rfl) (Eq.trans (frc (frl (frl (frl (frl (frl rfl))))) rfl) rfl); case hchk => kernel_rfl)
    refine Sd.quiet 0 _ _ rfl rfl rfl rfl rfl (QOp.ok (fun X => OpOk.move rfl)) ?_
    refine Sd.quiet 1 _ _ rfl rfl rfl rfl rfl (QOp.ok (fun X => OpOk.move rfl)) ?_
    refine Sd.quiet 2 _ _ rfl rfl rfl rfl rfl (QOp.ok (fun X => OpOk.nilOk rfl)) ?_
    refine Sd.quiet 3 _ _ rfl rfl rfl rfl rfl (QOp.ok (fun X => OpOk.fieldAddr fld34_1 rfl)) ?_
    refine Sd.quiet 4 _ _ rfl rfl rfl rfl rfl (QOp.ok (fun X => OpOk.load rfl rfl rfl (Blk.out Blk.pts.left.left.left _ _ (by first | rfl | assumption)))) ?_
    refine Sd.quiet 5 _ _ rfl rfl rfl rfl rfl (QOp.ok (fun X => OpOk.move rfl)) ?_
    refine Sd.quiet 6 _ _ rfl rfl rfl rfl rfl (QOp.ok (fun X => OpOk.loadS rfl rfl ti25 rfl Blk.pts.left.left.left.left.left.left rfl)) ?_
    refine Sd.quiet 7 _ _ rfl rfl rfl rfl rfl (QOp.ok (fun X => OpOk.fieldAddr fld91_1 rfl)) ?_
    refine Sd.quiet 8 _ _ rfl rfl rfl rfl rfl (QOp.ok (fun X => OpOk.load rfl rfl rfl (Blk.out Blk.pts.left.left.left.left _ _ (by first | rfl | assumption)))) ?_
    refine Sd.quiet 9 _ _ rfl rfl rfl rfl rfl (QOp.ok (fun X => OpOk.build (cells := #[.int (IntKind.i64) (↑([].length + 1)), .int (IntKind.i64) (k.fst), .int (IntKind.i64) (k.snd.fst), .int (IntKind.i64) (k.snd.snd.fst), .int (IntKind.i64) (k.snd.snd.snd), .string ({ data := (flatB ls).toArray })]) rfl (fun w => run_build w 85 _ _ (by rfl)))) ?_
    refine Sd.quiet 12 _ _ rfl rfl rfl rfl rfl (QOp.ok (fun X => OpOk.nilOk rfl)) ?_
    refine Sd.quiet 13 _ _ rfl rfl rfl rfl rfl (QOp.ok (fun X => OpOk.fieldAddr fld34_1 rfl)) ?_
    (refine Sd.exec 10 rfl rfl rfl rfl rfl ?hrest (by rfl) (fun Xx13 Kx13 hKx13 => ?_); case hrest => kernel_rfl)
    refine RunL.mem (fl2 (sep_emp _) rfl) ?_
    refine RunL.litFl (enc := encT85) [(↑([].length + 1), ((k.fst, (k.snd.fst, (k.snd.snd.fst, k.snd.snd.snd))), flatB ls))] rfl ti85 rfl (fun _ => rfl) rfl rfl (by decide) (by decide) rfl (fun vx14 rdx14 => ?_)
    refine RunL.know (fun w s => (s.conv rfl).ownRd0) (fun rdx15 => ?_)
    refine Sd.ret hKx13 (Eq.trans (frc (frl rfl) rfl) (gp2 rfl rfl)) ⟨_, (emp_sep _).symm⟩ ?_
    (refine Sd.exec 11 rfl rfl rfl rfl rfl ?hrest (by rfl) (fun Xx16 Kx16 hKx16 => ?_); case hrest => kernel_rfl)
    refine RunL.mem (fl2 rfl rfl) ?_
    refine RunL.appendF0 rfl ti85 rfl rfl rfl rfl (Rd.right rdx15).left rfl (by decide) (by omega) (by simp only [maxLen]; omega) rfl (fun vx17 rdx17 => ?_)
    refine RunL.know (fun w s => (s.conv rfl).ownRd0) (fun rdx18 => ?_)
    refine Sd.ret hKx16 (Eq.trans rfl (gp2 (sep_emp _).symm (asg rfl))) ⟨_, rfl⟩ ?_
    (apply Sd.tail; case hall => kernel_rfl)
    refine RunL.mem (fl2 (flS rfl) (sep_emp _)) ?_
    refine RunL.store ti32 rfl rfl (Rd.one rdx18) (frl (frl (frl rfl))) (by exact Nat.le_of_ble_eq_true rfl) (.inl rfl) ?_
    refine RunL.nil ?_
    refine Run.seq ?_
    refine Run.region ?_
    refine RunL.ok (OpOk.move rfl) rfl ?_
    refine RunL.ok (OpOk.assign rfl) rfl ?_
    refine RunL.nil ?_
    refine Run.ret1 Try.func14 rfl rfl ?_
    refine ⟨rfl, .map (some bx12), ?_⟩
    simp only [omap_some]
    exact ⟨_, _, (Eq.trans (frc (frl rfl) (frc (frl (frl rfl)) (frc rfl rfl))) (congrArg (· * _) (congrArg (· * _) (congrArg (· * _) (asg (asg (asg as1)))))))⟩
  · rw [omap_some]
    refine Run.seq ?_
    refine Run.region ?_
    refine RunL.box rfl rfl (fun bx1 => ?_)
    refine RunL.ok (OpOk.assign rfl) rfl ?_
    refine RunL.nil ?_
    refine Run.seq ?_
    refine Run.know (fun w s => (s.conv (frl rfl)).ownRd0) (fun rdx2 => ?_)
    (apply Run.drawD [6] (by rfl) (sep_emp _).symm; case hchk => kernel_rfl)
    refine Sd.quiet 0 _ _ rfl rfl rfl rfl rfl (QOp.ok (fun X => OpOk.loadS rfl rfl ti25 rfl Blk.pts.left.left rfl)) ?_
    refine Sd.quiet 1 _ _ rfl rfl rfl rfl rfl (QOp.ok (fun X => OpOk.move rfl)) ?_
    apply Sd.make 5 (by rfl) (by rfl) (by rfl) (by rfl) (by rfl) (by rfl)
    case h =>
      intro Xx5 Kx5 hKx5
      refine RunL.mem (sep_emp _) ?_
      refine RunL.allocX ti91 rfl (fun vx6 => ?_)
      exact RunL.mem (Eq.trans rfl (gp2 rfl (sep_emp _).symm)) (hKx5 _)
    (refine Sd.exec 2 rfl rfl rfl rfl rfl ?hrest (by rfl) (fun Xx8 Kx8 hKx8 => ?_); case hrest => kernel_rfl)
    refine RunL.mem (fl2 (sep_emp _) (sep_emp _)) ?_
    refine RunL.call cal40 rfl (s40 rd.left.left.left.left.left al.left.left.left.left.left (by assumption)) rfl (fun vx9 Ax9 hx9 => ?_)
    obtain rfl := hx9
    refine RunL.know (fun w s => (s.conv rfl).ownRd0) (fun rdx10 => ?_)
    refine Sd.ret hKx8 (Eq.trans rfl (gp2 (sep_emp _).symm rfl)) ⟨_, (emp_sep _).symm⟩ ?_
    refine Sd.quiet 3 _ _ rfl rfl rfl rfl rfl (QOp.ok (fun X => OpOk.strOf rfl rfl rfl rfl (Rd.right rdx10).left)) ?_
    refine Sd.quiet 4 _ _ rfl rfl rfl rfl rfl (QOp.ok (fun X => OpOk.build (cells := #[.int (IntKind.i64) (k.fst), .int (IntKind.i64) (k.snd.fst), .int (IntKind.i64) (k.snd.snd.fst), .int (IntKind.i64) (k.snd.snd.snd), .string ({ data := (flatB ls).toArray })]) rfl (fun w => run_build w 91 _ _ (by rfl)))) ?_
    (refine Sd.take 5 _ ?hrest (fun vx11 hvx11 => ?_); case hrest => kernel_rfl)
    obtain ⟨bx11, rfl⟩ := boxOf hvx11
    rw [boxA_eq]
    (apply Sd.tail; case hall => kernel_rfl)
    refine RunL.mem (fl2 (flS rfl) (sep_emp _)) ?_
    refine RunL.storeAll ti91 rfl rfl rfl (ones rfl) rfl rfl ?_
    refine RunL.nil ?_
    refine Run.seq ?_
    (apply Run.drawD [] (by rfl) (sep_emp _).symm; case hchk => kernel_rfl)
    refine Sd.quiet 0 _ _ rfl rfl rfl rfl rfl (QOp.ok (fun X => OpOk.move rfl)) ?_
    refine Sd.quiet 1 _ _ rfl rfl rfl rfl rfl (QOp.ok (fun X => OpOk.nilOk rfl)) ?_
    refine Sd.quiet 2 _ _ rfl rfl rfl rfl rfl (QOp.ok (fun X => OpOk.fieldAddr fld34_0 rfl)) ?_
    refine Sd.quiet 3 _ _ rfl rfl rfl rfl rfl (QOp.ok (fun X => OpOk.load rfl rfl rfl (Blk.out Blk.pts.left.left.left.left.left.left.left _ _ (by first | rfl | assumption)))) ?_
    refine Sd.quiet 4 _ _ rfl rfl rfl rfl rfl (QOp.ok (fun X => OpOk.loadS rfl rfl ti91 rfl Blk.pts.left.left rfl)) ?_
    refine Sd.quiet 5 _ _ rfl rfl rfl rfl rfl (QOp.ok (fun X => OpOk.lookOkF (a := ((k.fst, k.snd.fst, k.snd.snd.fst, k.snd.snd.snd), flatB ls)) mapT31 MapAt.here.left.left.left.left.left.left rfl rfl (by first | assumption | rfl))) ?_
    refine Sd.quiet 6 _ _ rfl rfl rfl rfl rfl (QOp.ok (fun X => OpOk.move rfl)) ?_
    refine Sd.quiet 7 _ _ rfl rfl rfl rfl rfl (QOp.ok (fun X => OpOk.ext20 rfl)) ?_
    refine Sd.quiet 8 _ _ rfl rfl rfl rfl rfl (QOp.ok (fun X => OpOk.ext21 rfl)) ?_
    refine Sd.quiet 9 _ _ rfl rfl rfl rfl rfl (QOp.ok (fun X => OpOk.assign rfl)) ?_
    refine Sd.quiet 10 _ _ rfl rfl rfl rfl rfl (QOp.ok (fun X => OpOk.assign rfl)) ?_
    (apply Sd.tail; case hall => kernel_rfl)
    refine RunL.mem (fl2 (sep_emp _) (sep_emp _)) ?_
    refine RunL.nil ?_
    refine Run.seq ?_
    refine Run.seq ?_
    refine Run.region ?_
    refine RunL.ok (OpOk.move rfl) rfl ?_
    refine RunL.nil ?_
    refine Run.condF rfl ?_
    refine Run.skip ?_
    refine Run.seq ?_
    refine Run.seq ?_
    refine Run.region ?_
    refine RunL.ok (OpOk.move rfl) rfl ?_
    refine RunL.ok (OpOk.nilOk rfl) rfl ?_
    refine RunL.ok (OpOk.fieldAddr fld34_0 rfl) rfl ?_
    refine RunL.ok (OpOk.load rfl rfl rfl (Blk.out Blk.pts.left.left.left.left.left _ _ (by first | rfl | assumption))) rfl ?_
    refine RunL.ok (OpOk.eqlMap rfl rfl) rfl ?_
    refine RunL.nil ?_
    refine Run.condF rfl ?_
    refine Run.skip ?_
    refine Run.seq ?_
    refine Run.region ?_
    refine RunL.ok (OpOk.move rfl) rfl ?_
    refine RunL.ok (OpOk.nilOk rfl) rfl ?_
    refine RunL.ok (OpOk.fieldAddr fld34_1 rfl) rfl ?_
    refine RunL.ok (OpOk.load rfl rfl rfl (Blk.out Blk.pts.left.left.left.left.left _ _ (by first | rfl | assumption))) rfl ?_
    refine RunL.ok (OpOk.lenR rfl rfl (Rd.right rdx2).left.left.left rfl) rfl ?_
    refine RunL.ok (OpOk.addN _ 1 rfl rfl rfl rfl (by omega)) rfl ?_
    refine RunL.ok (OpOk.assign rfl) rfl ?_
    refine RunL.nil ?_
    refine Run.seq ?_
    (apply Run.drawD [6] (by rfl) (sep_emp _).symm; case hchk => kernel_rfl)
    refine Sd.quiet 0 _ _ rfl rfl rfl rfl rfl (QOp.ok (fun X => OpOk.move rfl)) ?_
    refine Sd.quiet 1 _ _ rfl rfl rfl rfl rfl (QOp.ok (fun X => OpOk.nilOk rfl)) ?_
    refine Sd.quiet 2 _ _ rfl rfl rfl rfl rfl (QOp.ok (fun X => OpOk.fieldAddr fld34_0 rfl)) ?_
    refine Sd.quiet 3 _ _ rfl rfl rfl rfl rfl (QOp.ok (fun X => OpOk.load rfl rfl rfl (Blk.out Blk.pts.left.left.left.left.left.left.left _ _ (by first | rfl | assumption)))) ?_
    refine Sd.quiet 4 _ _ rfl rfl rfl rfl rfl (QOp.ok (fun X => OpOk.loadS rfl rfl ti91 rfl Blk.pts.left.left rfl)) ?_
    refine Sd.quiet 5 _ _ rfl rfl rfl rfl rfl (QOp.ok (fun X => OpOk.move rfl)) ?_
    (apply Sd.tail; case hall => kernel_rfl)
    refine RunL.mem (fl2 (sep_emp _) (sep_emp _)) ?_
    refine RunL.mapPut (a := ((k.fst, k.snd.fst, k.snd.snd.fst, k.snd.snd.snd), flatB ls)) mapT31 rfl rfl rfl (frl (frl (frl (frl rfl)))) ?_
    refine RunL.nil ?_
    refine Run.seq ?_
    (apply Run.drawD [14] (by rfl) (Eq.trans (frc (frl (frl (frl (frl rfl)))) rfl) rfl); case hchk => kernel_rfl)
    refine Sd.quiet 0 _ _ rfl rfl rfl rfl rfl (QOp.ok (fun X => OpOk.move rfl)) ?_
    refine Sd.quiet 1 _ _ rfl rfl rfl rfl rfl (QOp.ok (fun X => OpOk.move rfl)) ?_
    refine Sd.quiet 2 _ _ rfl rfl rfl rfl rfl (QOp.ok (fun X => OpOk.nilOk rfl)) ?_
    refine Sd.quiet 3 _ _ rfl rfl rfl rfl rfl (QOp.ok (fun X => OpOk.fieldAddr fld34_1 rfl)) ?_
    refine Sd.quiet 4 _ _ rfl rfl rfl rfl rfl (QOp.ok (fun X => OpOk.load rfl rfl rfl (Blk.out Blk.pts.left.left.left.left.left.left _ _ (by first | rfl | assumption)))) ?_
    refine Sd.quiet 5 _ _ rfl rfl rfl rfl rfl (QOp.ok (fun X => OpOk.move rfl)) ?_
    refine Sd.quiet 6 _ _ rfl rfl rfl rfl rfl (QOp.ok (fun X => OpOk.loadS rfl rfl ti25 rfl Blk.pts.left.left.left.left.left rfl)) ?_
    refine Sd.quiet 7 _ _ rfl rfl rfl rfl rfl (QOp.ok (fun X => OpOk.fieldAddr fld91_1 rfl)) ?_
    refine Sd.quiet 8 _ _ rfl rfl rfl rfl rfl (QOp.ok (fun X => OpOk.load rfl rfl rfl (Blk.out Blk.pts.left.left.left _ _ (by first | rfl | assumption)))) ?_
    refine Sd.quiet 9 _ _ rfl rfl rfl rfl rfl (QOp.ok (fun X => OpOk.build (cells := #[.int (IntKind.i64) (↑(l.length + 1)), .int (IntKind.i64) (k.fst), .int (IntKind.i64) (k.snd.fst), .int (IntKind.i64) (k.snd.snd.fst), .int (IntKind.i64) (k.snd.snd.snd), .string ({ data := (flatB ls).toArray })]) rfl (fun w => run_build w 85 _ _ (by rfl)))) ?_
    refine Sd.quiet 12 _ _ rfl rfl rfl rfl rfl (QOp.ok (fun X => OpOk.nilOk rfl)) ?_
    refine Sd.quiet 13 _ _ rfl rfl rfl rfl rfl (QOp.ok (fun X => OpOk.fieldAddr fld34_1 rfl)) ?_
    (refine Sd.exec 10 rfl rfl rfl rfl rfl ?hrest (by rfl) (fun Xx12 Kx12 hKx12 => ?_); case hrest => kernel_rfl)
    refine RunL.mem (fl2 (sep_emp _) rfl) ?_
    refine RunL.litFl (enc := encT85) [(↑(l.length + 1), ((k.fst, (k.snd.fst, (k.snd.snd.fst, k.snd.snd.snd))), flatB ls))] rfl ti85 rfl (fun _ => rfl) rfl rfl (by decide) (by decide) rfl (fun vx13 rdx13 => ?_)
    refine RunL.know (fun w s => (s.conv rfl).ownRd0) (fun rdx14 => ?_)
    refine Sd.ret hKx12 (Eq.trans (frc (frl rfl) rfl) (gp2 rfl rfl)) ⟨_, (emp_sep _).symm⟩ ?_
    (refine Sd.exec 11 rfl rfl rfl rfl rfl ?hrest (by rfl) (fun Xx15 Kx15 hKx15 => ?_); case hrest => kernel_rfl)
    refine RunL.mem (fl2 rfl rfl) ?_
    refine RunL.appendF rfl ti85 rfl rfl rfl rfl (Rd.right rdx14).left rfl (by decide) (by omega) (by simp only [maxLen]; omega) rfl (fun vx16 rdx16 => ?_)
    refine RunL.know (fun w s => (s.conv rfl).ownRd0) (fun rdx17 => ?_)
    refine Sd.ret hKx15 (Eq.trans rfl (gp2 (sep_emp _).symm (asg rfl))) ⟨_, rfl⟩ ?_
    (apply Sd.tail; case hall => kernel_rfl)
    refine RunL.mem (fl2 (flS rfl) (sep_emp _)) ?_
    refine RunL.store ti32 rfl rfl (Rd.one rdx17) (frl (frl (frl (frl (frl (frl rfl)))))) (by exact Nat.le_of_ble_eq_true rfl) (.inl rfl) ?_
    refine RunL.nil ?_
    refine Run.seq ?_
    refine Run.region ?_
    refine RunL.ok (OpOk.move rfl) rfl ?_
    refine RunL.ok (OpOk.assign rfl) rfl ?_
    refine RunL.nil ?_
    refine Run.ret1 Try.func14 rfl rfl ?_
    refine ⟨rfl, .map (some b), ?_⟩
    simp only [omap_some]
    rw [mput_new hg]
    have hd : dictF 0 (l ++ [(k, flatB ls)]) = dictF 0 l ++ [((k, flatB ls), ((l.length + 1 : Nat) : Int))] := by
      have := dictF_snoc l 0 (k, flatB ls)
      rwa [Nat.zero_add] at this
    have hmn : mintF 0 (l ++ [(k, flatB ls)]) = mintF 0 l ++ [(((l.length + 1 : Nat) : Int), k, flatB ls)] := by
      have := mintF_snoc l 0 (k, flatB ls)
      rwa [Nat.zero_add] at this
    have hln : (l ++ [(k, flatB ls)]).length = l.length + 1 := by simp
    rw [hd, hmn, hln]
    exact ⟨_, _, (Eq.trans (frc (frl rfl) (frc (frl (frl rfl)) (frc rfl rfl))) (congrArg (· * _) (congrArg (· * _) (congrArg (· * _) (asg (asg (asg as1)))))))⟩
theorem mint_b {k : K4} {u : Value} {m : Nat} {ls : List (Value × List UInt8)} (rd : Rd w0 A u 1 m (Fl encV ls)) (al : Alls (GB w0) A ls) (hat : atF 0 l (k, flatB ls) ≠ 0) (hb : (flatB ls).length ≤ 140737488355328) (hl : l.length ≤ 1048576) :
    Spec Try.prog w0 14 [.pointer (some ⟨p, 0, none⟩), .agg #[.int .i64 k.1, .int .i64 k.2.1, .int .i64 k.2.2.1, .int .i64 k.2.2.2], u] (A * pts p (.cells #[mv, av] 34 (0, 0)) * omap mv (l) * own 85 6 av (l).length (Fl encT85 (mintF 0 (l)))) (fun v' A' => v' = .int .i64 ((atF 0 l (k, flatB ls) : Nat) : Int) ∧ ∃ J, A' = A * J * pts p (.cells #[mv, av] 34 (0, 0)) * omap mv (l) * own 85 6 av (l).length (Fl encT85 (mintF 0 (l)))) := by
  obtain ⟨hg, hn⟩ := atF_pos hat
  refine Spec.of_run [(0, .pointer (some ⟨p, 0, none⟩)), (1, .agg #[.int .i64 k.1, .int .i64 k.2.1, .int .i64 k.2.2.1, .int .i64 k.2.2.2]), (2, u)] Try.func14 rfl (Nat.le_of_ble_eq_true rfl) (by repeat (first | exact trivial | refine ⟨rfl, ?_⟩)) ?_
  refine Run.know (fun w s => Sat.omapForm (s.conv (sep_last _ _ _))) (fun hmv => ?_)
  rcases hmv with ⟨rfl, rfl⟩ | ⟨b, rfl⟩
  · exact absurd rfl hat
  · simp only [omap_some]
    refine Run.seq ?_
    refine Run.region ?_
    refine RunL.box rfl rfl (fun bx1 => ?_)
    refine RunL.ok (OpOk.assign rfl) rfl ?_
    refine RunL.nil ?_
    refine Run.seq ?_
    refine Run.know (fun w s => (s.conv (frl rfl)).ownRd0) (fun rdx2 => ?_)
    (apply Run.drawD [6] (by rfl) (sep_emp _).symm; case hchk => kernel_rfl)
    refine Sd.quiet 0 _ _ rfl rfl rfl rfl rfl (QOp.ok (fun X => OpOk.loadS rfl rfl ti25 rfl Blk.pts.left.left rfl)) ?_
    refine Sd.quiet 1 _ _ rfl rfl rfl rfl rfl (QOp.ok (fun X => OpOk.move rfl)) ?_
    apply Sd.make 5 (by rfl) (by rfl) (by rfl) (by rfl) (by rfl) (by rfl)
    case h =>
      intro Xx5 Kx5 hKx5
      refine RunL.mem (sep_emp _) ?_
      refine RunL.allocX ti91 rfl (fun vx6 => ?_)
      exact RunL.mem (Eq.trans rfl (gp2 rfl (sep_emp _).symm)) (hKx5 _)
    (refine Sd.exec 2 rfl rfl rfl rfl rfl ?hrest (by rfl) (fun Xx8 Kx8 hKx8 => ?_); case hrest => kernel_rfl)
    refine RunL.mem (fl2 (sep_emp _) (sep_emp _)) ?_
    refine RunL.call cal40 rfl (s40 rd.left.left.left.left.left al.left.left.left.left.left (by assumption)) rfl (fun vx9 Ax9 hx9 => ?_)
    obtain rfl := hx9
    refine RunL.know (fun w s => (s.conv rfl).ownRd0) (fun rdx10 => ?_)
    refine Sd.ret hKx8 (Eq.trans rfl (gp2 (sep_emp _).symm rfl)) ⟨_, (emp_sep _).symm⟩ ?_
    refine Sd.quiet 3 _ _ rfl rfl rfl rfl rfl (QOp.ok (fun X => OpOk.strOf rfl rfl rfl rfl (Rd.right rdx10).left)) ?_
    refine Sd.quiet 4 _ _ rfl rfl rfl rfl rfl (QOp.ok (fun X => OpOk.build (cells := #[.int (IntKind.i64) (k.fst), .int (IntKind.i64) (k.snd.fst), .int (IntKind.i64) (k.snd.snd.fst), .int (IntKind.i64) (k.snd.snd.snd), .string ({ data := (flatB ls).toArray })]) rfl (fun w => run_build w 91 _ _ (by rfl)))) ?_
    (refine Sd.take 5 _ ?hrest (fun vx11 hvx11 => ?_); case hrest => kernel_rfl)
    obtain ⟨bx11, rfl⟩ := boxOf hvx11
    rw [boxA_eq]
    (apply Sd.tail; case hall => kernel_rfl)
    refine RunL.mem (fl2 (flS rfl) (sep_emp _)) ?_
    refine RunL.storeAll ti91 rfl rfl rfl (ones rfl) rfl rfl ?_
    refine RunL.nil ?_
    refine Run.seq ?_
    (apply Run.drawD [] (by rfl) (sep_emp _).symm; case hchk => kernel_rfl)
    refine Sd.quiet 0 _ _ rfl rfl rfl rfl rfl (QOp.ok (fun X => OpOk.move rfl)) ?_
    refine Sd.quiet 1 _ _ rfl rfl rfl rfl rfl (QOp.ok (fun X => OpOk.nilOk rfl)) ?_
    refine Sd.quiet 2 _ _ rfl rfl rfl rfl rfl (QOp.ok (fun X => OpOk.fieldAddr fld34_0 rfl)) ?_
    refine Sd.quiet 3 _ _ rfl rfl rfl rfl rfl (QOp.ok (fun X => OpOk.load rfl rfl rfl (Blk.out Blk.pts.left.left.left.left.left.left.left _ _ (by first | rfl | assumption)))) ?_
    refine Sd.quiet 4 _ _ rfl rfl rfl rfl rfl (QOp.ok (fun X => OpOk.loadS rfl rfl ti91 rfl Blk.pts.left.left rfl)) ?_
    refine Sd.quiet 5 _ _ rfl rfl rfl rfl rfl (QOp.ok (fun X => OpOk.lookOkT (a := ((k.fst, k.snd.fst, k.snd.snd.fst, k.snd.snd.snd), flatB ls)) mapT31 MapAt.here.left.left.left.left.left.left rfl rfl (by assumption))) ?_
    refine Sd.quiet 6 _ _ rfl rfl rfl rfl rfl (QOp.ok (fun X => OpOk.move rfl)) ?_
    refine Sd.quiet 7 _ _ rfl rfl rfl rfl rfl (QOp.ok (fun X => OpOk.ext20 rfl)) ?_
    refine Sd.quiet 8 _ _ rfl rfl rfl rfl rfl (QOp.ok (fun X => OpOk.ext21 rfl)) ?_
    refine Sd.quiet 9 _ _ rfl rfl rfl rfl rfl (QOp.ok (fun X => OpOk.assign rfl)) ?_
    refine Sd.quiet 10 _ _ rfl rfl rfl rfl rfl (QOp.ok (fun X => OpOk.assign rfl)) ?_
    (apply Sd.tail; case hall => kernel_rfl)
    refine RunL.mem (fl2 (sep_emp _) (sep_emp _)) ?_
    refine RunL.nil ?_
    refine Run.seq ?_
    refine Run.seq ?_
    refine Run.region ?_
    refine RunL.ok (OpOk.move rfl) rfl ?_
    refine RunL.nil ?_
    refine Run.condT rfl ?_
    refine Run.seq ?_
    refine Run.region ?_
    refine RunL.ok (OpOk.move rfl) rfl ?_
    refine RunL.ok (OpOk.assign rfl) rfl ?_
    refine RunL.nil ?_
    refine Run.ret1 Try.func14 rfl rfl ?_
    refine ⟨rfl, ?_⟩
    exact ⟨_, (Eq.trans (frc (frl (frl (frl rfl))) (frc (frl (frl (frl rfl))) (frc (frl (frl (frl rfl))) rfl))) (congrArg (· * _) (congrArg (· * _) (congrArg (· * _) (asg (asg as1))))))⟩
theorem s14a {a b c d : Int} {u : Value} {m : Nat} {ls : List (Value × List UInt8)} (rd : Rd w0 A u 1 m (Fl encV ls)) (al : Alls (GB w0) A ls) (hat : atF 0 l ((a, b, c, d), flatB ls) = 0) (hb : (flatB ls).length ≤ 140737488355328) (hl : l.length ≤ 1048576) :
    Spec Try.prog w0 14 [.pointer (some ⟨p, 0, none⟩), .agg #[.int .i64 a, .int .i64 b, .int .i64 c, .int .i64 d], u] (A * pts p (.cells #[mv, av] 34 (0, 0)) * omap mv (l) * own 85 6 av (l).length (Fl encT85 (mintF 0 (l)))) (fun v' A' => v' = .int .i64 ((l.length + 1 : Nat) : Int) ∧ ∃ mv2 av2 J, A' = A * J * pts p (.cells #[mv2, av2] 34 (0, 0)) * omap mv2 ((l ++ [((a, b, c, d), flatB ls)])) * own 85 6 av2 ((l ++ [((a, b, c, d), flatB ls)])).length (Fl encT85 (mintF 0 ((l ++ [((a, b, c, d), flatB ls)]))))) :=
  mint_a (k := (a, b, c, d)) rd al hat hb hl
theorem s14b {a b c d : Int} {u : Value} {m : Nat} {ls : List (Value × List UInt8)} (rd : Rd w0 A u 1 m (Fl encV ls)) (al : Alls (GB w0) A ls) (hat : atF 0 l ((a, b, c, d), flatB ls) ≠ 0) (hb : (flatB ls).length ≤ 140737488355328) (hl : l.length ≤ 1048576) :
    Spec Try.prog w0 14 [.pointer (some ⟨p, 0, none⟩), .agg #[.int .i64 a, .int .i64 b, .int .i64 c, .int .i64 d], u] (A * pts p (.cells #[mv, av] 34 (0, 0)) * omap mv (l) * own 85 6 av (l).length (Fl encT85 (mintF 0 (l)))) (fun v' A' => v' = .int .i64 ((atF 0 l ((a, b, c, d), flatB ls) : Nat) : Int) ∧ ∃ J, A' = A * J * pts p (.cells #[mv, av] 34 (0, 0)) * omap mv (l) * own 85 6 av (l).length (Fl encT85 (mintF 0 (l)))) :=
  mint_b (k := (a, b, c, d)) rd al hat hb hl
end
end Go.Proofs.Ytlmehpjcmdipmaa
