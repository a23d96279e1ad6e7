/- Messages; slices.Delete of messages. -/
import Derived.Test.YtegbfnibjgpbpaaSto
import Derived.Test.YtegbfnibjgpbpaaLib
namespace Go.Proofs.Ytegbfnibjgpbpaa
open Go Go.Proofs
set_option maxRecDepth 100000
set_option maxHeartbeats 4000000
set_option linter.unusedSimpArgs false
/-- Kind, from, to, the body's slice, the token; the body. -/
abbrev Ms := Int × Int × Int × SV × Int × List UInt8
def encT82 : Ms → List Value := fun (k, f, t, v, o, _) => [.int .i64 k, .int .i64 f, .int .i64 t, v.1, .int .i64 o]
instance : OneC encT82 := ⟨fun ⟨k, f, t, v, o, b⟩ u hu => by
  simp only [encT82, List.mem_cons, List.not_mem_nil, or_false] at hu
  rcases hu with rfl | rfl | rfl | rfl | rfl
  · rfl
  · rfl
  · rfl
  · exact v.2
  · rfl⟩
theorem Fl_M_len (l : List Ms) : (Fl encT82 l).length = l.length * 5 := by
  induction l with
  | nil => rfl
  | cons x r ih =>
    rw [show Fl encT82 (x :: r) = encT82 x ++ Fl encT82 r from rfl, List.length_append, ih, List.length_cons, show (encT82 x).length = 5 from rfl]
    omega
theorem Fl_app {α : Type} {enc : α → List Value} (a b : List α) : Fl enc (a ++ b) = Fl enc a ++ Fl enc b := by
  unfold Fl; rw [List.flatMap_append]
theorem s82 {w0 : World} {A : Asn} {v : Value} {m i j : Nat} {ss : List Ms} (hij : i < j) (hj : j ≤ m) (hmx : m ≤ 9223372036854775807) :
    Spec Try.prog w0 82 [v, .int .i64 (i : Int), .int .i64 (j : Int)] (A * own 82 5 v m (Fl encT82 ss)) (fun v' A' => A' = A * own 82 5 v' (m - (j - i)) (Fl encT82 (ss.take i ++ ss.drop j))) := by
  refine Spec.openOwn (by omega) (fun g cap cs h1 h2 h3 h4 => ?_)
  have hone : ∀ q c, q + c ≤ m → ∀ u ∈ (cs.drop (q * 5)).take (c * 5), u.oneCell' = true := fun q c hq u hu => by
    refine Fl_one (enc := encT82) ss u ?_
    rw [← h4]
    have e : (cs.drop (q * 5)).take (c * 5) = ((cs.take (m * 5)).drop (q * 5)).take (c * 5) := by
      rw [List.drop_take, List.take_take, show min (c * 5) (m * 5 - q * 5) = c * 5 by omega]
    rw [e] at hu
    exact List.mem_of_mem_drop (List.mem_of_mem_take hu)
  simp only [maxLen] at h2
  refine Spec.ent (R := fun v' A' => ∃ (cs' : List Value), A' = A * emp * pts g (.cells cs'.toArray 82 (0, 0)) ∧ v' = .slice (some ⟨g, 0, none⟩) (i + (m - j)) cap ∧ cs'.length = cap * 5 ∧ cs'.take ((i + (m - j)) * 5) = (Fl encT82 ss).take (i * 5) ++ (Fl encT82 ss).drop (j * 5)) (fun v' A' h => ?_) ?_
  · obtain ⟨cs', rfl, rfl, h5, h6⟩ := h
    have hl : (Fl encT82 ss).length = m * 5 := by
      rw [← h4, List.length_take]
      omega
    have hl2 := Fl_M_len ss
    have hn : m - (j - i) = i + (m - j) := by omega
    refine ⟨_, fun w hs => ?_, rfl⟩
    rw [hn]
    refine hs.own_of_list ?_ (by omega) (by simp only [maxLen]; omega) h5 ?_
    · rw [Fl_M_len, List.length_append, List.length_take, List.length_drop]
      omega
    · rw [h6, Fl_app, FlTake (enc := encT82) (s := 5) (fun _ => rfl), FlDrop (enc := encT82) (s := 5) (fun _ => rfl)]
  refine Spec.of_run [(0, .slice (some ⟨g, 0, none⟩) m cap), (1, .int .i64 (i : Int)), (2, .int .i64 (j : Int))] Try.func82 rfl (Nat.le_of_ble_eq_true rfl) (by repeat (first | exact trivial | refine ⟨rfl, ?_⟩)) ?_
  rcases Nat.lt_or_ge j cap with hc | hc
  · refine Run.seq ?_
    refine Run.region ?_
    refine RunL.ok (OpOk.assign rfl) rfl ?_
    refine RunL.nil ?_
    refine Run.seq ?_
    refine Run.region ?_
    refine RunL.ok (OpOk.move rfl) rfl ?_
    refine RunL.ok (OpOk.move rfl) rfl ?_
    refine RunL.ok (OpOk.move rfl) rfl ?_
    refine RunL.ok (OpOk.move rfl) rfl ?_
    refine RunL.ok (OpOk.lenV rfl rfl rfl) rfl ?_
    refine RunL.ok (OpOk.cutC3 rfl ti82 rfl ⟨_, rfl⟩ ⟨_, rfl⟩ ⟨_, rfl⟩ (by omega) (by omega) (by omega)) rfl ?_
    refine RunL.nil ?_
    refine Run.seq ?_
    refine Run.seq ?_
    refine Run.region ?_
    refine RunL.ok (OpOk.move rfl) rfl ?_
    refine RunL.ok (OpOk.move rfl) rfl ?_
    refine RunL.ok (OpOk.asF (OpOk.eql rfl rfl) (by omega)) rfl ?_
    refine RunL.nil ?_
    refine Run.condF rfl ?_
    refine Run.skip ?_
    refine Run.seq ?_
    refine Run.region ?_
    refine RunL.ok (OpOk.move rfl) rfl ?_
    refine RunL.ok (OpOk.lenV rfl rfl rfl) rfl ?_
    refine RunL.ok (OpOk.assign rfl) rfl ?_
    refine RunL.nil ?_
    refine Run.seq ?_
    (apply Run.drawD [7] (by rfl) (Eq.trans rfl rfl); case hchk => kernel_rfl)
    refine Sd.quiet 0 _ _ rfl rfl rfl rfl rfl (QOp.ok (fun X => OpOk.move rfl)) ?_
    refine Sd.quiet 1 _ _ rfl rfl rfl rfl rfl (QOp.ok (fun X => OpOk.move rfl)) ?_
    refine Sd.quiet 2 _ _ rfl rfl rfl rfl rfl (QOp.ok (fun X => OpOk.cutC0 rfl ti82 rfl ⟨_, rfl⟩ (by omega))) ?_
    refine Sd.quiet 3 _ _ rfl rfl rfl rfl rfl (QOp.ok (fun X => OpOk.move rfl)) ?_
    refine Sd.quiet 4 _ _ rfl rfl rfl rfl rfl (QOp.ok (fun X => OpOk.move rfl)) ?_
    refine Sd.quiet 5 _ _ rfl rfl rfl rfl rfl (QOp.ok (fun X => OpOk.cutCp rfl ti82 rfl ⟨_, rfl⟩ rfl (by omega) (by omega) (by omega))) ?_
    (refine Sd.exec 6 rfl rfl rfl rfl rfl ?hrest (by rfl) (fun Xx1 Kx1 hKx1 => ?_); case hrest => kernel_rfl)
    refine RunL.mem (fl2 (sep_emp _) rfl) ?_
    refine RunL.appendIn rfl ti82 rfl rfl rfl ⟨_, _, rfl, by omega, fun _ => by first | rfl | (rw [if_neg (by omega)])⟩ rfl (by omega) (by omega) (by omega) (by first | assumption | exact hone _ _ (by omega)) rfl ?_
    refine Sd.ret hKx1 (Eq.trans rfl (gp2 (sep_emp _).symm rfl)) ⟨_, (emp_sep _).symm⟩ ?_
    (apply Sd.tail; case hall => kernel_rfl)
    refine RunL.mem (fl2 rfl (sep_emp _)) ?_
    refine RunL.ok (OpOk.assign rfl) rfl ?_
    refine RunL.nil ?_
    refine Run.seq ?_
    refine Run.region ?_
    refine RunL.ok (OpOk.move rfl) rfl ?_
    refine RunL.ok (OpOk.move rfl) rfl ?_
    refine RunL.ok (OpOk.lenV rfl rfl rfl) rfl ?_
    refine RunL.ok (OpOk.move rfl) rfl ?_
    refine RunL.ok (OpOk.cutCp rfl ti82 rfl ⟨_, rfl⟩ ⟨_, rfl⟩ (by omega) (by omega) (by omega)) rfl ?_
    refine RunL.clearAt rfl ti82 rfl rfl ⟨_, _, rfl, fun _ => by first | rfl | (rw [if_neg (by omega)])⟩ rfl rfl (by first | assumption | (simp only [List.length_append, List.length_take, List.length_drop]; omega)) (by decide) (fun zsx3 hzx3 => ?_)
    refine RunL.nil ?_
    refine Run.seq ?_
    refine Run.region ?_
    refine RunL.ok (OpOk.move rfl) rfl ?_
    refine RunL.ok (OpOk.assign rfl) rfl ?_
    refine RunL.nil ?_
    refine Run.ret1 Try.func82 rfl rfl ?_
    have hz := (by assumption : List.length _ = (m - (i + (m - j))) * 5)
    have hd := del_list hij hj h1 h3 rfl hz
    refine ⟨_, by rw [sep_emp], rfl, ?_, ?_⟩
    · simpa using hd.2.1
    · rw [← h4]
      simpa using hd.2.2
  · obtain rfl : j = cap := by omega
    have hone0 : ∀ u ∈ (cs.drop 0).take ((m - j) * 5), u.oneCell' = true := fun u hu => hone 0 (m - j) (by omega) u (by simpa using hu)
    refine Run.seq ?_
    refine Run.region ?_
    refine RunL.ok (OpOk.assign rfl) rfl ?_
    refine RunL.nil ?_
    refine Run.seq ?_
    refine Run.region ?_
    refine RunL.ok (OpOk.move rfl) rfl ?_
    refine RunL.ok (OpOk.move rfl) rfl ?_
    refine RunL.ok (OpOk.move rfl) rfl ?_
    refine RunL.ok (OpOk.move rfl) rfl ?_
    refine RunL.ok (OpOk.lenV rfl rfl rfl) rfl ?_
    refine RunL.ok (OpOk.cutC3 rfl ti82 rfl ⟨_, rfl⟩ ⟨_, rfl⟩ ⟨_, rfl⟩ (by omega) (by omega) (by omega)) rfl ?_
    refine RunL.nil ?_
    refine Run.seq ?_
    refine Run.seq ?_
    refine Run.region ?_
    refine RunL.ok (OpOk.move rfl) rfl ?_
    refine RunL.ok (OpOk.move rfl) rfl ?_
    refine RunL.ok (OpOk.asF (OpOk.eql rfl rfl) (by omega)) rfl ?_
    refine RunL.nil ?_
    refine Run.condF rfl ?_
    refine Run.skip ?_
    refine Run.seq ?_
    refine Run.region ?_
    refine RunL.ok (OpOk.move rfl) rfl ?_
    refine RunL.ok (OpOk.lenV rfl rfl rfl) rfl ?_
    refine RunL.ok (OpOk.assign rfl) rfl ?_
    refine RunL.nil ?_
    refine Run.seq ?_
    (apply Run.drawD [7] (by rfl) (Eq.trans rfl rfl); case hchk => kernel_rfl)
    refine Sd.quiet 0 _ _ rfl rfl rfl rfl rfl (QOp.ok (fun X => OpOk.move rfl)) ?_
    refine Sd.quiet 1 _ _ rfl rfl rfl rfl rfl (QOp.ok (fun X => OpOk.move rfl)) ?_
    refine Sd.quiet 2 _ _ rfl rfl rfl rfl rfl (QOp.ok (fun X => OpOk.cutC0 rfl ti82 rfl ⟨_, rfl⟩ (by omega))) ?_
    refine Sd.quiet 3 _ _ rfl rfl rfl rfl rfl (QOp.ok (fun X => OpOk.move rfl)) ?_
    refine Sd.quiet 4 _ _ rfl rfl rfl rfl rfl (QOp.ok (fun X => OpOk.move rfl)) ?_
    refine Sd.quiet 5 _ _ rfl rfl rfl rfl rfl (QOp.ok (fun X => OpOk.cutC rfl ti82 rfl ⟨_, rfl⟩ rfl (by omega) (by omega))) ?_
    (refine Sd.exec 6 rfl rfl rfl rfl rfl ?hrest (by rfl) (fun Xx1 Kx1 hKx1 => ?_); case hrest => kernel_rfl)
    refine RunL.mem (fl2 (sep_emp _) rfl) ?_
    refine RunL.appendIn (q := 0) rfl ti82 rfl rfl rfl ⟨_, _, rfl, by omega, fun h => absurd h (by omega)⟩ rfl (by omega) (by omega) (by omega) (by first | assumption | exact hone _ _ (by omega)) rfl ?_
    refine Sd.ret hKx1 (Eq.trans rfl (gp2 (sep_emp _).symm rfl)) ⟨_, (emp_sep _).symm⟩ ?_
    (apply Sd.tail; case hall => kernel_rfl)
    refine RunL.mem (fl2 rfl (sep_emp _)) ?_
    refine RunL.ok (OpOk.assign rfl) rfl ?_
    refine RunL.nil ?_
    refine Run.seq ?_
    refine Run.region ?_
    refine RunL.ok (OpOk.move rfl) rfl ?_
    refine RunL.ok (OpOk.move rfl) rfl ?_
    refine RunL.ok (OpOk.lenV rfl rfl rfl) rfl ?_
    refine RunL.ok (OpOk.move rfl) rfl ?_
    refine RunL.ok (OpOk.cutCp rfl ti82 rfl ⟨_, rfl⟩ ⟨_, rfl⟩ (by omega) (by omega) (by omega)) rfl ?_
    refine RunL.clearAt rfl ti82 rfl rfl ⟨_, _, rfl, fun _ => by first | rfl | (rw [if_neg (by omega)])⟩ rfl rfl (by first | assumption | (simp only [List.length_append, List.length_take, List.length_drop]; omega)) (by decide) (fun zsx3 hzx3 => ?_)
    refine RunL.nil ?_
    refine Run.seq ?_
    refine Run.region ?_
    refine RunL.ok (OpOk.move rfl) rfl ?_
    refine RunL.ok (OpOk.assign rfl) rfl ?_
    refine RunL.nil ?_
    refine Run.ret1 Try.func82 rfl rfl ?_
    have hz := (by assumption : List.length _ = (m - (i + (m - j))) * 5)
    have hd := del_list hij hj h1 h3 rfl hz
    have hmj : m - j = 0 := by omega
    refine ⟨_, by rw [sep_emp], rfl, ?_, ?_⟩
    · simpa [hmj] using hd.2.1
    · rw [← h4]
      simpa [hmj] using hd.2.2
end Go.Proofs.Ytegbfnibjgpbpaa
