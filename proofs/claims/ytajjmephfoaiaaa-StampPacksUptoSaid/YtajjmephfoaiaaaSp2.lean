/- Stamps packed; the latest; numbers read. -/
import Derived.Test.YtajjmephfoaiaaaSp1
import Derived.Test.YtajjmephfoaiaaaBr
namespace Go.Proofs.Ytajjmephfoaiaaa
open Go Go.Proofs
set_option maxRecDepth 100000
set_option maxHeartbeats 4000000
def rightS (s : Int × Int) : Bool := right s.1 s.2
def fieldsS (s : Int × Int) : List (Int × Int) := [(16, s.1), (11, s.2), (5, 0)]
def bitsS (ss : List (Int × Int)) : List Bool := fieldBits (ss.flatMap fieldsS)
theorem fits_fields {s : Int × Int} (h : rightS s = true) : (fieldsS s).all fitsF = true := by
  have h := right_true.1 h
  simp only [fieldsS, List.all_cons, List.all_nil, fitsF, rightF, Bool.and_true, Bool.and_eq_true, decide_eq_true_eq]
  have e1 : (2 : Int) ^ (16 : Int).toNat = 65536 := by decide
  have e2 : (2 : Int) ^ (11 : Int).toNat = 2048 := by decide
  have e3 : (2 : Int) ^ (5 : Int).toNat = 32 := by decide
  rw [e1, e2, e3]
  refine ⟨⟨by omega, by omega, by omega, by omega⟩, ⟨by omega, by omega, by omega, by omega⟩, by omega, by omega, by omega, by omega⟩
theorem fieldBits_app (a b : List (Int × Int)) : fieldBits (a ++ b) = fieldBits a ++ fieldBits b := by simp [fieldBits]
theorem bitsS_next {ss : List (Int × Int)} {i : Nat} (h : i < ss.length) : bitsS (ss.take (i + 1)) = bitsS (ss.take i) ++ fieldBits (fieldsS (ss.getD i default)) := by
  rw [take_next h]
  simp only [bitsS, List.flatMap_append, fieldBits_app]
  simp
theorem bitsS_length (ss : List (Int × Int)) : (bitsS ss).length = 32 * ss.length := by
  induction ss with
  | nil => rfl
  | cons s r ih => simp only [bitsS, List.flatMap_cons, fieldBits_app, List.length_append] at *; rw [ih]; simp [fieldsS, fieldBits, bitsOf_length]; omega
/-- What Pack answers. -/
def packE (ss : List (Int × Int)) : Int := if ss.all rightS then 0 else 2
def packL (ss : List (Int × Int)) : List UInt8 := if ss.all rightS then pack (bitsS ss) (4 * ss.length) else []
theorem s31 {w0 : World} {A : Asn} {u : Value} {m : Nat} {ss : List (Int × Int)} (rd : Rd w0 A u 2 m (Fl encF ss)) (hlim : m ≤ 8796093022208) :
    Spec Try.prog w0 31 [u] A (fun v' A' => ∃ z J, v' = .tuple #[z, .int .i64 (packE ss)] ∧ A' = A * J * own 5 1 z (packL ss).length (B (packL ss))) := by
  have hl := rd.lenFl (fun _ => rfl) (by decide)
  subst hl
  have hmax := rd.max
  refine Spec.of_run [(0, u)] Try.func31 rfl (Nat.le_of_ble_eq_true rfl) (by repeat (first | exact trivial | refine ⟨rfl, ?_⟩)) ?_
  refine Run.seq ?_
  refine Run.region ?_
  refine RunL.ok (OpOk.assign rfl) rfl ?_
  refine RunL.ok (OpOk.assign rfl) rfl ?_
  refine RunL.nil ?_
  refine Run.seq ?_
  refine Run.region ?_
  refine RunL.alloc ti71 rfl (fun bx1 => ?_)
  refine RunL.ent (newT71 _ _) ?_
  refine RunL.nil ?_
  refine Run.seq ?_
  refine Run.seq ?_
  refine Run.region ?_
  refine RunL.ok (OpOk.move rfl) rfl ?_
  refine RunL.ok (OpOk.lenR rfl rfl rd.left.left rfl) rfl ?_
  refine RunL.ok (OpOk.move rfl) rfl ?_
  refine RunL.nil ?_
  refine Run.block ?_
  refine Run.loop (X := Nat × Value × Asn) (fun x => [(4, .pointer (some ⟨bx1, 0, none⟩)), (7, u), (8, .int .i64 (ss.length : Int)), (9, .int .i64 x.1)]) (fun x => A * x.2.2 * pts bx1 (.cells #[x.2.1, .int .i64 (((bitsS (ss.take x.1)).length : Nat) : Int)] 71 (0, 0)) * own 5 1 x.2.1 (((bitsS (ss.take x.1)).length + 7) / 8) (B (pack (bitsS (ss.take x.1)) (((bitsS (ss.take x.1)).length + 7) / 8)))) (fun x => x.1 ≤ ss.length ∧ (ss.take x.1).all rightS = true) (fun x => ss.length - x.1) (0, .slice none 0 0, emp) ⟨rfl, rfl, rfl, rfl, trivial⟩ (by simp [bitsS, fieldBits, sep_emp]) ⟨by simp, by simp⟩ (fun x hx ih => ?_)
  obtain ⟨i, v1, J⟩ := x
  simp only at hx ih ⊢
  obtain ⟨hi, hall⟩ := hx
  have hbl := bitsS_length (ss.take i)
  rw [List.length_take] at hbl
  rcases Nat.lt_or_ge i ss.length with hlt | hge
  · have hz : ss.all rightS = ((ss.take i).all rightS && (ss.drop i).all rightS) := by rw [← List.all_append, List.take_append_drop]
    rw [drop_next hlt, List.all_cons, hall, Bool.true_and] at hz
    have ht := take_next hlt
    have hb := bitsS_next hlt
    have ha : (ss.take (i + 1)).all rightS = rightS (ss.getD i default) := by rw [ht, List.all_append, hall]; simp
    generalize hs : ss.getD i default = s at *
    refine Run.seq ?_
    refine Run.region ?_
    refine RunL.ok (OpOk.asT (OpOk.lss rfl rfl) (by omega)) rfl ?_
    refine RunL.nil ?_
    refine Run.seq ?_
    refine Run.condT rfl ?_
    refine Run.skip ?_
    refine Run.seq ?_
    refine Run.block ?_
    refine Run.seq ?_
    refine Run.region ?_
    refine RunL.ok (OpOk.idxN rfl ti29 rfl rd.left.left.left rfl (by omega)) rfl ?_
    refine RunL.ok (OpOk.loadFlE (by assumption) rfl rfl ti29 rfl rd.left.left.left (fun _ => rfl) rfl (by omega)) rfl ?_
    refine RunL.alloc ti29 rfl (fun by1 => ?_)
    refine RunL.storeAll ti29 rfl rfl rfl (ones rfl) rfl rfl ?_
    refine RunL.nil ?_
    refine Run.seq ?_
    refine Run.seq ?_
    refine Run.region ?_
    refine RunL.ok (OpOk.loadS rfl rfl ti29 rfl Blk.pts rfl) rfl ?_
    refine RunL.call cal29 rfl (s29) rfl (fun vy2 Ay2 hy2 => ?_)
    obtain ⟨rfl, rfl⟩ := hy2
    refine RunL.ok (OpOk.not rfl) rfl ?_
    refine RunL.nil ?_
    refine Run.condN rfl (fun y3 => ?_) (fun y3 => ?_)
    · refine Run.seq ?_
      refine Run.region ?_
      refine RunL.ok (OpOk.assign rfl) rfl ?_
      refine RunL.ok (OpOk.assign rfl) rfl ?_
      refine RunL.nil ?_
      refine Run.ent (Ent.ownNil' _ 5 1 (B []) rfl) ?_
      refine Run.ret2 Try.func31 rfl rfl rfl ?_
      have hE : ss.all rightS = false := by rw [hz, show rightS s = false from decide_eq_false y3]; rfl
      simp only [packE, packL, hE, Bool.false_eq_true, if_false]
      exact ⟨_, _, rfl, (Eq.trans (frc rfl rfl) (congrArg (· * _) (asg (asg (asg as1)))))⟩
    refine Run.skip ?_
    refine Run.region ?_
    refine RunL.ok (OpOk.fieldAddr fld29_0 rfl) rfl ?_
    refine RunL.ok (OpOk.load rfl rfl rfl (Blk.out Blk.pts _ _ rfl)) rfl ?_
    refine RunL.ok (OpOk.build (cells := #[.int (IntKind.i64) (16), .int (IntKind.i64) (s.fst)]) rfl (fun w => run_build w 74 _ _ (by rfl))) rfl ?_
    refine RunL.ok (OpOk.fieldAddr fld29_1 rfl) rfl ?_
    refine RunL.ok (OpOk.load rfl rfl rfl (Blk.out Blk.pts _ _ rfl)) rfl ?_
    refine RunL.ok (OpOk.build (cells := #[.int (IntKind.i64) (11), .int (IntKind.i64) (s.snd)]) rfl (fun w => run_build w 74 _ _ (by rfl))) rfl ?_
    refine RunL.ok (OpOk.build (cells := #[.int (IntKind.i64) (5), .int (IntKind.i64) (0)]) rfl (fun w => run_build w 74 _ _ (by rfl))) rfl ?_
    have hr : rightS s = true := decide_eq_true y3
    have hfit := fits_fields hr
    refine RunL.litFl (enc := encF) (fieldsS s) rfl ti74 rfl (fun _ => rfl) rfl rfl (by decide) (by decide) rfl (fun f rdf => ?_)
    refine RunL.know (fun w s => (s.conv rfl).ownRd0) (fun rdz1 => ?_)
    refine RunL.mem (frc (frl (frl rfl)) (frc (frl (frl rfl)) rfl)) ?_
    refine RunL.call cal39 rfl (s39a (Rd.right rdz1) (by assumption) (by omega)) rfl (fun vz2 Az2 hz2 => ?_)
    obtain ⟨z3, ⟨rfl, rfl⟩⟩ := hz2
    refine RunL.nil ?_
    refine Run.inBlock ?_
    refine Run.region ?_
    refine RunL.ok (OpOk.addN _ 1 rfl rfl rfl rfl (by omega)) rfl ?_
    refine RunL.ok (OpOk.move rfl) rfl ?_
    refine RunL.nil ?_
    try simp only [hfit, if_true]
    rw [← hb]
    refine Run.jump ((ih (i + 1, _, _) ⟨by simp; omega, by simp [ha, hr]⟩ (by simp; omega))) ⟨rfl, rfl, rfl, rfl, trivial⟩ (Grew.of (congrArg (· * _) (congrArg (· * _) (asg (asg as1)))) (Grew.refl _))
  · obtain rfl : i = ss.length := by omega
    rw [List.take_length] at *
    have e8 : (32 * ss.length + 7) / 8 = 4 * ss.length := by omega
    have hpl := pack_length (bitsS ss) (4 * ss.length)
    refine Run.seq ?_
    refine Run.region ?_
    refine RunL.ok (OpOk.asF (OpOk.lss rfl rfl) (by omega)) rfl ?_
    refine RunL.nil ?_
    refine Run.seq ?_
    refine Run.condF rfl ?_
    refine Run.exit rfl ?_
    refine Run.seq ?_
    refine Run.region ?_
    refine RunL.call cal40 rfl (s40 (by omega)) rfl (fun vy1 Ay1 hy1 => ?_)
    obtain rfl := hy1
    refine RunL.ok (OpOk.assign rfl) rfl ?_
    refine RunL.ok (OpOk.assign rfl) rfl ?_
    refine RunL.nil ?_
    refine Run.ret2 Try.func31 rfl rfl rfl ?_
    simp only [packE, packL, hall, if_true, bitsS_length, e8, hpl]
    exact ⟨_, _, rfl, (congrArg (· * _) (asg (asg as1)))⟩
end Go.Proofs.Ytajjmephfoaiaaa
