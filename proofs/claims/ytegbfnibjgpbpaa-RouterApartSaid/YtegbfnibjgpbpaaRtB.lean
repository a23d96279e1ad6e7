/- Rows of messages and of queues; the pool of messages within a row. -/
import Derived.Test.YtegbfnibjgpbpaaRtA
import Derived.Test.YtegbfnibjgpbpaaBi
namespace Go.Proofs.Ytegbfnibjgpbpaa
open Go Go.Proofs
set_option maxRecDepth 100000
set_option maxHeartbeats 4000000
set_option linter.unusedSimpArgs false
abbrev bodyM (m : Ms) : Asn := own 5 1 m.2.2.2.1.1 m.2.2.2.2.2.length (B m.2.2.2.2.2)
def GM (w0 : World) (A : Asn) (m : Ms) : Prop := Rd w0 A m.2.2.2.1.1 1 m.2.2.2.2.2.length (B m.2.2.2.2.2)
instance {w0 : World} : Lift (GM w0) := ⟨fun h => Rd.left h, fun h => Rd.right h⟩
def ownsM (ls : List Ms) : Asn := stars (ls.map bodyM)
theorem ownsM_nil : ownsM [] = emp := rfl
theorem ownsM_snoc (ls : List Ms) (m : Ms) : ownsM (ls ++ [m]) = ownsM ls * bodyM m := by
  unfold ownsM; rw [List.map_append]; exact stars_snoc _ _
theorem ownsM_cons (m : Ms) (r : List Ms) : ownsM (m :: r) = ownsM r * bodyM m := sep_comm _ _
theorem ownsM_drop {ls : List Ms} {i : Nat} (h : i < ls.length) : ownsM (ls.drop i) = ownsM (ls.drop (i + 1)) * bodyM (ls.getD i default) := by
  rw [← ownsM_cons, drop_next h]
theorem Sat.ownsM0 {w0 w : World} : ∀ {ls : List Ms} {A : Asn}, Sat w0 w (A * ownsM ls) → Alls (GM w0) (ownsM ls) ls
  | [], _, _ => Alls.nil
  | p :: r, A, h => by
    have h1 : Sat w0 w (A * ownsM r * bodyM p) := h.conv (by rw [ownsM_cons, sep_assoc])
    have h2 := Sat.ownsM0 h1.weak
    have h3 := h1.ownRd0
    rw [ownsM_cons]
    exact Alls.cons (Rd.right h3) h2.left
abbrev Qu := SV × List Ms
def encT123 : Qu → List Value := fun (v, _) => [v.1]
instance : OneC encT123 := ⟨fun a u hu => by
  simp only [encT123, List.mem_singleton] at hu
  subst hu
  exact a.1.2⟩
def qone (q : Qu) : Asn := own 82 5 q.1.1 q.2.length (Fl encT82 q.2) * ownsM q.2
def ownsQ (Q : List Qu) : Asn := stars (Q.map qone)
def qrest (Q : List Qu) (i : Nat) : Asn := stars ((Q.take i).map qone) * stars ((Q.drop (i + 1)).map qone)
theorem ownsQ_at {Q : List Qu} {i : Nat} (h : i < Q.length) : ownsQ Q = qrest Q i * qone (Q.getD i default) := by
  have e : Q = Q.take i ++ Q.getD i default :: Q.drop (i + 1) := by rw [← drop_next h, List.take_append_drop]
  have e2 : ownsQ Q = stars ((Q.take i ++ Q.getD i default :: Q.drop (i + 1)).map qone) := congrArg ownsQ e
  rw [e2, List.map_append, List.map_cons, stars_append, stars, qrest]
  ac_rfl
theorem ownsQ_set {Q : List Qu} {i : Nat} (h : i < Q.length) (q : Qu) : ownsQ (Q.set i q) = qrest Q i * qone q := by
  rw [List.set_eq_take_append_cons_drop, if_pos h, ownsQ, List.map_append, List.map_cons, stars_append, stars, qrest]
  ac_rfl
section
variable {w0 : World} {A : Asn} {qv : Value} {n i : Nat} {Q : List Qu}
theorem s69 {sv : SV} {ms : List Ms} (hn : Q.length = n) (hi : i < n) (hq : Q.getD i default = (sv, ms)) : Spec Try.prog w0 69 [.pointer (some ((adr qv).add i))] (A * own 123 1 qv n (Fl encT123 Q) * ownsQ Q) (fun v' A' => v' = .int .i64 (ms.length : Int) ∧ A' = A * own 123 1 qv n (Fl encT123 Q) * ownsQ Q) := by
  rw [ownsQ_at (show i < Q.length by omega), hq, qone]
  simp only [← sep_assoc]
  refine Spec.of_run [(0, .pointer (some ((adr qv).add i)))] Try.func69 rfl (Nat.le_of_ble_eq_true rfl) (by repeat (first | exact trivial | refine ⟨rfl, ?_⟩)) ?_
  refine Run.seq ?_
  refine Run.region ?_
  refine RunL.ok (OpOk.assign rfl) rfl ?_
  refine RunL.nil ?_
  refine Run.seq ?_
  refine Run.region ?_
  refine RunL.ok (OpOk.move rfl) rfl ?_
  refine RunL.ok (OpOk.nilOk rfl) rfl ?_
  refine RunL.ok (OpOk.fieldAddrA fld121_0 rfl) rfl ?_
  refine RunL.know (fun w s => (s.conv (frl (frl (frl rfl)))).ownRd0) (fun rdx1 => ?_)
  refine RunL.ok (OpOk.loadRowE hq rfl rfl rfl (Rd.right rdx1).left.left.left (fun _ => rfl) (by omega) rfl) rfl ?_
  refine RunL.know (fun w s => (s.conv (frl rfl)).ownRd0) (fun rdx2 => ?_)
  refine RunL.ok (OpOk.lenR rfl rfl (Rd.right rdx2).left rfl) rfl ?_
  refine RunL.ok (OpOk.assign rfl) rfl ?_
  refine RunL.nil ?_
  refine Run.ret1 Try.func69 rfl rfl ?_
  exact ⟨rfl, rfl⟩
theorem putM {u : Value} {m : Ms} {sv : SV} {ms : List Ms} (hn : Q.length = n) (hi : i < n) (hq : Q.getD i default = (sv, ms)) (rd : Rd w0 A u 5 1 (Fl encT82 [m])) (hms : ms.length ≤ 1048576) :
    Spec Try.prog w0 70 [.pointer (some ((adr qv).add i)), u] (A * bodyM m * own 123 1 qv n (Fl encT123 Q) * ownsQ Q) (fun v' A' => ∃ (sv2 : SV) (J : Asn), v' = .int .i64 ((ms.length + 1 : Nat) : Int) ∧ A' = A * J * own 123 1 qv n (Fl encT123 (Q.set i (sv2, ms ++ [m]))) * ownsQ (Q.set i (sv2, ms ++ [m]))) := by
  have hiQ : i < Q.length := by omega
  rw [ownsQ_at hiQ, hq, qone]
  simp only [← sep_assoc]
  refine Spec.of_run [(0, .pointer (some ((adr qv).add i))), (1, u)] Try.func70 rfl (Nat.le_of_ble_eq_true rfl) (by repeat (first | exact trivial | refine ⟨rfl, ?_⟩)) ?_
  refine Run.seq ?_
  refine Run.region ?_
  refine RunL.ok (OpOk.assign rfl) rfl ?_
  refine RunL.nil ?_
  refine Run.seq ?_
  refine Run.region ?_
  refine RunL.ok (OpOk.move rfl) rfl ?_
  refine RunL.ok (OpOk.move rfl) rfl ?_
  refine RunL.ok (OpOk.nilOk rfl) rfl ?_
  refine RunL.ok (OpOk.fieldAddrA fld121_0 rfl) rfl ?_
  refine RunL.know (fun w s => (s.conv (frl (frl (frl rfl)))).ownRd0) (fun rdx1 => ?_)
  refine RunL.ok (OpOk.loadRowE hq rfl rfl rfl (Rd.right rdx1).left.left.left (fun _ => rfl) (by omega) rfl) rfl ?_
  refine RunL.ok (OpOk.move rfl) rfl ?_
  refine RunL.appendF rfl ti82 rfl rfl rfl (frl rfl) rd.left.left.left.left.left rfl (by decide) (by omega) (by simp only [maxLen]; omega) rfl (fun vx2 rdx2 => ?_)
  refine RunL.ok (OpOk.nilOk rfl) rfl ?_
  refine RunL.ok (OpOk.fieldAddrA fld121_0 rfl) rfl ?_
  refine RunL.know (fun w s => (s.conv rfl).ownRd0) (fun rdx3 => ?_)
  refine RunL.storeOwn ti70 rfl rfl (Rd.one rdx3) (frl (frl (frl rfl))) (by omega) ?_
  refine RunL.nil ?_
  refine Run.seq ?_
  refine Run.region ?_
  refine RunL.ok (OpOk.move rfl) rfl ?_
  refine RunL.ok (OpOk.nilOk rfl) rfl ?_
  refine RunL.ok (OpOk.fieldAddrA fld121_0 rfl) rfl ?_
  refine RunL.know (fun w s => (s.conv rfl).ownRd0) (fun rdx4 => ?_)
  have h9 : vx2.oneCell' = true := Rd.one rdx3
  have e0 : (Fl encT123 Q).set (i + 0) vx2 = Fl encT123 (Q.set i (⟨vx2, h9⟩, ms ++ [m])) := Fl_set1 (enc := encT123) (u := vx2) (fun _ => rfl) hiQ (y := (⟨vx2, h9⟩, ms ++ [m])) rfl
  rw [e0]
  have e1 : (Q.set i (⟨vx2, h9⟩, ms ++ [m])).getD i default = (⟨vx2, h9⟩, ms ++ [m]) := by
    rw [List.getD_eq_getElem?_getD, List.getElem?_set_self hiQ]; rfl
  refine RunL.know (fun w s => (s.conv rfl).ownRd0) (fun rdy1 => ?_)
  refine RunL.ok (OpOk.loadRowE e1 rfl rfl rfl (Rd.right rdy1) (fun _ => rfl) (by omega) rfl) rfl ?_
  refine RunL.ok (OpOk.lenR rfl rfl (Rd.right rdx3).left rfl) rfl ?_
  refine RunL.ok (OpOk.assign rfl) rfl ?_
  refine RunL.nil ?_
  refine Run.ret1 Try.func70 rfl rfl ?_
  refine ⟨⟨vx2, h9⟩, emp, rfl, ?_⟩
  rw [ownsQ_set hiQ, qone, ownsM_snoc, sep_emp, List.length_append, List.length_singleton]
  dsimp only
  ac_rfl
theorem s70 {u : Value} {k f t o : Int} {sv0 sv : SV} {bs : List UInt8} {ms : List Ms} (hn : Q.length = n) (hi : i < n) (hq : Q.getD i default = (sv, ms)) (rd : Rd w0 A u 5 1 (Fl encT82 [(k, f, t, sv0, o, bs)])) (hms : ms.length ≤ 1048576) :
    Spec Try.prog w0 70 [.pointer (some ((adr qv).add i)), u] (A * own 5 1 sv0.1 bs.length (B bs) * own 123 1 qv n (Fl encT123 Q) * ownsQ Q) (fun v' A' => ∃ (sv2 : SV) (J : Asn), v' = .int .i64 ((ms.length + 1 : Nat) : Int) ∧ A' = A * J * own 123 1 qv n (Fl encT123 (Q.set i (sv2, ms ++ [(k, f, t, sv0, o, bs)]))) * ownsQ (Q.set i (sv2, ms ++ [(k, f, t, sv0, o, bs)]))) :=
  putM (m := (k, f, t, sv0, o, bs)) hn hi hq rd hms
theorem s81a {sv : SV} (hi : i < n) (hq : Q.getD i default = (sv, [])) : Spec Try.prog w0 81 [.pointer (some ((adr qv).add i)), .int .i64 0] (A * own 123 1 qv n (Fl encT123 Q) * own 82 5 sv.1 0 (Fl encT82 ([] : List Ms))) (fun v' A' => v' = .tuple #[.int .i64 0, .bool false] ∧ A' = A * own 123 1 qv n (Fl encT123 Q) * own 82 5 sv.1 0 (Fl encT82 ([] : List Ms))) := by
  refine Spec.of_run [(0, .pointer (some ((adr qv).add i))), (1, .int .i64 0)] Try.func81 rfl (Nat.le_of_ble_eq_true rfl) (by repeat (first | exact trivial | refine ⟨rfl, ?_⟩)) ?_
  refine Run.seq ?_
  refine Run.region ?_
  refine RunL.ok (OpOk.assign rfl) rfl ?_
  refine RunL.ok (OpOk.assign rfl) rfl ?_
  refine RunL.nil ?_
  refine Run.seq ?_
  refine Run.region ?_
  refine RunL.ok (OpOk.move rfl) rfl ?_
  refine RunL.ok (OpOk.nilOk rfl) rfl ?_
  refine RunL.ok (OpOk.fieldAddrA fld121_0 rfl) rfl ?_
  refine RunL.know (fun w s => (s.conv (frl rfl)).ownRd0) (fun rdx1 => ?_)
  refine RunL.ok (OpOk.loadRowE hq rfl rfl rfl (Rd.right rdx1).left (fun _ => rfl) (by omega) rfl) rfl ?_
  refine RunL.know (fun w s => (s.conv rfl).ownRd0) (fun rdx2 => ?_)
  refine RunL.ok (OpOk.lenR rfl rfl (Rd.right rdx2) rfl) rfl ?_
  refine RunL.ok (OpOk.assign rfl) rfl ?_
  refine RunL.nil ?_
  refine Run.seq ?_
  refine Run.seq ?_
  refine Run.region ?_
  refine RunL.ok (OpOk.move rfl) rfl ?_
  refine RunL.ok (OpOk.asT (OpOk.eql rfl rfl) (by omega)) rfl ?_
  refine RunL.nil ?_
  refine Run.condT rfl ?_
  refine Run.seq ?_
  refine Run.region ?_
  refine RunL.ok (OpOk.assign rfl) rfl ?_
  refine RunL.ok (OpOk.assign rfl) rfl ?_
  refine RunL.nil ?_
  refine Run.ret2 Try.func81 rfl rfl rfl ?_
  exact ⟨rfl, rfl⟩
theorem s81b {sv : SV} {ms : List Ms} {k : Nat} (hi : i < n) (hq : Q.getD i default = (sv, ms)) (hk : 0 < k) (hk2 : k ≤ 1048576) : Spec Try.prog w0 81 [.pointer (some ((adr qv).add i)), .int .i64 0] (A * own 123 1 qv n (Fl encT123 Q) * own 82 5 sv.1 k (Fl encT82 ms)) (fun v' A' => v' = .tuple #[.int .i64 0, .bool true] ∧ A' = A * own 123 1 qv n (Fl encT123 Q) * own 82 5 sv.1 k (Fl encT82 ms)) := by
  have key : (IntKind.i64.wrap (((0 % k : Nat) : Int) + (k : Int))).tmod (k : Int) = 0 := by
    rw [Nat.zero_mod, wrapI (by omega) (by omega)]; simp
  refine Spec.of_run [(0, .pointer (some ((adr qv).add i))), (1, .int .i64 0)] Try.func81 rfl (Nat.le_of_ble_eq_true rfl) (by repeat (first | exact trivial | refine ⟨rfl, ?_⟩)) ?_
  refine Run.seq ?_
  refine Run.region ?_
  refine RunL.ok (OpOk.assign rfl) rfl ?_
  refine RunL.ok (OpOk.assign rfl) rfl ?_
  refine RunL.nil ?_
  refine Run.seq ?_
  refine Run.region ?_
  refine RunL.ok (OpOk.move rfl) rfl ?_
  refine RunL.ok (OpOk.nilOk rfl) rfl ?_
  refine RunL.ok (OpOk.fieldAddrA fld121_0 rfl) rfl ?_
  refine RunL.know (fun w s => (s.conv (frl rfl)).ownRd0) (fun rdx1 => ?_)
  refine RunL.ok (OpOk.loadRowE hq rfl rfl rfl (Rd.right rdx1).left (fun _ => rfl) (by omega) rfl) rfl ?_
  refine RunL.know (fun w s => (s.conv rfl).ownRd0) (fun rdx2 => ?_)
  refine RunL.ok (OpOk.lenR rfl rfl (Rd.right rdx2) rfl) rfl ?_
  refine RunL.ok (OpOk.assign rfl) rfl ?_
  refine RunL.nil ?_
  refine Run.seq ?_
  refine Run.seq ?_
  refine Run.region ?_
  refine RunL.ok (OpOk.move rfl) rfl ?_
  refine RunL.ok (OpOk.asF (OpOk.eql rfl rfl) (by omega)) rfl ?_
  refine RunL.nil ?_
  refine Run.condF rfl ?_
  refine Run.skip ?_
  refine Run.seq ?_
  refine Run.region ?_
  refine RunL.ok (OpOk.move rfl) rfl ?_
  refine RunL.ok (OpOk.move rfl) rfl ?_
  refine RunL.ok (OpOk.remN 0 _ rfl rfl rfl rfl (by omega)) rfl ?_
  refine RunL.ok (OpOk.move rfl) rfl ?_
  refine RunL.ok (OpOk.add rfl rfl rfl) rfl ?_
  refine RunL.ok (OpOk.move rfl) rfl ?_
  refine RunL.ok (OpOk.rem rfl rfl (by omega) rfl) rfl ?_
  refine RunL.ok (OpOk.assign rfl) rfl ?_
  refine RunL.ok (OpOk.assign rfl) rfl ?_
  refine RunL.nil ?_
  refine Run.ret2 Try.func81 rfl rfl rfl ?_
  exact ⟨by rw [key], rfl⟩
theorem s72a {sv : SV} (hn : Q.length = n) (hi : i < n) (hq : Q.getD i default = (sv, [])) : Spec Try.prog w0 72 [.pointer (some ((adr qv).add i)), .int .i64 0] (A * own 123 1 qv n (Fl encT123 Q) * ownsQ Q) (fun v' A' => ∃ J, v' = .tuple #[.agg #[.int .i64 0, .int .i64 0, .int .i64 0, .slice none 0 0, .int .i64 0], .bool false] ∧ A' = A * J * own 123 1 qv n (Fl encT123 Q) * ownsQ Q) := by
  rw [ownsQ_at (show i < Q.length by omega), hq, qone]
  simp only [← sep_assoc]
  refine Spec.of_run [(0, .pointer (some ((adr qv).add i))), (1, .int .i64 0)] Try.func72 rfl (Nat.le_of_ble_eq_true rfl) (by repeat (first | exact trivial | refine ⟨rfl, ?_⟩)) ?_
  refine Run.seq ?_
  refine Run.region ?_
  refine RunL.alloc ti82 rfl (fun bx1 => ?_)
  refine RunL.ok (OpOk.assign rfl) rfl ?_
  refine RunL.nil ?_
  refine Run.seq ?_
  refine Run.region ?_
  refine RunL.alloc ti82 rfl (fun bx2 => ?_)
  refine RunL.nil ?_
  refine Run.seq ?_
  refine Run.region ?_
  refine RunL.ok (OpOk.move rfl) rfl ?_
  refine RunL.ok (OpOk.move rfl) rfl ?_
  refine RunL.know (fun w s => (s.conv (frl (frl rfl))).ownsM0) (fun alx3 => ?_)
  refine RunL.mem (frc (frl (frl (frl rfl))) (frc (frl (frl (frl (frl rfl)))) rfl)) ?_
  refine RunL.call cal81 rfl (s81a (by assumption) (by assumption)) rfl (fun vx4 Ax4 hx4 => ?_)
  obtain ⟨rfl, rfl⟩ := hx4
  refine RunL.ok (OpOk.move rfl) rfl ?_
  refine RunL.ok (OpOk.ext20 rfl) rfl ?_
  refine RunL.ok (OpOk.ext21 rfl) rfl ?_
  refine RunL.ok (OpOk.assign rfl) rfl ?_
  refine RunL.ok (OpOk.assign rfl) rfl ?_
  refine RunL.nil ?_
  refine Run.seq ?_
  refine Run.seq ?_
  refine Run.region ?_
  refine RunL.ok (OpOk.move rfl) rfl ?_
  refine RunL.nil ?_
  refine Run.condF rfl ?_
  refine Run.skip ?_
  refine Run.seq ?_
  refine Run.region ?_
  refine RunL.ok (OpOk.loadS rfl rfl ti82 rfl Blk.pts.left.left rfl) rfl ?_
  refine RunL.ok (OpOk.move rfl) rfl ?_
  refine RunL.storeAll ti82 rfl rfl rfl (ones rfl) (frl (frl (frl rfl))) rfl ?_
  refine RunL.ok (OpOk.assign rfl) rfl ?_
  refine RunL.nil ?_
  refine Run.retC2 (A' := _) Try.func72 rfl rfl rfl ti82 rfl rfl Blk.pts rfl (Grew.refl _) ?_
  exact ⟨_, rfl, (Eq.trans (frc (frl (frl (frl (frl rfl)))) (frc (frl rfl) (frc (frl (frl (frl rfl))) (frc (frl rfl) rfl)))) (congrArg (· * _) (congrArg (· * _) (congrArg (· * _) (congrArg (· * _) (asg as1))))))⟩
theorem s72b {sv : SV} {m : Ms} {r : List Ms} (hn : Q.length = n) (hi : i < n) (hq : Q.getD i default = (sv, m :: r)) (hl : r.length ≤ 1048575) : Spec Try.prog w0 72 [.pointer (some ((adr qv).add i)), .int .i64 0] (A * own 123 1 qv n (Fl encT123 Q) * ownsQ Q) (fun v' A' => ∃ (sv2 : SV) (J : Asn), v' = .tuple #[.agg (encT82 m).toArray, .bool true] ∧ A' = A * J * bodyM m * own 123 1 qv n (Fl encT123 (Q.set i (sv2, r))) * ownsQ (Q.set i (sv2, r))) := by
  have hiQ : i < Q.length := by omega
  have hone : ∀ w ∈ (Value.agg (encT82 m).toArray).cells.toList, w.oneCell' = true := fun w hw => OneC.one (enc := encT82) m w hw
  have hg0 : (m :: r).getD 0 default = m := rfl
  have hlen : (m :: r).length = r.length + 1 := rfl
  rw [ownsQ_at hiQ, hq, qone]
  simp only [← sep_assoc]
  refine Spec.of_run [(0, .pointer (some ((adr qv).add i))), (1, .int .i64 0)] Try.func72 rfl (Nat.le_of_ble_eq_true rfl) (by repeat (first | exact trivial | refine ⟨rfl, ?_⟩)) ?_
  refine Run.seq ?_
  refine Run.region ?_
  refine RunL.alloc ti82 rfl (fun bx1 => ?_)
  refine RunL.ok (OpOk.assign rfl) rfl ?_
  refine RunL.nil ?_
  refine Run.seq ?_
  refine Run.region ?_
  refine RunL.alloc ti82 rfl (fun bx2 => ?_)
  refine RunL.nil ?_
  refine Run.seq ?_
  refine Run.region ?_
  refine RunL.ok (OpOk.move rfl) rfl ?_
  refine RunL.ok (OpOk.move rfl) rfl ?_
  refine RunL.know (fun w s => (s.conv (frl (frl rfl))).ownsM0) (fun alx3 => ?_)
  refine RunL.mem (frc (frl (frl (frl rfl))) (frc (frl (frl (frl (frl rfl)))) rfl)) ?_
  refine RunL.call cal81 rfl (s81b (by assumption) (by assumption) (by omega) (by omega)) rfl (fun vx5 Ax5 hx5 => ?_)
  obtain ⟨rfl, rfl⟩ := hx5
  refine RunL.ok (OpOk.move rfl) rfl ?_
  refine RunL.ok (OpOk.ext20 rfl) rfl ?_
  refine RunL.ok (OpOk.ext21 rfl) rfl ?_
  refine RunL.ok (OpOk.assign rfl) rfl ?_
  refine RunL.ok (OpOk.assign rfl) rfl ?_
  refine RunL.nil ?_
  refine Run.seq ?_
  refine Run.seq ?_
  refine Run.region ?_
  refine RunL.ok (OpOk.move rfl) rfl ?_
  refine RunL.nil ?_
  refine Run.condT rfl ?_
  refine Run.seq ?_
  refine Run.region ?_
  refine RunL.ok (OpOk.move rfl) rfl ?_
  refine RunL.ok (OpOk.nilOk rfl) rfl ?_
  refine RunL.ok (OpOk.fieldAddrA fld121_0 rfl) rfl ?_
  refine RunL.know (fun w s => (s.conv (frl rfl)).ownRd0) (fun rdx6 => ?_)
  refine RunL.ok (OpOk.loadRowE hq rfl rfl rfl (Rd.right rdx6).left (fun _ => rfl) (by omega) rfl) rfl ?_
  refine RunL.ok (OpOk.move rfl) rfl ?_
  refine RunL.know (fun w s => (s.conv rfl).ownRd0) (fun rdx7 => ?_)
  refine RunL.ok (OpOk.idx rfl ti82 rfl (Rd.right rdx7) rfl (by omega) (by omega)) rfl ?_
  refine RunL.ok (OpOk.loadFlE (by assumption) rfl rfl ti82 rfl (Rd.right rdx7) (fun _ => rfl) rfl (by omega)) rfl ?_
  refine RunL.storeAll ti82 rfl rfl rfl (fun w hw => OneC.one (enc := encT82) (m) w hw) (frl (frl rfl)) rfl ?_
  refine RunL.nil ?_
  refine Run.region ?_
  refine RunL.ok (OpOk.move rfl) rfl ?_
  refine RunL.ok (OpOk.move rfl) rfl ?_
  refine RunL.ok (OpOk.nilOk rfl) rfl ?_
  refine RunL.ok (OpOk.fieldAddrA fld121_0 rfl) rfl ?_
  refine RunL.ok (OpOk.loadRowE hq rfl rfl rfl (Rd.right rdx6).left.left (fun _ => rfl) (by omega) rfl) rfl ?_
  refine RunL.ok (OpOk.move rfl) rfl ?_
  refine RunL.ok (OpOk.move rfl) rfl ?_
  refine RunL.ok (OpOk.add rfl rfl (wrapI (by omega) (by omega))) rfl ?_
  refine RunL.mem (frc (frl rfl) rfl) ?_
  refine RunL.call cal82 rfl (s82 (by decide) (by simp) (by omega)) rfl (fun vx8 Ax8 hx8 => ?_)
  obtain rfl := hx8
  refine RunL.ok (OpOk.nilOk rfl) rfl ?_
  refine RunL.ok (OpOk.fieldAddrA fld121_0 rfl) rfl ?_
  refine RunL.know (fun w s => (s.conv rfl).ownRd0) (fun rdx9 => ?_)
  refine RunL.storeOwn ti70 rfl rfl (Rd.one rdx9) (frl (frl rfl)) (by omega) ?_
  refine RunL.nil ?_
  refine Run.seq ?_
  refine Run.region ?_
  refine RunL.ok (OpOk.loadS rfl rfl ti82 rfl Blk.pts.left.left rfl) rfl ?_
  refine RunL.ok (OpOk.move rfl) rfl ?_
  refine RunL.storeAll ti82 rfl rfl rfl (fun w hw => OneC.one (enc := encT82) (m) w hw) (frl (frl (frl rfl))) rfl ?_
  refine RunL.ok (OpOk.assign rfl) rfl ?_
  refine RunL.nil ?_
  refine Run.retC2 (A' := _) Try.func72 rfl rfl rfl ti82 rfl rfl Blk.pts rfl (Grew.refl _) ?_
  have h9 : vx8.oneCell' = true := Rd.one rdx9
  have e0 : (Fl encT123 Q).set (i + 0) vx8 = Fl encT123 (Q.set i (⟨vx8, h9⟩, r)) := Fl_set1 (enc := encT123) (u := vx8) (fun _ => rfl) hiQ (y := (⟨vx8, h9⟩, r)) rfl
  refine ⟨⟨vx8, h9⟩, pts bx2 (.cells (Value.agg (encT82 m).toArray).cells 82 (0, 0)) * pts bx1 (.cells (Value.agg (encT82 m).toArray).cells 82 (0, 0)), rfl, ?_⟩
  rw [e0, ownsQ_set hiQ, qone, ownsM_cons, show (m :: r).length - (0 + 1 - 0) = r.length by simp, show List.take 0 (m :: r) ++ List.drop (0 + 1) (m :: r) = r from rfl]
  dsimp only
  ac_rfl
end
end Go.Proofs.Ytegbfnibjgpbpaa
