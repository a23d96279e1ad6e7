/- Postings; a ledger, and what reads it. -/
import Derived.Test.YtegbfnibjgpbpaaLg1
namespace Go.Proofs.Ytegbfnibjgpbpaa
open Go Go.Proofs
set_option maxRecDepth 100000
set_option maxHeartbeats 4000000
set_option linter.unusedSimpArgs false
abbrev Po := Int × Int × SV × List Sh
def encT63 (p : Po) : List Value := [.int .i64 p.1, .int .i64 p.2.1, p.2.2.1.1]
instance : OneC encT63 := ⟨fun a u hu => by
  simp only [encT63, List.mem_cons, List.not_mem_nil, or_false] at hu
  rcases hu with rfl | rfl | rfl
  · rfl
  · rfl
  · exact a.2.2.1.2⟩
def GP (w0 : World) (A : Asn) (p : Po) : Prop := Rd w0 A p.2.2.1.1 2 p.2.2.2.length (Fl encT97 p.2.2.2)
instance {w0 : World} : Lift (GP w0) := ⟨fun h => Rd.left h, fun h => Rd.right h⟩
def ownsP (ls : List Po) : Asn := stars (ls.map fun p => own 97 2 p.2.2.1.1 p.2.2.2.length (Fl encT97 p.2.2.2))
theorem ownsP_nil : ownsP [] = emp := rfl
theorem ownsP_snoc (ls : List Po) (p : Po) : ownsP (ls ++ [p]) = ownsP ls * own 97 2 p.2.2.1.1 p.2.2.2.length (Fl encT97 p.2.2.2) := by
  unfold ownsP; rw [List.map_append]; exact stars_snoc _ _
theorem ownsP_cons (p : Po) (r : List Po) : ownsP (p :: r) = ownsP r * own 97 2 p.2.2.1.1 p.2.2.2.length (Fl encT97 p.2.2.2) := sep_comm _ _
theorem ownsP_drop {ls : List Po} {i : Nat} (h : i < ls.length) : ownsP (ls.drop i) = ownsP (ls.drop (i + 1)) * own 97 2 (ls.getD i default).2.2.1.1 (ls.getD i default).2.2.2.length (Fl encT97 (ls.getD i default).2.2.2) := by
  rw [← ownsP_cons]
  congr 1
  rw [List.getD_eq_getElem?_getD, List.getElem?_eq_getElem h]
  exact List.drop_eq_getElem_cons h
theorem Sat.ownsP0 {w0 w : World} : ∀ {ls : List Po} {A : Asn}, Sat w0 w (A * ownsP ls) → Alls (GP w0) (ownsP ls) ls
  | [], _, _ => Alls.nil
  | p :: r, A, h => by
    have h1 : Sat w0 w (A * ownsP r * own 97 2 p.2.2.1.1 p.2.2.2.length (Fl encT97 p.2.2.2)) := h.conv (by rw [ownsP_cons, sep_assoc])
    have h2 := Sat.ownsP0 h1.weak
    have h3 := h1.ownRd0
    rw [ownsP_cons]
    exact Alls.cons (Rd.right h3) h2.left
/-- What a posting says. -/
def ct (p : Po) : Int × Int × List Sh := (p.1, p.2.1, p.2.2.2)
theorem setT107 : SetT Try.prog 107 := ⟨_, _, Try.underlying107, key2 two112, fun w => by rfl⟩
theorem RunL.makeI {P : Program} {n : Nat} {w0 : World} {ops : Array Oper} {l : List Oper} {K : Act → World → Prop} {E : Env} {A : Asn} {ty : TypeId} {ps : String} {af : Array Edge} {d : Nat} {t e : TypeId} {x y : Operand} {m : Nat} {q q' : IntKind} (hu : P.underlying t = some (.slice e)) (hi : TyI P e (.int .i64 0) 1 8)
    (hx : ev E x = some (.int q m)) (hy : ev E y = some (.int q' m)) (hlim : m ≤ 17592186044416) (hd : Nat.blt d n = true)
    (r : ∀ v', Rd w0 (A * own e 1 v' m (I (List.replicate m 0))) v' 1 m (I (List.replicate m 0)) → RunL P n w0 ops l K ((d, v') :: E) (A * own e 1 v' m (I (List.replicate m 0)))) :
    RunL P n w0 ops ({ dst := some d, op := .makeSlice t x y, type := ty, pos := ps, after := af, guard := none } :: l) K E A := by
  refine RunL.make hu hi hx hy (by omega) (by simp only [maxLen]; omega) hd ?_
  rw [made_one _ rfl, show List.replicate m (Value.int .i64 0) = I (List.replicate m 0) by simp [I]]
  exact r
section
variable {w0 : World} {A : Asn} {p mb nb : Nat} {av pv : Value} {bal : List Int} {ks : List (Int × Int)} {ps : List Po}
theorem s33a {n : Int} (h : n < 1 ∨ 4 < n) : Spec Try.prog w0 33 [.int .i64 n] A (fun v' A' => v' = .tuple #[.pointer none, .int .i64 2] ∧ A' = A) := by
  refine Spec.of_run [(0, .int .i64 n)] Try.func33 rfl (Nat.le_of_ble_eq_true rfl) (by repeat (first | exact trivial | refine ⟨rfl, ?_⟩)) ?_
  refine Run.seq ?_
  refine Run.region ?_
  refine RunL.ok (OpOk.assign rfl) rfl ?_
  refine RunL.ok (OpOk.assign rfl) rfl ?_
  refine RunL.nil ?_
  refine Run.seq ?_
  refine Run.seq ?_
  refine Run.region ?_
  refine RunL.ok (OpOk.move rfl) rfl ?_
  refine RunL.ok (OpOk.lss rfl rfl) rfl ?_
  refine RunL.ok (OpOk.move rfl) rfl ?_
  refine RunL.splitD (t := 6) rfl (fun x1 => ?_) (fun x1 => ?_)
  · refine RunL.off rfl rfl rfl rfl ?_
    refine RunL.off rfl rfl rfl rfl ?_
    refine RunL.ok (OpOk.pickT rfl rfl) rfl ?_
    refine RunL.nil ?_
    refine Run.condT rfl ?_
    refine Run.seq ?_
    refine Run.region ?_
    refine RunL.ok (OpOk.assign rfl) rfl ?_
    refine RunL.ok (OpOk.assign rfl) rfl ?_
    refine RunL.nil ?_
    refine Run.ret2 Try.func33 rfl rfl rfl ?_
    exact ⟨rfl, rfl⟩
  refine RunL.on rfl rfl ?_
  refine RunL.ok (OpOk.move rfl) rfl ?_
  refine RunL.on rfl rfl ?_
  refine RunL.ok (OpOk.asT (OpOk.gtr rfl rfl) (by omega)) rfl ?_
  refine RunL.ok (OpOk.pickF rfl rfl) rfl ?_
  refine RunL.nil ?_
  refine Run.condT rfl ?_
  refine Run.seq ?_
  refine Run.region ?_
  refine RunL.ok (OpOk.assign rfl) rfl ?_
  refine RunL.ok (OpOk.assign rfl) rfl ?_
  refine RunL.nil ?_
  refine Run.ret2 Try.func33 rfl rfl rfl ?_
  exact ⟨rfl, rfl⟩
theorem s33c {n : Int} (h1 : 1 ≤ n) (h4 : n ≤ 4) : Spec Try.prog w0 33 [.int .i64 n] A (fun v' A' => ∃ p av mb, v' = .tuple #[.pointer (some ⟨p, 0, none⟩), .int .i64 0] ∧ A' = A * pts p (.cells #[av, .map (some mb), (Value.slice none 0 0)] 109 (0, 0)) * own 3 1 av (n.toNat + 1) (I ((List.replicate (n.toNat + 1) 0))) * setA mb ((List.nil : List (Int × Int))) * own 63 3 (Value.slice none 0 0) ((List.nil : List Po)).length (Fl encT63 ((List.nil : List Po))) * ownsP ((List.nil : List Po))) := by
  obtain ⟨k, rfl⟩ := Int.eq_ofNat_of_zero_le (show 0 ≤ n by omega)
  rw [Int.toNat_natCast]
  refine Spec.of_run [(0, .int .i64 (k : Int))] Try.func33 rfl (Nat.le_of_ble_eq_true rfl) (by repeat (first | exact trivial | refine ⟨rfl, ?_⟩)) ?_
  refine Run.seq ?_
  refine Run.region ?_
  refine RunL.ok (OpOk.assign rfl) rfl ?_
  refine RunL.ok (OpOk.assign rfl) rfl ?_
  refine RunL.nil ?_
  refine Run.seq ?_
  refine Run.seq ?_
  refine Run.region ?_
  refine RunL.ok (OpOk.move rfl) rfl ?_
  refine RunL.ok (OpOk.asF (OpOk.lss rfl rfl) (by omega)) rfl ?_
  refine RunL.ok (OpOk.move rfl) rfl ?_
  refine RunL.on rfl rfl ?_
  refine RunL.ok (OpOk.move rfl) rfl ?_
  refine RunL.on rfl rfl ?_
  refine RunL.ok (OpOk.asF (OpOk.gtr rfl rfl) (by omega)) rfl ?_
  refine RunL.ok (OpOk.pickF rfl rfl) rfl ?_
  refine RunL.nil ?_
  refine Run.condF rfl ?_
  refine Run.skip ?_
  refine Run.seq ?_
  refine Run.region ?_
  refine RunL.ok (OpOk.move rfl) rfl ?_
  refine RunL.ok (OpOk.addN _ 1 rfl rfl rfl rfl (by omega)) rfl ?_
  refine RunL.makeI (m := _) rfl ti3 rfl rfl (by omega) rfl (fun vx1 rdx1 => ?_)
  refine RunL.makeS rfl (fun bx2 => ?_)
  refine RunL.know (fun w s => (s.conv (frl rfl)).ownRd0) (fun rdx3 => ?_)
  obtain ⟨adx4, capx4, rfl, hcapx4, hadx4⟩ := (rdx3).form
  refine RunL.ok (OpOk.build (cells := #[.slice (adx4) (k + 1) (capx4), .map (some bx2), .slice (none) (0) (0)]) rfl (fun w => run_build w 109 _ _ (by rfl))) rfl ?_
  refine RunL.box rfl rfl (fun bx5 => ?_)
  refine RunL.ok (OpOk.assign rfl) rfl ?_
  refine RunL.ok (OpOk.assign rfl) rfl ?_
  refine RunL.nil ?_
  refine Run.ret2 Try.func33 rfl rfl rfl ?_
  refine ⟨bx5, .slice adx4 (k + 1) capx4, bx2, rfl, ?_⟩
  have e : own 63 3 (Value.slice none 0 0) (List.length ([] : List Po)) (Fl encT63 ([] : List Po)) = emp := own_nil_eq 63 3
  rw [ownsP_nil, sep_emp, e, sep_emp]
  exact (frc (frl rfl) (frc (frl rfl) (frc rfl rfl)))
theorem s65 {op : Int} : Spec Try.prog w0 65 [.pointer (some ⟨p, 0, none⟩), .int .i64 op] (A * pts p (.cells #[av, .map (some mb), pv] 109 (0, 0)) * own 3 1 av nb (I (bal)) * setA mb (ks) * own 63 3 pv (ps).length (Fl encT63 (ps)) * ownsP (ps)) (fun v' A' => v' = .bool (decide (1 ≤ op ∧ op < nb)) ∧ A' = A * pts p (.cells #[av, .map (some mb), pv] 109 (0, 0)) * own 3 1 av nb (I (bal)) * setA mb (ks) * own 63 3 pv (ps).length (Fl encT63 (ps)) * ownsP (ps)) := by
  refine Spec.of_run [(0, .pointer (some ⟨p, 0, none⟩)), (1, .int .i64 op)] Try.func65 rfl (Nat.le_of_ble_eq_true rfl) (by repeat (first | exact trivial | refine ⟨rfl, ?_⟩)) ?_
  refine Run.seq ?_
  refine Run.region ?_
  refine RunL.ok (OpOk.assign rfl) rfl ?_
  refine RunL.nil ?_
  refine Run.seq ?_
  refine Run.region ?_
  refine RunL.ok (OpOk.move rfl) rfl ?_
  refine RunL.ok (OpOk.geq rfl rfl) rfl ?_
  refine RunL.ok (OpOk.move rfl) rfl ?_
  refine RunL.splitD (t := 7) rfl (fun x1 => ?_) (fun x1 => ?_)
  · refine RunL.on rfl rfl ?_
    refine RunL.ok (OpOk.move rfl) rfl ?_
    refine RunL.on rfl rfl ?_
    refine RunL.ok (OpOk.move rfl) rfl ?_
    refine RunL.on rfl rfl ?_
    refine RunL.ok (OpOk.nilOk rfl) rfl ?_
    refine RunL.on rfl rfl ?_
    refine RunL.ok (OpOk.fieldAddr fld109_0 rfl) rfl ?_
    refine RunL.on rfl rfl ?_
    refine RunL.ok (OpOk.load rfl rfl rfl (Blk.out Blk.pts.left.left.left.left _ _ (by first | rfl | assumption))) rfl ?_
    refine RunL.on rfl rfl ?_
    refine RunL.know (fun w s => (s.conv (frl (frl (frl rfl)))).ownRd0) (fun rdx2 => ?_)
    refine RunL.ok (OpOk.lenR rfl rfl (Rd.right rdx2).left.left.left rfl) rfl ?_
    refine RunL.on rfl rfl ?_
    refine RunL.ok (OpOk.lss rfl rfl) rfl ?_
    refine RunL.ok (OpOk.pickT rfl rfl) rfl ?_
    refine RunL.ok (OpOk.assign rfl) rfl ?_
    refine RunL.nil ?_
    refine Run.ret1 Try.func65 rfl rfl ?_
    exact ⟨congrArg Value.bool (decide_eq_decide.2 ⟨fun h => ⟨x1, h⟩, fun h => h.2⟩), rfl⟩
  refine RunL.off rfl rfl rfl rfl ?_
  refine RunL.off rfl rfl rfl rfl ?_
  refine RunL.off rfl rfl rfl rfl ?_
  refine RunL.off rfl rfl rfl rfl ?_
  refine RunL.off rfl rfl rfl rfl ?_
  refine RunL.off rfl rfl rfl rfl ?_
  refine RunL.off rfl rfl rfl rfl ?_
  refine RunL.ok (OpOk.pickF rfl rfl) rfl ?_
  refine RunL.ok (OpOk.assign rfl) rfl ?_
  refine RunL.nil ?_
  refine Run.ret1 Try.func65 rfl rfl ?_
  exact ⟨congrArg Value.bool (decide_eq_false (fun h => x1 h.1)).symm, rfl⟩
theorem s39 {op seq : Int} : Spec Try.prog w0 39 [.pointer (some ⟨p, 0, none⟩), .int .i64 op, .int .i64 seq] (A * pts p (.cells #[av, .map (some mb), pv] 109 (0, 0)) * own 3 1 av nb (I (bal)) * setA mb (ks) * own 63 3 pv (ps).length (Fl encT63 (ps)) * ownsP (ps)) (fun v' A' => v' = .bool (decide ((op, seq) ∈ ks)) ∧ A' = A * pts p (.cells #[av, .map (some mb), pv] 109 (0, 0)) * own 3 1 av nb (I (bal)) * setA mb (ks) * own 63 3 pv (ps).length (Fl encT63 (ps)) * ownsP (ps)) := by
  refine Spec.of_run [(0, .pointer (some ⟨p, 0, none⟩)), (1, .int .i64 op), (2, .int .i64 seq)] Try.func39 rfl (Nat.le_of_ble_eq_true rfl) (by repeat (first | exact trivial | refine ⟨rfl, ?_⟩)) ?_
  refine Run.seq ?_
  refine Run.region ?_
  refine RunL.ok (OpOk.assign rfl) rfl ?_
  refine RunL.nil ?_
  refine Run.seq ?_
  refine Run.region ?_
  refine RunL.ok (OpOk.move rfl) rfl ?_
  refine RunL.ok (OpOk.nilOk rfl) rfl ?_
  refine RunL.ok (OpOk.fieldAddr fld109_1 rfl) rfl ?_
  refine RunL.ok (OpOk.load rfl rfl rfl (Blk.out Blk.pts.left.left.left.left _ _ (by first | rfl | assumption))) rfl ?_
  refine RunL.ok (OpOk.move rfl) rfl ?_
  refine RunL.ok (OpOk.move rfl) rfl ?_
  refine RunL.ok (OpOk.build (cells := #[.int (IntKind.i64) (op), .int (IntKind.i64) (seq)]) rfl (fun w => run_build w 112 _ _ (by rfl))) rfl ?_
  refine RunL.ok (OpOk.lookS setT107 SetAt.here.left.left rfl rfl) rfl ?_
  refine RunL.ok (OpOk.assign rfl) rfl ?_
  refine RunL.nil ?_
  refine Run.ret1 Try.func39 rfl rfl ?_
  exact ⟨rfl, rfl⟩
theorem s66 {op : Int} (rd : Rd w0 A av 1 nb (I bal)) (h1 : 0 ≤ op) (h2 : op < nb) : Spec Try.prog w0 66 [av, .int .i64 op] A (fun v' A' => v' = .int .i64 (bal.getD op.toNat 0) ∧ A' = A) := by
  refine Spec.of_run [(0, av), (1, .int .i64 op)] Try.func66 rfl (Nat.le_of_ble_eq_true rfl) (by repeat (first | exact trivial | refine ⟨rfl, ?_⟩)) ?_
  refine Run.seq ?_
  refine Run.region ?_
  refine RunL.ok (OpOk.assign rfl) rfl ?_
  refine RunL.nil ?_
  refine Run.seq ?_
  refine Run.region ?_
  refine RunL.ok (OpOk.move rfl) rfl ?_
  refine RunL.ok (OpOk.move rfl) rfl ?_
  refine RunL.ok (OpOk.idx1 rfl ti3 rfl rd rfl (by omega) (by omega)) rfl ?_
  refine RunL.ok (OpOk.load rfl rfl rfl (Rd.getI rd (by omega))) rfl ?_
  refine RunL.ok (OpOk.assign rfl) rfl ?_
  refine RunL.nil ?_
  refine Run.ret1 Try.func66 rfl rfl ?_
  exact ⟨rfl, rfl⟩
theorem s37b {op : Int} (h1 : 1 ≤ op) (h2 : op < nb) : Spec Try.prog w0 37 [.pointer (some ⟨p, 0, none⟩), .int .i64 op] (A * pts p (.cells #[av, .map (some mb), pv] 109 (0, 0)) * own 3 1 av nb (I (bal)) * setA mb (ks) * own 63 3 pv (ps).length (Fl encT63 (ps)) * ownsP (ps)) (fun v' A' => v' = .int .i64 (bal.getD op.toNat 0) ∧ A' = A * pts p (.cells #[av, .map (some mb), pv] 109 (0, 0)) * own 3 1 av nb (I (bal)) * setA mb (ks) * own 63 3 pv (ps).length (Fl encT63 (ps)) * ownsP (ps)) := by
  refine Spec.of_run [(0, .pointer (some ⟨p, 0, none⟩)), (1, .int .i64 op)] Try.func37 rfl (Nat.le_of_ble_eq_true rfl) (by repeat (first | exact trivial | refine ⟨rfl, ?_⟩)) ?_
  refine Run.seq ?_
  refine Run.region ?_
  refine RunL.ok (OpOk.assign rfl) rfl ?_
  refine RunL.nil ?_
  refine Run.seq ?_
  refine Run.seq ?_
  refine Run.region ?_
  refine RunL.ok (OpOk.move rfl) rfl ?_
  refine RunL.ok (OpOk.move rfl) rfl ?_
  refine RunL.know (fun w s => (s.conv rfl).ownsP0) (fun alx1 => ?_)
  refine RunL.call cal65 rfl (s65) rfl (fun vx2 Ax2 hx2 => ?_)
  obtain ⟨rfl, rfl⟩ := hx2
  refine RunL.ok (OpOk.not rfl) rfl ?_
  refine RunL.nil ?_
  refine Run.condNF rfl (by first | omega | with_reducible rfl | assumption) ?_
  refine Run.skip ?_
  refine Run.seq ?_
  refine Run.region ?_
  refine RunL.ok (OpOk.move rfl) rfl ?_
  refine RunL.ok (OpOk.nilOk rfl) rfl ?_
  refine RunL.ok (OpOk.fieldAddr fld109_0 rfl) rfl ?_
  refine RunL.ok (OpOk.load rfl rfl rfl (Blk.out Blk.pts.left.left.left.left _ _ (by first | rfl | assumption))) rfl ?_
  refine RunL.ok (OpOk.move rfl) rfl ?_
  refine RunL.know (fun w s => (s.conv (frl (frl (frl rfl)))).ownRd0) (fun rdx3 => ?_)
  refine RunL.call cal66 rfl (s66 (Rd.right rdx3).left.left.left (by omega) (by assumption)) rfl (fun vx4 Ax4 hx4 => ?_)
  obtain ⟨rfl, rfl⟩ := hx4
  refine RunL.ok (OpOk.assign rfl) rfl ?_
  refine RunL.nil ?_
  refine Run.ret1 Try.func37 rfl rfl ?_
  exact ⟨rfl, rfl⟩
theorem s37a {k : Nat} (h1 : 1 ≤ k) (h2 : k < nb) : Spec Try.prog w0 37 [.pointer (some ⟨p, 0, none⟩), .int .i64 (k : Int)] (A * pts p (.cells #[av, .map (some mb), pv] 109 (0, 0)) * own 3 1 av nb (I (bal)) * setA mb (ks) * own 63 3 pv (ps).length (Fl encT63 (ps)) * ownsP (ps)) (fun v' A' => v' = .int .i64 (bal.getD k 0) ∧ A' = A * pts p (.cells #[av, .map (some mb), pv] 109 (0, 0)) * own 3 1 av nb (I (bal)) * setA mb (ks) * own 63 3 pv (ps).length (Fl encT63 (ps)) * ownsP (ps)) :=
  s37b (by omega) (by omega)
theorem s37c {op : Int} (h1 : ¬ (1 ≤ op ∧ op < nb)) : Spec Try.prog w0 37 [.pointer (some ⟨p, 0, none⟩), .int .i64 op] (A * pts p (.cells #[av, .map (some mb), pv] 109 (0, 0)) * own 3 1 av nb (I (bal)) * setA mb (ks) * own 63 3 pv (ps).length (Fl encT63 (ps)) * ownsP (ps)) (fun v' A' => v' = .int .i64 0 ∧ A' = A * pts p (.cells #[av, .map (some mb), pv] 109 (0, 0)) * own 3 1 av nb (I (bal)) * setA mb (ks) * own 63 3 pv (ps).length (Fl encT63 (ps)) * ownsP (ps)) := by
  refine Spec.of_run [(0, .pointer (some ⟨p, 0, none⟩)), (1, .int .i64 op)] Try.func37 rfl (Nat.le_of_ble_eq_true rfl) (by repeat (first | exact trivial | refine ⟨rfl, ?_⟩)) ?_
  refine Run.seq ?_
  refine Run.region ?_
  refine RunL.ok (OpOk.assign rfl) rfl ?_
  refine RunL.nil ?_
  refine Run.seq ?_
  refine Run.seq ?_
  refine Run.region ?_
  refine RunL.ok (OpOk.move rfl) rfl ?_
  refine RunL.ok (OpOk.move rfl) rfl ?_
  refine RunL.know (fun w s => (s.conv rfl).ownsP0) (fun alx1 => ?_)
  refine RunL.call cal65 rfl (s65) rfl (fun vx2 Ax2 hx2 => ?_)
  obtain ⟨rfl, rfl⟩ := hx2
  refine RunL.ok (OpOk.not rfl) rfl ?_
  refine RunL.nil ?_
  refine Run.condNT rfl (by first | omega | assumption) ?_
  refine Run.seq ?_
  refine Run.region ?_
  refine RunL.ok (OpOk.assign rfl) rfl ?_
  refine RunL.nil ?_
  refine Run.ret1 Try.func37 rfl rfl ?_
  exact ⟨rfl, rfl⟩
theorem s63a {op amt : Int} (h1 : 0 ≤ op) (h2 : op < nb) (hl : bal.length = nb) (hin : ∀ z ∈ bal, inI z) (ha : inI amt) (hs : inI (bal.getD op.toNat 0 + amt)) :
    Spec Try.prog w0 63 [av, .agg #[.int .i64 op, .int .i64 amt]] (A * own 3 1 av nb (I bal)) (fun v' A' => ∃ J, v' = .bool true ∧ A' = A * J * own 3 1 av nb (I (bal.set op.toNat (bal.getD op.toNat 0 + amt)))) := by
  have hb := getD_in hin (show op.toNat < bal.length by omega)
  have hin2 : ∀ z ∈ [bal.getD op.toNat 0, amt], inI z := fun z hz => by
    simp only [List.mem_cons, List.not_mem_nil, or_false] at hz
    rcases hz with rfl | rfl
    · exact hb
    · exact ha
  have hsum : sumO 0 [bal.getD op.toNat 0, amt] = some (bal.getD op.toNat 0 + amt) := by
    simp only [sumO, Int.zero_add]
    rw [if_pos (show _ ∧ _ from hb), if_pos (show _ ∧ _ from hs)]
  refine Spec.of_run [(0, av), (1, .agg #[.int .i64 op, .int .i64 amt])] Try.func63 rfl (Nat.le_of_ble_eq_true rfl) (by repeat (first | exact trivial | refine ⟨rfl, ?_⟩)) ?_
  refine Run.seq ?_
  refine Run.region ?_
  refine RunL.box rfl rfl (fun bx1 => ?_)
  refine RunL.ok (OpOk.assign rfl) rfl ?_
  refine RunL.nil ?_
  refine Run.seq ?_
  refine Run.know (fun w s => (s.conv (frl rfl)).ownRd0) (fun rdx2 => ?_)
  (apply Run.drawD [] (by rfl) (sep_emp _).symm; case hchk => kernel_rfl)
  refine Sd.quiet 0 _ _ rfl rfl rfl rfl rfl (QOp.ok (fun X => OpOk.move rfl)) ?_
  refine Sd.quiet 1 _ _ rfl rfl rfl rfl rfl (QOp.ok (fun X => OpOk.fieldAddr fld97_0 rfl)) ?_
  refine Sd.quiet 2 _ _ rfl rfl rfl rfl rfl (QOp.ok (fun X => OpOk.load rfl rfl rfl (Blk.out Blk.pts.left.left _ _ (by first | rfl | assumption)))) ?_
  refine Sd.quiet 3 _ _ rfl rfl rfl rfl rfl (QOp.ok (fun X => OpOk.idx1 rfl ti3 rfl (Rd.right rdx2).left.left.left rfl (by omega) (by omega))) ?_
  refine Sd.quiet 4 _ _ rfl rfl rfl rfl rfl (QOp.ok (fun X => OpOk.load rfl rfl rfl (Rd.getI (Rd.right rdx2).left.left.left (by omega)))) ?_
  refine Sd.quiet 5 _ _ rfl rfl rfl rfl rfl (QOp.ok (fun X => OpOk.fieldAddr fld97_1 rfl)) ?_
  refine Sd.quiet 6 _ _ rfl rfl rfl rfl rfl (QOp.ok (fun X => OpOk.load rfl rfl rfl (Blk.out Blk.pts.left.left _ _ (by first | rfl | assumption)))) ?_
  (refine Sd.exec 7 rfl rfl rfl rfl rfl ?hrest (by rfl) (fun Xx3 Kx3 hKx3 => ?_); case hrest => kernel_rfl)
  refine RunL.mem (fl2 (sep_emp _) (sep_emp _)) ?_
  refine RunL.litI (xs := [bal.getD op.toNat 0, amt]) rfl ti3 rfl rfl rfl (by decide) rfl (fun vx4 rdx4 => ?_)
  refine RunL.know (fun w s => (s.conv rfl).ownRd0) (fun rdx5 => ?_)
  refine Sd.ret hKx3 (Eq.trans rfl (gp2 (sep_emp _).symm rfl)) ⟨_, (emp_sep _).symm⟩ ?_
  refine Sd.quiet 8 _ _ rfl rfl rfl rfl rfl (QOp.call cal78 rfl (fun X => s78a (Rd.right rdx5).left (by assumption) (by assumption))) ?_
  refine Sd.quiet 9 _ _ rfl rfl rfl rfl rfl (QOp.ok (fun X => OpOk.move rfl)) ?_
  refine Sd.quiet 10 _ _ rfl rfl rfl rfl rfl (QOp.ok (fun X => OpOk.ext20 rfl)) ?_
  refine Sd.quiet 11 _ _ rfl rfl rfl rfl rfl (QOp.ok (fun X => OpOk.ext21 rfl)) ?_
  refine Sd.quiet 12 _ _ rfl rfl rfl rfl rfl (QOp.ok (fun X => OpOk.assign rfl)) ?_
  refine Sd.quiet 13 _ _ rfl rfl rfl rfl rfl (QOp.ok (fun X => OpOk.assign rfl)) ?_
  (apply Sd.tail; case hall => kernel_rfl)
  refine RunL.mem (fl2 rfl (sep_emp _)) ?_
  refine RunL.nil ?_
  refine Run.seq ?_
  refine Run.seq ?_
  refine Run.region ?_
  refine RunL.ok (OpOk.move rfl) rfl ?_
  refine RunL.ok (OpOk.asT (OpOk.eql rfl rfl) (by omega)) rfl ?_
  refine RunL.nil ?_
  refine Run.condT rfl ?_
  refine Run.region ?_
  refine RunL.ok (OpOk.move rfl) rfl ?_
  refine RunL.ok (OpOk.fieldAddr fld97_0 rfl) rfl ?_
  refine RunL.ok (OpOk.load rfl rfl rfl (Blk.out Blk.pts.left _ _ (by first | rfl | assumption))) rfl ?_
  refine RunL.ok (OpOk.move rfl) rfl ?_
  refine RunL.ok (OpOk.idx1 rfl ti3 rfl (Rd.right rdx2).left.left rfl (by omega) (by omega)) rfl ?_
  refine RunL.storeI ti3 rfl rfl (frl (frl rfl)) (by omega) ?_
  refine RunL.nil ?_
  refine Run.seq ?_
  refine Run.region ?_
  refine RunL.ok (OpOk.move rfl) rfl ?_
  refine RunL.ok (OpOk.asT (OpOk.eql rfl rfl) (by omega)) rfl ?_
  refine RunL.ok (OpOk.assign rfl) rfl ?_
  refine RunL.nil ?_
  refine Run.ret1 Try.func63 rfl rfl ?_
  exact ⟨_, rfl, (congrArg (· * _) (asg as1))⟩
theorem s63b {op amt : Int} (h1 : 0 ≤ op) (h2 : op < nb) (hl : bal.length = nb) (hin : ∀ z ∈ bal, inI z) (ha : inI amt) (hs : ¬ inI (bal.getD op.toNat 0 + amt)) :
    Spec Try.prog w0 63 [av, .agg #[.int .i64 op, .int .i64 amt]] (A * own 3 1 av nb (I bal)) (fun v' A' => ∃ J, v' = .bool false ∧ A' = A * J * own 3 1 av nb (I bal)) := by
  have hb := getD_in hin (show op.toNat < bal.length by omega)
  have hin2 : ∀ z ∈ [bal.getD op.toNat 0, amt], inI z := fun z hz => by
    simp only [List.mem_cons, List.not_mem_nil, or_false] at hz
    rcases hz with rfl | rfl
    · exact hb
    · exact ha
  have hsum : sumO 0 [bal.getD op.toNat 0, amt] = none := by
    simp only [sumO, Int.zero_add]
    rw [if_pos (show _ ∧ _ from hb), if_neg (show ¬ (_ ∧ _) from hs)]
  refine Spec.of_run [(0, av), (1, .agg #[.int .i64 op, .int .i64 amt])] Try.func63 rfl (Nat.le_of_ble_eq_true rfl) (by repeat (first | exact trivial | refine ⟨rfl, ?_⟩)) ?_
  refine Run.seq ?_
  refine Run.region ?_
  refine RunL.box rfl rfl (fun bx1 => ?_)
  refine RunL.ok (OpOk.assign rfl) rfl ?_
  refine RunL.nil ?_
  refine Run.seq ?_
  refine Run.know (fun w s => (s.conv (frl rfl)).ownRd0) (fun rdx2 => ?_)
  (apply Run.drawD [] (by rfl) (sep_emp _).symm; case hchk => kernel_rfl)
  refine Sd.quiet 0 _ _ rfl rfl rfl rfl rfl (QOp.ok (fun X => OpOk.move rfl)) ?_
  refine Sd.quiet 1 _ _ rfl rfl rfl rfl rfl (QOp.ok (fun X => OpOk.fieldAddr fld97_0 rfl)) ?_
  refine Sd.quiet 2 _ _ rfl rfl rfl rfl rfl (QOp.ok (fun X => OpOk.load rfl rfl rfl (Blk.out Blk.pts.left.left _ _ (by first | rfl | assumption)))) ?_
  refine Sd.quiet 3 _ _ rfl rfl rfl rfl rfl (QOp.ok (fun X => OpOk.idx1 rfl ti3 rfl (Rd.right rdx2).left.left.left rfl (by omega) (by omega))) ?_
  refine Sd.quiet 4 _ _ rfl rfl rfl rfl rfl (QOp.ok (fun X => OpOk.load rfl rfl rfl (Rd.getI (Rd.right rdx2).left.left.left (by omega)))) ?_
  refine Sd.quiet 5 _ _ rfl rfl rfl rfl rfl (QOp.ok (fun X => OpOk.fieldAddr fld97_1 rfl)) ?_
  refine Sd.quiet 6 _ _ rfl rfl rfl rfl rfl (QOp.ok (fun X => OpOk.load rfl rfl rfl (Blk.out Blk.pts.left.left _ _ (by first | rfl | assumption)))) ?_
  (refine Sd.exec 7 rfl rfl rfl rfl rfl ?hrest (by rfl) (fun Xx3 Kx3 hKx3 => ?_); case hrest => kernel_rfl)
  refine RunL.mem (fl2 (sep_emp _) (sep_emp _)) ?_
  refine RunL.litI (xs := [bal.getD op.toNat 0, amt]) rfl ti3 rfl rfl rfl (by decide) rfl (fun vx4 rdx4 => ?_)
  refine RunL.know (fun w s => (s.conv rfl).ownRd0) (fun rdx5 => ?_)
  refine Sd.ret hKx3 (Eq.trans rfl (gp2 (sep_emp _).symm rfl)) ⟨_, (emp_sep _).symm⟩ ?_
  refine Sd.quiet 8 _ _ rfl rfl rfl rfl rfl (QOp.call cal78 rfl (fun X => s78b (Rd.right rdx5).left (by assumption) (by assumption))) ?_
  refine Sd.quiet 9 _ _ rfl rfl rfl rfl rfl (QOp.ok (fun X => OpOk.move rfl)) ?_
  refine Sd.quiet 10 _ _ rfl rfl rfl rfl rfl (QOp.ok (fun X => OpOk.ext20 rfl)) ?_
  refine Sd.quiet 11 _ _ rfl rfl rfl rfl rfl (QOp.ok (fun X => OpOk.ext21 rfl)) ?_
  refine Sd.quiet 12 _ _ rfl rfl rfl rfl rfl (QOp.ok (fun X => OpOk.assign rfl)) ?_
  refine Sd.quiet 13 _ _ rfl rfl rfl rfl rfl (QOp.ok (fun X => OpOk.assign rfl)) ?_
  (apply Sd.tail; case hall => kernel_rfl)
  refine RunL.mem (fl2 rfl (sep_emp _)) ?_
  refine RunL.nil ?_
  refine Run.seq ?_
  refine Run.seq ?_
  refine Run.region ?_
  refine RunL.ok (OpOk.move rfl) rfl ?_
  refine RunL.ok (OpOk.asF (OpOk.eql rfl rfl) (by omega)) rfl ?_
  refine RunL.nil ?_
  refine Run.condF rfl ?_
  refine Run.skip ?_
  refine Run.seq ?_
  refine Run.region ?_
  refine RunL.ok (OpOk.move rfl) rfl ?_
  refine RunL.ok (OpOk.asF (OpOk.eql rfl rfl) (by omega)) rfl ?_
  refine RunL.ok (OpOk.assign rfl) rfl ?_
  refine RunL.nil ?_
  refine Run.ret1 Try.func63 rfl rfl ?_
  exact ⟨_, rfl, (Eq.trans (frc (frl (frl rfl)) rfl) (congrArg (· * _) (asg as1)))⟩
theorem s64 {q : Po} (rd : Rd w0 A q.2.2.1.1 2 q.2.2.2.length (Fl encT97 q.2.2.2)) (hm : q.2.2.2.length ≤ 8796093022208) :
    Spec Try.prog w0 64 [.agg (encT63 q).toArray] A (fun v' A' => ∃ (sv : SV) (J : Asn), v' = .agg (encT63 (q.1, q.2.1, sv, q.2.2.2)).toArray ∧ A' = A * J * own 97 2 sv.1 q.2.2.2.length (Fl encT97 q.2.2.2)) := by
  have hone := q.2.2.1.2
  refine Spec.of_run [(0, .agg (encT63 q).toArray)] Try.func64 rfl (Nat.le_of_ble_eq_true rfl) (by repeat (first | exact trivial | refine ⟨rfl, ?_⟩)) ?_
  refine Run.seq ?_
  refine Run.region ?_
  refine RunL.box rfl rfl (fun bx1 => ?_)
  refine RunL.alloc ti63 rfl (fun bx2 => ?_)
  refine RunL.nil ?_
  refine Run.seq ?_
  refine Run.region ?_
  refine RunL.ok (OpOk.fieldAddr fld63_2 rfl) rfl ?_
  refine RunL.ok (OpOk.load rfl rfl rfl (Blk.out Blk.pts.left _ _ (by first | rfl | assumption))) rfl ?_
  refine RunL.call cal79 rfl (s79 rd.left.left (by assumption)) rfl (fun vx3 Ax3 hx3 => ?_)
  obtain rfl := hx3
  refine RunL.ok (OpOk.fieldAddr fld63_2 rfl) rfl ?_
  refine RunL.know (fun w s => (s.conv rfl).ownRd0) (fun rdx4 => ?_)
  refine RunL.store ti61 rfl rfl (Rd.one rdx4) (frl (frl rfl)) (by exact Nat.le_of_ble_eq_true rfl) (.inl rfl) ?_
  refine RunL.nil ?_
  refine Run.seq ?_
  refine Run.region ?_
  refine RunL.ok (OpOk.loadS rfl rfl ti63 rfl Blk.pts rfl) rfl ?_
  refine RunL.storeAll ti63 rfl rfl rfl (by simp [Value.cells, one_int, one_bool, one_S, one_str, one_slice, one_map, one_ptr, encT63, Rd.one rdx4, *]) (frl (frl rfl)) rfl ?_
  refine RunL.nil ?_
  refine Run.retC (A' := _) Try.func64 rfl rfl rfl ti63 rfl Blk.pts rfl (Grew.refl _) ?_
  refine ⟨⟨vx3, Rd.one rdx4⟩, ?_⟩
  exact ⟨_, rfl, (Eq.trans (frc (frl (frl rfl)) rfl) (congrArg (· * _) (asg as1)))⟩
end
end Go.Proofs.Ytegbfnibjgpbpaa
