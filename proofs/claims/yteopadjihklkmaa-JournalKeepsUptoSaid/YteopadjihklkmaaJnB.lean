/- What a journal has: rows taken in. -/
import Derived.Test.YteopadjihklkmaaJnA
import Derived.Test.YteopadjihklkmaaDl
namespace Go.Proofs.Yteopadjihklkmaa
open Go Go.Proofs
set_option maxRecDepth 100000
set_option maxHeartbeats 4000000
set_option linter.unusedSimpArgs false
/-- A store over a part of a block. -/
theorem RunL.storePart {P : Program} {n : Nat} {w0 : World} {ops : Array Oper} {l : List Oper} {K : Act → World → Prop} {E : Env} {A : Asn} {ty : TypeId} {ps : String} {af : Array Edge} {t et : TypeId} {x y : Operand} {b q m : Nat} {cs cs' : Array Value} {v : Value} {A1 : Asn} {zz : Value} {bb : Nat} (hz : TyI P t zz m bb) (hx : ev E x = some (.pointer (some ⟨b, q, none⟩))) (hy : ev E y = some v) (hm : v.cells.size = m) (h1 : ∀ u ∈ v.cells.toList, u.oneCell' = true)
    (hA : A = A1 * pts b (.cells cs et (0, 0))) (hi : Nat.ble (q + m) cs.size = true) (hc : (cs.toList.take q ++ v.cells.toList ++ cs.toList.drop (q + m)).toArray = cs') (r : RunL P n w0 ops l K E (A1 * pts b (.cells cs' et (0, 0)))) :
    RunL P n w0 ops ({ dst := none, op := .store t x y, type := ty, pos := ps, after := af, guard := none } :: l) K E A := by
  subst hA hc
  have hi := Nat.le_of_ble_eq_true hi
  refine RunL.unit (X := Unit) (fun _ => A1 * pts b (.cells (cs.toList.take q ++ v.cells.toList ++ cs.toList.drop (q + m)).toArray et (0, 0))) (fun a w he hs => ⟨(), w.setRow b (cs.toList.take q ++ v.cells.toList ++ cs.toList.drop (q + m)).toArray, ?_, ?_⟩) fun _ => r
  · obtain ⟨f, hf, hsz⟩ := Option.map_eq_some_iff.1 hz.size
    have hst := run_storeCells_at P b q et v.cells.toList 0 cs w hs.get (by simp; omega) h1
    simp only [Nat.add_zero, Array.length_toList, hm] at hst
    simp [execOp, he.eval hx, he.eval hy, Instr.storeAt, Instr.sureAddr, storeVar, sizeOf, typeInfo, hf, hsz, hm, hst]
  · exact hs.upd rfl rfl rfl (by simp) (fun q h _ => setRow_other w b q _ h) (setRow_heap w b cs _ et _ hs.get)
section
variable {w0 : World} {A : Asn} {p fp : Nat} {sv rv : Value} {snap : List UInt8} {has dn : Bool} {recs : List (Value × List UInt8)}
theorem s72a {u : Value} {m : Nat} {k : Int} {bs : List UInt8} (rd : Rd w0 A u 1 m (B bs)) (hk : k = 2) (hm : m ≤ 16777216) :
    Spec Try.prog w0 72 [.pointer (some ⟨p, 0, none⟩), .int .u8 k, u] (A * pts p (.cells #[sv, .bool has, rv, .pointer (some ⟨fp, 0, none⟩), .bool dn] 149 (0, 0)) * own 5 1 sv (snap).length (B (snap)) * own 63 1 rv (recs).length (Fl encV (recs)) * ownsB 5 (recs)) (fun v' A' => ∃ (sv2 : Value) (J : Asn), v' = .tuple #[] ∧ A' = A * J * pts p (.cells #[sv2, .bool true, (Value.slice none 0 0), .pointer (some ⟨fp, 0, none⟩), .bool dn] 149 (0, 0)) * own 5 1 sv2 (bs).length (B (bs)) * own 63 1 (Value.slice none 0 0) ((List.nil : List (Value × List UInt8))).length (Fl encV ((List.nil : List (Value × List UInt8)))) * ownsB 5 ((List.nil : List (Value × List UInt8)))) := by
  subst hk
  have hl := rd.lenB
  subst hl
  refine Spec.of_run [(0, .pointer (some ⟨p, 0, none⟩)), (1, .int .u8 2), (2, u)] Try.func72 rfl (Nat.le_of_ble_eq_true rfl) (by repeat (first | exact trivial | refine ⟨rfl, ?_⟩)) ?_
  refine Run.seq ?_
  refine Run.region ?_
  refine RunL.ok (OpOk.move rfl) rfl ?_
  refine RunL.know (fun w s => (s.conv rfl).ownsB0) (fun alx1 => ?_)
  refine RunL.call cal77 rfl (s77 rd.left.left.left.left (by omega)) rfl (fun vx2 Ax2 hx2 => ?_)
  obtain rfl := hx2
  refine RunL.ok (OpOk.assign rfl) rfl ?_
  refine RunL.nil ?_
  refine Run.seq ?_
  refine Run.seq ?_
  refine Run.region ?_
  refine RunL.ok (OpOk.move rfl) rfl ?_
  refine RunL.ok (OpOk.asT (OpOk.eql rfl rfl) (by omega)) rfl ?_
  refine RunL.nil ?_
  refine Run.condT rfl ?_
  refine Run.seq ?_
  refine Run.region ?_
  refine RunL.ok (OpOk.move rfl) rfl ?_
  refine RunL.ok (OpOk.move rfl) rfl ?_
  refine RunL.know (fun w s => (s.conv rfl).ownRd0) (fun rdx3 => ?_)
  obtain ⟨adx4, capx4, rfl, hcapx4, hadx4⟩ := (rdx3).form
  refine RunL.ok (OpOk.build (cells := #[.slice (adx4) (bs.length) (capx4), .bool (true), .slice (none) (0) (0)]) rfl (fun w => run_build w 147 _ _ (by rfl))) rfl ?_
  refine RunL.ok (OpOk.nilOk rfl) rfl ?_
  refine RunL.storePart (A1 := A * own 5 1 sv snap.length (B snap) * own 63 1 rv recs.length (Fl encV recs) * ownsB 5 recs * own 5 1 (.slice adx4 bs.length capx4) bs.length (B bs)) (cs' := #[.slice adx4 bs.length capx4, .bool true, .slice none 0 0, .pointer (some ⟨fp, 0, none⟩), .bool dn]) ti147 rfl rfl rfl (ones rfl) (by ac_rfl) rfl rfl ?_
  refine RunL.nil ?_
  refine Run.ret0 Try.func72 rfl ?_
  have e : own 63 1 (Value.slice none 0 0) (List.length ([] : List (Value × List UInt8))) (Fl encV ([] : List (Value × List UInt8))) = emp := own_nil_eq 63 1
  refine ⟨.slice adx4 bs.length capx4, own 5 1 sv snap.length (B snap) * own 63 1 rv recs.length (Fl encV recs) * ownsB 5 recs, rfl, ?_⟩
  rw [e, ownsB_nil, sep_emp, sep_emp]
  simp only [← sep_assoc]
  exact (frc (frl rfl) rfl)
theorem s72b {u : Value} {m : Nat} {k : Int} {bs : List UInt8} (rd : Rd w0 A u 1 m (B bs)) (hk : k = 1) (hm : m ≤ 16777216) (hr : recs.length ≤ 16777216) :
    Spec Try.prog w0 72 [.pointer (some ⟨p, 0, none⟩), .int .u8 k, u] (A * pts p (.cells #[sv, .bool has, rv, .pointer (some ⟨fp, 0, none⟩), .bool dn] 149 (0, 0)) * own 5 1 sv (snap).length (B (snap)) * own 63 1 rv (recs).length (Fl encV (recs)) * ownsB 5 (recs)) (fun v' A' => ∃ (rv2 v : Value) (J : Asn), v' = .tuple #[] ∧ A' = A * J * pts p (.cells #[sv, .bool has, rv2, .pointer (some ⟨fp, 0, none⟩), .bool dn] 149 (0, 0)) * own 5 1 sv (snap).length (B (snap)) * own 63 1 rv2 ((recs ++ [(v, bs)])).length (Fl encV ((recs ++ [(v, bs)]))) * ownsB 5 ((recs ++ [(v, bs)]))) := by
  subst hk
  have hl := rd.lenB
  subst hl
  refine Spec.of_run [(0, .pointer (some ⟨p, 0, none⟩)), (1, .int .u8 1), (2, u)] Try.func72 rfl (Nat.le_of_ble_eq_true rfl) (by repeat (first | exact trivial | refine ⟨rfl, ?_⟩)) ?_
  refine Run.seq ?_
  refine Run.region ?_
  refine RunL.ok (OpOk.move rfl) rfl ?_
  refine RunL.know (fun w s => (s.conv rfl).ownsB0) (fun alx1 => ?_)
  refine RunL.call cal77 rfl (s77 rd.left.left.left.left (by omega)) rfl (fun vx2 Ax2 hx2 => ?_)
  obtain rfl := hx2
  refine RunL.ok (OpOk.assign rfl) rfl ?_
  refine RunL.nil ?_
  refine Run.seq ?_
  refine Run.seq ?_
  refine Run.region ?_
  refine RunL.ok (OpOk.move rfl) rfl ?_
  refine RunL.ok (OpOk.asF (OpOk.eql rfl rfl) (by omega)) rfl ?_
  refine RunL.nil ?_
  refine Run.condF rfl ?_
  refine Run.skip ?_
  refine Run.region ?_
  refine RunL.ok (OpOk.move rfl) rfl ?_
  refine RunL.ok (OpOk.move rfl) rfl ?_
  refine RunL.ok (OpOk.nilOk rfl) rfl ?_
  refine RunL.ok (OpOk.fieldAddr fld147_2 rfl) rfl ?_
  refine RunL.ok (OpOk.load rfl rfl rfl (Blk.out Blk.pts.left.left.left.left _ _ (by first | rfl | assumption))) rfl ?_
  refine RunL.ok (OpOk.move rfl) rfl ?_
  refine RunL.know (fun w s => (s.conv rfl).ownRd0) (fun rdx4 => ?_)
  have alx3 : Alls (GB w0) _ [(vx2, bs)] := (Alls.cons (GB.of rdx4) Alls.nil)
  refine RunL.litV (ls := [(vx2, bs)]) (Alls.right alx3) rfl ti63 rfl rfl rfl (by decide) rfl (fun vx3 rdx3 => ?_)
  refine RunL.know (fun w s => (s.conv rfl).ownRd0) (fun rdx6 => ?_)
  refine RunL.appendV (Alls.right alx3).left rfl ti63 rfl rfl rfl (frl (frl (frl rfl))) (Rd.right rdx6) (by omega) rfl (fun vx5 rdx5 => ?_)
  refine RunL.ok (OpOk.nilOk rfl) rfl ?_
  refine RunL.ok (OpOk.fieldAddr fld147_2 rfl) rfl ?_
  refine RunL.know (fun w s => (s.conv rfl).ownRd0) (fun rdx7 => ?_)
  refine RunL.store ti58 rfl rfl (Rd.one rdx7) (frl (frl (frl (frl (frl rfl))))) (by exact Nat.le_of_ble_eq_true rfl) (.inl rfl) ?_
  refine RunL.nil ?_
  refine Run.fall0 Try.func72 rfl ?_
  refine ⟨vx5, vx2, own 63 1 vx3 1 (Fl encV [(vx2, bs)]), rfl, ?_⟩
  rw [ownsB_snoc, List.length_append, List.length_singleton]
  simp only [← sep_assoc]
  exact (frc (frl (frl (frl rfl))) (frc (frl (frl (frl rfl))) (frc (frl rfl) (frc (frl (frl rfl)) (frc rfl rfl)))))
end
end Go.Proofs.Yteopadjihklkmaa
