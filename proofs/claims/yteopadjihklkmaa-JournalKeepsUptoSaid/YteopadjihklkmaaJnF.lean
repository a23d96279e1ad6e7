/- A journal's calls. -/
import Derived.Test.YteopadjihklkmaaJnE
import Derived.Test.YteopadjihklkmaaRgf
namespace Go.Proofs.Yteopadjihklkmaa
open Go Go.Proofs
set_option maxRecDepth 100000
set_option maxHeartbeats 4000000
set_option linter.unusedSimpArgs false
/-- What a write answers, the file then, its power, whether it's down, what the journal has. -/
def writeF (s w : Int) (bs : List UInt8) (dn : Bool) (k : UInt8) (C : Cn) (l : List (List UInt8)) : Int × List UInt8 × Int × Bool × Cn :=
  if dn = true then (33, bs, w, true, C)
  else if l.all fine = false then (11, bs, w, false, C)
  else if s - bs.length < (rowsB k l).length then (20, bs, w, false, C)
  else if 0 ≤ w ∧ w < (rowsB k l).length then (30, bs ++ (rowsB k l).take w.toNat, 0, true, C)
  else (0, bs ++ rowsB k l, if 0 ≤ w then w - (rowsB k l).length else w, false, takesC k C l)
structure Wr (s w : Int) (bs : List UInt8) (dn : Bool) (k : UInt8) (C : Cn) (l : List (List UInt8)) (e : Int) (bs2 : List UInt8) (w2 : Int) (dn2 : Bool) (C2 : Cn) : Prop where
  out : writeF s w bs dn k C l = (e, bs2, w2, dn2, C2)
section
variable {w0 : World} {A : Asn} {p fp : Nat} {sv rv fv : Value} {snap : List UInt8} {has dn dn2 : Bool} {recs : List (Value × List UInt8)} {s w w2 e : Int} {bs bs2 : List UInt8} {C2 : Cn}
theorem write_gen {u : Value} {m : Nat} {k : UInt8} {ls : List (Value × List UInt8)} (rd : Rd w0 A u 1 m (Fl encV ls)) (al : Alls (GB w0) A ls) (hw : Wr s w bs dn k (snap, has, recs.map Prod.snd) (ls.map Prod.snd) e bs2 w2 dn2 C2) (hl : m ≤ 1048576) (hs : 0 ≤ s) (hs2 : s ≤ 9223372036854775807) (hbl : bs.length ≤ 16777216) (hr : recs.length ≤ 8388608) (hw2 : w ≤ 9223372036854775807) (hk : k.toNat = 1 ∨ k.toNat = 2) :
    Spec Try.prog w0 74 [.pointer (some ⟨p, 0, none⟩), .int .u8 ((k.toNat : Nat) : Int), u] (A * pts fp (.cells #[.int .i64 (s), .int .i64 (w), fv] 145 (0, 0)) * own 5 1 fv (bs).length (B (bs)) * pts p (.cells #[sv, .bool has, rv, .pointer (some ⟨fp, 0, none⟩), .bool dn] 149 (0, 0)) * own 5 1 sv (snap).length (B (snap)) * own 63 1 rv (recs).length (Fl encV (recs)) * ownsB 5 (recs)) (fun v' A' => ∃ (sv2 rv2 fv2 : Value) (recs2 : List (Value × List UInt8)) (J : Asn), v' = .int .i64 e ∧ recs2.map Prod.snd = C2.2.2 ∧
      A' = A * J * pts fp (.cells #[.int .i64 (s), .int .i64 (w2), fv2] 145 (0, 0)) * own 5 1 fv2 (bs2).length (B (bs2)) * pts p (.cells #[sv2, .bool C2.2.1, rv2, .pointer (some ⟨fp, 0, none⟩), .bool dn2] 149 (0, 0)) * own 5 1 sv2 (C2.1).length (B (C2.1)) * own 63 1 rv2 (recs2).length (Fl encV (recs2)) * ownsB 5 (recs2)) := by
  obtain ⟨hw⟩ := hw
  unfold writeF at hw
  cases dn with
  | true =>
    rw [if_pos rfl] at hw
    simp only [Prod.mk.injEq] at hw
    obtain ⟨rfl, rfl, rfl, rfl, rfl⟩ := hw
    refine writeA.mono ?_
    rintro v' A' ⟨rfl, rfl⟩
    exact ⟨sv, rv, fv, recs, emp, rfl, rfl, by rw [sep_emp]⟩
  | false =>
    rw [if_neg (by decide)] at hw
    cases hall : (ls.map Prod.snd).all fine with
    | false =>
      rw [if_pos hall] at hw
      simp only [Prod.mk.injEq] at hw
      obtain ⟨rfl, rfl, rfl, rfl, rfl⟩ := hw
      refine (writeB rd al hl hall).mono ?_
      rintro v' A' ⟨J, rfl, rfl⟩
      exact ⟨sv, rv, fv, recs, J, rfl, rfl, rfl⟩
    | true =>
      rw [if_neg (by rw [hall]; decide)] at hw
      rcases Int.lt_or_le (s - bs.length) (rowsB k (ls.map Prod.snd)).length with hf | hf
      · rw [if_pos hf] at hw
        simp only [Prod.mk.injEq] at hw
        obtain ⟨rfl, rfl, rfl, rfl, rfl⟩ := hw
        refine (writeC rd al hl hall hs hs2 hbl hw2 hf).mono ?_
        rintro v' A' ⟨fv2, J, rfl, rfl⟩
        exact ⟨sv, rv, fv2, recs, J, rfl, rfl, rfl⟩
      · rw [if_neg (by omega)] at hw
        rcases Decidable.em (0 ≤ w ∧ w < (rowsB k (ls.map Prod.snd)).length) with ht | ht
        · rw [if_pos ht] at hw
          simp only [Prod.mk.injEq] at hw
          obtain ⟨rfl, rfl, rfl, rfl, rfl⟩ := hw
          refine (writeE rd al hl hall hs hs2 hbl hf ht.1 ht.2).mono ?_
          rintro v' A' ⟨fv2, J, rfl, rfl⟩
          exact ⟨sv, rv, fv2, recs, J, rfl, rfl, rfl⟩
        · rw [if_neg ht] at hw
          simp only [Prod.mk.injEq] at hw
          obtain ⟨rfl, rfl, rfl, rfl, rfl⟩ := hw
          rcases Int.lt_or_le w 0 with h0 | h0
          · rw [if_neg (by omega)]
            exact writeD1 rd al hl hall hs hs2 hbl hr hk hf h0
          · rw [if_pos h0]
            exact writeD2 rd al hl hall hs hs2 hbl hr hk hf hw2 h0 (by omega)
theorem s28 {u : Value} {m : Nat} {ls : List (Value × List UInt8)} (rd : Rd w0 A u 1 m (Fl encV ls)) (al : Alls (GB w0) A ls) (hw : Wr s w bs dn 1 (snap, has, recs.map Prod.snd) (ls.map Prod.snd) e bs2 w2 dn2 C2) (hl : m ≤ 1048576) (hs : 0 ≤ s) (hs2 : s ≤ 9223372036854775807) (hbl : bs.length ≤ 16777216) (hr : recs.length ≤ 8388608) (hw2 : w ≤ 9223372036854775807) :
    Spec Try.prog w0 28 [.pointer (some ⟨p, 0, none⟩), u] (A * pts fp (.cells #[.int .i64 (s), .int .i64 (w), fv] 145 (0, 0)) * own 5 1 fv (bs).length (B (bs)) * pts p (.cells #[sv, .bool has, rv, .pointer (some ⟨fp, 0, none⟩), .bool dn] 149 (0, 0)) * own 5 1 sv (snap).length (B (snap)) * own 63 1 rv (recs).length (Fl encV (recs)) * ownsB 5 (recs)) (fun v' A' => ∃ (sv2 rv2 fv2 : Value) (recs2 : List (Value × List UInt8)) (J : Asn), v' = .int .i64 e ∧ recs2.map Prod.snd = C2.2.2 ∧
      A' = A * J * pts fp (.cells #[.int .i64 (s), .int .i64 (w2), fv2] 145 (0, 0)) * own 5 1 fv2 (bs2).length (B (bs2)) * pts p (.cells #[sv2, .bool C2.2.1, rv2, .pointer (some ⟨fp, 0, none⟩), .bool dn2] 149 (0, 0)) * own 5 1 sv2 (C2.1).length (B (C2.1)) * own 63 1 rv2 (recs2).length (Fl encV (recs2)) * ownsB 5 (recs2)) := by
  refine Spec.of_run [(0, .pointer (some ⟨p, 0, none⟩)), (1, u)] Try.func28 rfl (Nat.le_of_ble_eq_true rfl) (by repeat (first | exact trivial | refine ⟨rfl, ?_⟩)) ?_
  refine Run.seq ?_
  refine Run.region ?_
  refine RunL.ok (OpOk.assign rfl) rfl ?_
  refine RunL.nil ?_
  refine Run.seq ?_
  refine Run.region ?_
  refine RunL.ok (OpOk.move rfl) rfl ?_
  refine RunL.ok (OpOk.move rfl) rfl ?_
  refine RunL.know (fun w s => (s.conv rfl).ownsB0) (fun alx1 => ?_)
  refine RunL.call cal74 rfl (write_gen (k := 1) rd al hw hl hs hs2 hbl hr hw2 (.inl rfl)) rfl (fun v A' h => ?_)
  obtain ⟨sv2, rv2, fv2, recs2, J, rfl, h2, rfl⟩ := h
  refine RunL.ok (OpOk.assign rfl) rfl ?_
  refine RunL.nil ?_
  refine Run.ret1 Try.func28 rfl rfl ?_
  exact ⟨sv2, rv2, fv2, recs2, J, rfl, h2, rfl⟩
theorem s27 {u : Value} {m : Nat} {b : List UInt8} (rd : Rd w0 A u 1 m (B b)) (hw : Wr s w bs dn 2 (snap, has, recs.map Prod.snd) [b] e bs2 w2 dn2 C2) (hs : 0 ≤ s) (hs2 : s ≤ 9223372036854775807) (hbl : bs.length ≤ 16777216) (hr : recs.length ≤ 8388608) (hw2 : w ≤ 9223372036854775807) :
    Spec Try.prog w0 27 [.pointer (some ⟨p, 0, none⟩), u] (A * pts fp (.cells #[.int .i64 (s), .int .i64 (w), fv] 145 (0, 0)) * own 5 1 fv (bs).length (B (bs)) * pts p (.cells #[sv, .bool has, rv, .pointer (some ⟨fp, 0, none⟩), .bool dn] 149 (0, 0)) * own 5 1 sv (snap).length (B (snap)) * own 63 1 rv (recs).length (Fl encV (recs)) * ownsB 5 (recs)) (fun v' A' => ∃ (sv2 rv2 fv2 : Value) (recs2 : List (Value × List UInt8)) (J : Asn), v' = .int .i64 e ∧ recs2.map Prod.snd = C2.2.2 ∧
      A' = A * J * pts fp (.cells #[.int .i64 (s), .int .i64 (w2), fv2] 145 (0, 0)) * own 5 1 fv2 (bs2).length (B (bs2)) * pts p (.cells #[sv2, .bool C2.2.1, rv2, .pointer (some ⟨fp, 0, none⟩), .bool dn2] 149 (0, 0)) * own 5 1 sv2 (C2.1).length (B (C2.1)) * own 63 1 rv2 (recs2).length (Fl encV (recs2)) * ownsB 5 (recs2)) := by
  refine Spec.of_run [(0, .pointer (some ⟨p, 0, none⟩)), (1, u)] Try.func27 rfl (Nat.le_of_ble_eq_true rfl) (by repeat (first | exact trivial | refine ⟨rfl, ?_⟩)) ?_
  refine Run.seq ?_
  refine Run.region ?_
  refine RunL.ok (OpOk.assign rfl) rfl ?_
  refine RunL.nil ?_
  refine Run.seq ?_
  refine Run.region ?_
  refine RunL.ok (OpOk.move rfl) rfl ?_
  refine RunL.ok (OpOk.move rfl) rfl ?_
  have alx1 : Alls (GB w0) _ [(u, b)] := (Alls.cons (GB.of rd) Alls.nil)
  refine RunL.litV (ls := [(u, b)]) alx1.left.left.left.left.left.left rfl ti63 rfl rfl rfl (by decide) rfl (fun vx1 rdx1 => ?_)
  refine RunL.know (fun w s => (s.conv (frl rfl)).ownsB0) (fun alx2 => ?_)
  refine RunL.know (fun w s => (s.conv rfl).ownRd0) (fun rdx3 => ?_)
  refine RunL.call cal74 rfl (Spec.mem (by ac_rfl) (write_gen (A := A * own 63 1 vx1 1 (Fl encV [(u, b)])) (p := p) (fp := fp) (sv := sv) (rv := rv) (fv := fv) (k := 2) (ls := [(u, b)]) (Rd.right rdx3) alx1.left hw (by decide) hs hs2 hbl hr hw2 (.inr rfl))) rfl (fun v A' h => ?_)
  obtain ⟨sv2, rv2, fv2, recs2, J, rfl, h2, rfl⟩ := h
  refine RunL.ok (OpOk.assign rfl) rfl ?_
  refine RunL.nil ?_
  refine Run.ret1 Try.func27 rfl rfl ?_
  exact ⟨sv2, rv2, fv2, recs2, own 63 1 vx1 1 (Fl encV [(u, b)]) * J, rfl, h2, by simp only [← sep_assoc]⟩
theorem s29 : Spec Try.prog w0 29 [.pointer (some ⟨p, 0, none⟩)] (A * pts p (.cells #[sv, .bool has, rv, .pointer (some ⟨fp, 0, none⟩), .bool dn] 149 (0, 0)) * own 5 1 sv (snap).length (B (snap)) * own 63 1 rv (recs).length (Fl encV (recs)) * ownsB 5 (recs)) (fun v' A' => v' = .int .i64 (recs.length : Int) ∧ A' = A * pts p (.cells #[sv, .bool has, rv, .pointer (some ⟨fp, 0, none⟩), .bool dn] 149 (0, 0)) * own 5 1 sv (snap).length (B (snap)) * own 63 1 rv (recs).length (Fl encV (recs)) * ownsB 5 (recs)) := by
  refine Spec.of_run [(0, .pointer (some ⟨p, 0, none⟩))] Try.func29 rfl (Nat.le_of_ble_eq_true rfl) (by repeat (first | exact trivial | refine ⟨rfl, ?_⟩)) ?_
  refine Run.seq ?_
  refine Run.region ?_
  refine RunL.ok (OpOk.assign rfl) rfl ?_
  refine RunL.nil ?_
  refine Run.seq ?_
  refine Run.region ?_
  refine RunL.ok (OpOk.move rfl) rfl ?_
  refine RunL.ok (OpOk.nilOk rfl) rfl ?_
  refine RunL.ok (OpOk.fieldAddr fld149_0 rfl) rfl ?_
  refine RunL.ok (OpOk.fieldAddr fld147_2 rfl) rfl ?_
  refine RunL.ok (OpOk.load rfl rfl rfl (Blk.out Blk.pts.left.left.left _ _ (by first | rfl | assumption))) rfl ?_
  refine RunL.know (fun w s => (s.conv (frl rfl)).ownRd0) (fun rdx1 => ?_)
  refine RunL.ok (OpOk.lenR rfl rfl (Rd.right rdx1).left rfl) rfl ?_
  refine RunL.ok (OpOk.assign rfl) rfl ?_
  refine RunL.nil ?_
  refine Run.ret1 Try.func29 rfl rfl ?_
  exact ⟨rfl, rfl⟩
theorem s35 : Spec Try.prog w0 35 [.pointer (some ⟨p, 0, none⟩)] (A * pts p (.cells #[sv, .bool has, rv, .pointer (some ⟨fp, 0, none⟩), .bool dn] 149 (0, 0)) * own 5 1 sv (snap).length (B (snap)) * own 63 1 rv (recs).length (Fl encV (recs)) * ownsB 5 (recs)) (fun v' A' => v' = .bool dn ∧ A' = A * pts p (.cells #[sv, .bool has, rv, .pointer (some ⟨fp, 0, none⟩), .bool dn] 149 (0, 0)) * own 5 1 sv (snap).length (B (snap)) * own 63 1 rv (recs).length (Fl encV (recs)) * ownsB 5 (recs)) := by
  refine Spec.of_run [(0, .pointer (some ⟨p, 0, none⟩))] Try.func35 rfl (Nat.le_of_ble_eq_true rfl) (by repeat (first | exact trivial | refine ⟨rfl, ?_⟩)) ?_
  refine Run.seq ?_
  refine Run.region ?_
  refine RunL.ok (OpOk.assign rfl) rfl ?_
  refine RunL.nil ?_
  refine Run.seq ?_
  refine Run.region ?_
  refine RunL.ok (OpOk.move rfl) rfl ?_
  refine RunL.ok (OpOk.nilOk rfl) rfl ?_
  refine RunL.ok (OpOk.fieldAddr fld149_2 rfl) rfl ?_
  refine RunL.ok (OpOk.load rfl rfl rfl (Blk.out Blk.pts.left.left.left _ _ (by first | rfl | assumption))) rfl ?_
  refine RunL.ok (OpOk.assign rfl) rfl ?_
  refine RunL.nil ?_
  refine Run.ret1 Try.func35 rfl rfl ?_
  exact ⟨rfl, rfl⟩
theorem s33 (hsn : snap.length ≤ 16777216) : Spec Try.prog w0 33 [.pointer (some ⟨p, 0, none⟩)] (A * pts p (.cells #[sv, .bool has, rv, .pointer (some ⟨fp, 0, none⟩), .bool dn] 149 (0, 0)) * own 5 1 sv (snap).length (B (snap)) * own 63 1 rv (recs).length (Fl encV (recs)) * ownsB 5 (recs)) (fun v' A' => ∃ (v : Value) (J : Asn), v' = .tuple #[v, .bool has] ∧ A' = A * J * own 5 1 v snap.length (B snap) * pts p (.cells #[sv, .bool has, rv, .pointer (some ⟨fp, 0, none⟩), .bool dn] 149 (0, 0)) * own 5 1 sv (snap).length (B (snap)) * own 63 1 rv (recs).length (Fl encV (recs)) * ownsB 5 (recs)) := by
  refine Spec.of_run [(0, .pointer (some ⟨p, 0, none⟩))] Try.func33 rfl (Nat.le_of_ble_eq_true rfl) (by repeat (first | exact trivial | refine ⟨rfl, ?_⟩)) ?_
  refine Run.seq ?_
  refine Run.region ?_
  refine RunL.ok (OpOk.assign rfl) rfl ?_
  refine RunL.ok (OpOk.assign rfl) rfl ?_
  refine RunL.nil ?_
  refine Run.seq ?_
  refine Run.know (fun w s => (s.conv (frl (frl rfl))).ownRd0) (fun rdx1 => ?_)
  refine Run.know (fun w s => (s.conv (frl rfl)).ownRd0) (fun rdx2 => ?_)
  refine Run.drop [2, 3] ?_
  (apply Run.drawD [] (by rfl) (sep_emp _).symm; case hchk => kernel_rfl)
  refine Sd.quiet 0 _ _ rfl rfl rfl rfl rfl (QOp.ok (fun X => OpOk.move rfl)) ?_
  refine Sd.quiet 1 _ _ rfl rfl rfl rfl rfl (QOp.ok (fun X => OpOk.nilOk rfl)) ?_
  refine Sd.quiet 2 _ _ rfl rfl rfl rfl rfl (QOp.ok (fun X => OpOk.fieldAddr fld149_0 rfl)) ?_
  refine Sd.quiet 3 _ _ rfl rfl rfl rfl rfl (QOp.ok (fun X => OpOk.fieldAddr fld147_0 rfl)) ?_
  refine Sd.quiet 4 _ _ rfl rfl rfl rfl rfl (QOp.ok (fun X => OpOk.load rfl rfl rfl (Blk.out Blk.pts.left.left.left.left.left _ _ (by first | rfl | assumption)))) ?_
  refine Sd.quiet 6 _ _ rfl rfl rfl rfl rfl (QOp.ok (fun X => OpOk.move rfl)) ?_
  refine Sd.quiet 7 _ _ rfl rfl rfl rfl rfl (QOp.ok (fun X => OpOk.nilOk rfl)) ?_
  refine Sd.quiet 8 _ _ rfl rfl rfl rfl rfl (QOp.ok (fun X => OpOk.fieldAddr fld149_0 rfl)) ?_
  refine Sd.quiet 9 _ _ rfl rfl rfl rfl rfl (QOp.ok (fun X => OpOk.fieldAddr fld147_1 rfl)) ?_
  refine Sd.quiet 10 _ _ rfl rfl rfl rfl rfl (QOp.ok (fun X => OpOk.load rfl rfl rfl (Blk.out Blk.pts.left.left.left.left.left _ _ (by first | rfl | assumption)))) ?_
  refine Sd.quiet 12 _ _ rfl rfl rfl rfl rfl (QOp.ok (fun X => OpOk.assign rfl)) ?_
  (refine Sd.exec 5 rfl rfl rfl rfl rfl ?hrest (by rfl) (fun Xx3 Kx3 hKx3 => ?_); case hrest => kernel_rfl)
  refine RunL.mem (fl2 (sep_emp _) (sep_emp _)) ?_
  refine RunL.know (fun w s => (s.conv (frl rfl)).ownsB0) (fun alx4 => ?_)
  refine RunL.call cal77 rfl (s77 (Rd.right rdx1).left.left.left (by omega)) rfl (fun vx5 Ax5 hx5 => ?_)
  obtain rfl := hx5
  refine RunL.know (fun w s => (s.conv rfl).ownRd0) (fun rdx6 => ?_)
  refine Sd.ret hKx3 (Eq.trans rfl (gp2 (sep_emp _).symm rfl)) ⟨_, (emp_sep _).symm⟩ ?_
  refine Sd.quiet 11 _ _ rfl rfl rfl rfl rfl (QOp.ok (fun X => OpOk.assign rfl)) ?_
  (apply Sd.tail; case hall => kernel_rfl)
  refine RunL.mem (fl2 rfl (sep_emp _)) ?_
  refine RunL.nil ?_
  refine Run.ret2 Try.func33 rfl rfl rfl ?_
  exact ⟨_, _, rfl, (Eq.trans (frc (frl rfl) (frc (frl rfl) (frc (frl rfl) (frc (frl rfl) rfl)))) (congrArg (· * _) (congrArg (· * _) (congrArg (· * _) (congrArg (· * _) (congrArg (· * _) as0))))))⟩
theorem s75 {v : Value} {m : Nat} {l : List (Value × List UInt8)} (rd : Rd w0 A v 1 m (Fl encV l)) (al : Alls (GB w0) A l) (hm : m ≤ 16777216) :
    Spec Try.prog w0 75 [v] A (fun v' A' => A' = A * own 63 1 v' m (Fl encV l)) := by
  obtain ⟨ad, cap, rfl, hcap, ha⟩ := rd.form
  refine Spec.of_run [(0, .slice ad m cap)] Try.func75 rfl (Nat.le_of_ble_eq_true rfl) (by repeat (first | exact trivial | refine ⟨rfl, ?_⟩)) ?_
  cases ad with
  | none =>
    have hm0 : m = 0 := by
      rcases Nat.eq_zero_or_pos m with e | e
      · exact e
      · cases ha e
    subst hm0
    have hb : l = [] := List.eq_nil_of_length_eq_zero (rd.lenFl (fun _ => rfl) (by decide))
    subst hb
    have e : own 63 1 (Value.slice none 0 0) 0 (Fl encV ([] : List (Value × List UInt8))) = emp := own_nil_eq 63 1
    refine Run.seq ?_
    refine Run.region ?_
    refine RunL.ok (OpOk.assign rfl) rfl ?_
    refine RunL.nil ?_
    refine Run.seq ?_
    refine Run.seq ?_
    refine Run.region ?_
    refine RunL.ok (OpOk.move rfl) rfl ?_
    refine RunL.ok (OpOk.eqlNil rfl rfl) rfl ?_
    refine RunL.nil ?_
    refine Run.condT rfl ?_
    refine Run.seq ?_
    refine Run.region ?_
    refine RunL.ok (OpOk.assign rfl) rfl ?_
    refine RunL.nil ?_
    refine Run.ret1 Try.func75 rfl rfl ?_
    rw [e, sep_emp]
  | some a =>
    refine Run.seq ?_
    refine Run.region ?_
    refine RunL.ok (OpOk.assign rfl) rfl ?_
    refine RunL.nil ?_
    refine Run.seq ?_
    refine Run.seq ?_
    refine Run.region ?_
    refine RunL.ok (OpOk.move rfl) rfl ?_
    refine RunL.ok (OpOk.eqlNil rfl rfl) rfl ?_
    refine RunL.nil ?_
    refine Run.condF rfl ?_
    refine Run.skip ?_
    refine Run.seq ?_
    refine Run.region ?_
    refine RunL.lit0 rfl ti63 rfl (fun vy1 rdy1 => ?_)
    refine RunL.ok (OpOk.move rfl) rfl ?_
    refine RunL.appendV (xs := ([] : List (Value × List UInt8))) al.left rfl ti63 rfl rfl rfl rfl rd.left (by omega) rfl (fun vz rdz => ?_)
    refine RunL.ok (OpOk.assign rfl) rfl ?_
    refine RunL.nil ?_
    refine Run.ret1 Try.func75 rfl rfl ?_
    rw [Nat.zero_add, List.nil_append]
theorem s30 (hr : recs.length ≤ 16777216) : Spec Try.prog w0 30 [.pointer (some ⟨p, 0, none⟩)] (A * pts p (.cells #[sv, .bool has, rv, .pointer (some ⟨fp, 0, none⟩), .bool dn] 149 (0, 0)) * own 5 1 sv (snap).length (B (snap)) * own 63 1 rv (recs).length (Fl encV (recs)) * ownsB 5 (recs)) (fun v' A' => ∃ (b : Nat) (v : Value), v' = .func (.func 76) #[] #[.pointer (some ⟨b, 0, none⟩)] ∧ A' = A * pts p (.cells #[sv, .bool has, rv, .pointer (some ⟨fp, 0, none⟩), .bool dn] 149 (0, 0)) * own 5 1 sv (snap).length (B (snap)) * own 63 1 rv (recs).length (Fl encV (recs)) * ownsB 5 (recs) * pts b (.cells #[v] 58 (0, 0)) * own 63 1 v recs.length (Fl encV recs)) := by
  refine Spec.of_run [(0, .pointer (some ⟨p, 0, none⟩))] Try.func30 rfl (Nat.le_of_ble_eq_true rfl) (by repeat (first | exact trivial | refine ⟨rfl, ?_⟩)) ?_
  refine Run.seq ?_
  refine Run.region ?_
  refine RunL.ok (OpOk.assign rfl) rfl ?_
  refine RunL.nil ?_
  refine Run.seq ?_
  refine Run.region ?_
  refine RunL.ok (OpOk.move rfl) rfl ?_
  refine RunL.ok (OpOk.nilOk rfl) rfl ?_
  refine RunL.ok (OpOk.fieldAddr fld149_0 rfl) rfl ?_
  refine RunL.ok (OpOk.fieldAddr fld147_2 rfl) rfl ?_
  refine RunL.ok (OpOk.load rfl rfl rfl (Blk.out Blk.pts.left.left.left _ _ (by first | rfl | assumption))) rfl ?_
  refine RunL.know (fun w s => (s.conv rfl).ownsB0) (fun alx1 => ?_)
  refine RunL.know (fun w s => (s.conv (frl rfl)).ownRd0) (fun rdx2 => ?_)
  refine RunL.call cal75 rfl (s75 (Rd.right rdx2).left (Alls.right alx1) (by assumption)) rfl (fun vx3 Ax3 hx3 => ?_)
  obtain rfl := hx3
  refine RunL.alloc ti58 rfl (fun bx4 => ?_)
  refine RunL.know (fun w s => (s.conv (frl rfl)).ownRd0) (fun rdx5 => ?_)
  refine RunL.store ti58 rfl rfl (Rd.one rdx5) rfl (by exact Nat.le_of_ble_eq_true rfl) (.inl rfl) ?_
  refine RunL.nil ?_
  refine Run.seq ?_
  refine Run.region ?_
  refine RunL.ok (OpOk.makeFunc rfl rfl) rfl ?_
  refine RunL.ok (OpOk.assign rfl) rfl ?_
  refine RunL.nil ?_
  refine Run.ret1 Try.func30 rfl rfl ?_
  exact ⟨_, _, rfl, (frc (frl rfl) (frc rfl rfl))⟩
/-- The iterator: each record anew. -/
theorem iterJ {b : Nat} {v : Value} (hmx : recs.length ≤ 16777216) (hbd : ∀ r ∈ recs, r.2.length ≤ 16777216) : IterF Try.prog w0 76 [.pointer (some ⟨b, 0, none⟩)] recs.length (fun u : Value => u) (fun i u => own 5 1 u (recs.getD i default).2.length (B (recs.getD i default).2)) (pts b (.cells #[v] 58 (0, 0)) * own 63 1 v recs.length (Fl encV recs)) (ownsB 5 recs) := by
  refine ⟨cal76, fun l Y I M St hY y0 h0 => ?_⟩
  simp only [← sep_assoc]
  refine Spec.of_run [(0, .func (.yield l) #[] #[]), (1, .pointer (some ⟨b, 0, none⟩))] Try.func76 rfl (Nat.le_of_ble_eq_true rfl) (by repeat (first | exact trivial | refine ⟨rfl, ?_⟩)) ?_
  refine Run.seq ?_
  refine Run.region ?_
  refine RunL.ok (OpOk.load rfl rfl rfl (Blk.out Blk.pts.left.left _ _ (by first | rfl | assumption))) rfl ?_
  refine RunL.know (fun w s => (s.conv (frl rfl)).ownRd0) (fun rdx1 => ?_)
  refine RunL.ok (OpOk.lenR rfl rfl (Rd.right rdx1).left rfl) rfl ?_
  refine RunL.ok (OpOk.move rfl) rfl ?_
  refine RunL.nil ?_
  refine Run.block ?_
  refine Run.know (fun w s => s.ownsB0) (fun alr => ?_)
  refine Run.jump ((Run.loopJ (X := Nat × Asn × Y) (fun x => [(7, .int .i64 (x.1 : Int)), (6, .int .i64 (recs.length : Int)), (5, v), (0, .func (.yield l) #[] #[])]) (fun x => x.2.1 * M x.2.2 * own 63 1 v recs.length (Fl encV recs) * ownsB 5 recs) (fun x => x.1 ≤ recs.length ∧ I x.1 x.2.2) (fun x => recs.length - x.1) (0, _, y0) ⟨Nat.zero_le _, h0⟩ (fun x hx ih => ?_))) ⟨rfl, rfl, rfl, rfl, trivial⟩ (Grew.of (Eq.trans (frc rfl (frc rfl (frc (sep_comm _ _) rfl))) (congrArg (· * _) (congrArg (· * _) (congrArg (· * _) rfl)))) (Grew.refl _))
  obtain ⟨i, J, y⟩ := x
  simp only at hx ih ⊢
  obtain ⟨hi, hI⟩ := hx
  rcases Nat.lt_or_ge i recs.length with hlt | hge
  · have rdi : Rd w0 (ownsB 5 recs) (recs.getD i default).1 1 (recs.getD i default).2.length (B (recs.getD i default).2) := alr.get hlt
    have hv := Fl_V recs i hlt
    have hbi := hbd _ (getD_mem hlt)
    refine Run.seq ?_
    refine Run.region ?_
    refine RunL.ok (OpOk.asT (OpOk.lss rfl rfl) (by omega)) rfl ?_
    refine RunL.nil ?_
    refine Run.seq ?_
    refine Run.condT rfl ?_
    refine Run.skip ?_
    refine Run.seq ?_
    refine Run.block ?_
    refine Run.seq ?_
    refine Run.region ?_
    refine RunL.ok (OpOk.idx1N rfl ti63 rfl (Rd.right rdx1).left rfl (by omega)) rfl ?_
    refine RunL.ok (OpOk.load rfl rfl rfl (Rd.cell (Rd.right rdx1).left (by first | assumption | rfl))) rfl ?_
    refine RunL.ok (OpOk.assign rfl) rfl ?_
    refine RunL.nil ?_
    refine Run.seq ?_
    refine Run.regionY ?_
    refine RunY.ok (OpOk.move rfl) rfl ?_
    refine RunY.ok (OpOk.move rfl) rfl ?_
    refine RunY.call cal77 rfl (s77 (Rd.right rdi) (by omega)) rfl (fun u A' h => ?_)
    subst h
    refine RunY.yield rfl rfl (fun w hs => hY i y u (J * own 63 1 v recs.length (Fl encV recs) * ownsB 5 recs) hlt hI w (hs.conv (by ac_rfl))) rfl (fun u2 A' h => ?_)
    rcases h with ⟨rfl, y', hI', rfl⟩ | ⟨rfl, y', hS, rfl⟩
    · refine RunY.of ?_
      refine RunL.ok (OpOk.not rfl) rfl ?_
      refine RunL.nil ?_
      refine Run.condF rfl ?_
      refine Run.skip ?_
      refine Run.inBlock ?_
      refine Run.region ?_
      refine RunL.ok (OpOk.addN _ 1 rfl rfl rfl rfl (by omega)) rfl ?_
      refine RunL.ok (OpOk.move rfl) rfl ?_
      refine RunL.nil ?_
      refine Run.jump ((ih (i + 1, _, y') ⟨by dsimp only; omega, hI'⟩ (by dsimp only; omega))) ⟨rfl, rfl, rfl, rfl, trivial⟩ (Grew.of (Eq.trans (frc (frl rfl) (frc (frl rfl) rfl)) (congrArg (· * _) (congrArg (· * _) (congrArg (· * _) rfl)))) (Grew.refl _))
    · refine RunY.of ?_
      refine RunL.ok (OpOk.not rfl) rfl ?_
      refine RunL.nil ?_
      refine Run.condT rfl ?_
      refine Run.ret0 Try.func76 rfl ?_
      exact ⟨y', J * own 63 1 v recs.length (Fl encV recs), .inr hS, by ac_rfl⟩
  · obtain rfl : i = recs.length := by omega
    clear ih
    refine Run.seq ?_
    refine Run.region ?_
    refine RunL.ok (OpOk.asF (OpOk.lss rfl rfl) (by omega)) rfl ?_
    refine RunL.nil ?_
    refine Run.seq ?_
    refine Run.condF rfl ?_
    refine Run.exit rfl ?_
    refine Run.fall0 Try.func76 rfl ?_
    exact ⟨y, J * own 63 1 v recs.length (Fl encV recs), .inl hI, by ac_rfl⟩
end
end Go.Proofs.Yteopadjihklkmaa
