/- More operations: max, min, bytes of a text, copy. -/
import Derived.Test.YteopadjihklkmaaNst
import Derived.Laws.IdiomStrings
namespace Go.Proofs.Yteopadjihklkmaa
open Go Go.Proofs
section
variable {P : Program} {n : Nat} {w0 : World} {ops : Array Oper} {l : List Oper} {K : Act → World → Prop} {E : Env} {A : Asn} {ty : TypeId} {ps : String} {af : Array Edge}
theorem OpOk.max2 {x y : Operand} {c : Array TypeId} {t u : TypeId} {k q : IntKind} {i j : Int} (hx : ev E x = some (.int k i)) (hy : ev E y = some (.int q j)) (hc : c = #[t, u]) :
    OpOk P n w0 (.call { callee := .builtin .max, args := #[x, y], argTypes := c }) ty E A (.int k (max i j)) :=
  .pure fun a w _ _ _ _ he => by
    subst hc
    have e : (if j > i then j else i) = max i j := by rw [Int.max_def]; split <;> split <;> omega
    simp [execOp, he.eval hx, he.eval hy, resolve, invoke, builtin, run_max_int2, e]
theorem OpOk.min2 {x y : Operand} {c : Array TypeId} {t u : TypeId} {k q : IntKind} {i j : Int} (hx : ev E x = some (.int k i)) (hy : ev E y = some (.int q j)) (hc : c = #[t, u]) :
    OpOk P n w0 (.call { callee := .builtin .min, args := #[x, y], argTypes := c }) ty E A (.int k (min i j)) :=
  .pure fun a w _ _ _ _ he => by
    subst hc
    have e : (if j < i then j else i) = min i j := by rw [Int.min_def]; split <;> split <;> omega
    simp [execOp, he.eval hx, he.eval hy, resolve, invoke, builtin, run_min_int2, e]
theorem OpOk.max2L {x y : Operand} {c : Array TypeId} {t u : TypeId} {k q : IntKind} {i j : Int} (hx : ev E x = some (.int k i)) (hy : ev E y = some (.int q j)) (hc : c = #[t, u]) (h : j ≤ i) :
    OpOk P n w0 (.call { callee := .builtin .max, args := #[x, y], argTypes := c }) ty E A (.int k i) := by
  have := OpOk.max2 (P := P) (n := n) (w0 := w0) (A := A) (ty := ty) hx hy hc
  rwa [Int.max_eq_left h] at this
theorem OpOk.max2R {x y : Operand} {c : Array TypeId} {t u : TypeId} {k q : IntKind} {i j : Int} (hx : ev E x = some (.int k i)) (hy : ev E y = some (.int q j)) (hc : c = #[t, u]) (h : i ≤ j) :
    OpOk P n w0 (.call { callee := .builtin .max, args := #[x, y], argTypes := c }) ty E A (.int k j) := by
  have := OpOk.max2 (P := P) (n := n) (w0 := w0) (A := A) (ty := ty) hx hy hc
  rwa [Int.max_eq_right h] at this
theorem OpOk.min2L {x y : Operand} {c : Array TypeId} {t u : TypeId} {k q : IntKind} {i j : Int} (hx : ev E x = some (.int k i)) (hy : ev E y = some (.int q j)) (hc : c = #[t, u]) (h : i ≤ j) :
    OpOk P n w0 (.call { callee := .builtin .min, args := #[x, y], argTypes := c }) ty E A (.int k i) := by
  have := OpOk.min2 (P := P) (n := n) (w0 := w0) (A := A) (ty := ty) hx hy hc
  rwa [Int.min_eq_left h] at this
theorem OpOk.min2R {x y : Operand} {c : Array TypeId} {t u : TypeId} {k q : IntKind} {i j : Int} (hx : ev E x = some (.int k i)) (hy : ev E y = some (.int q j)) (hc : c = #[t, u]) (h : j ≤ i) :
    OpOk P n w0 (.call { callee := .builtin .min, args := #[x, y], argTypes := c }) ty E A (.int k j) := by
  have := OpOk.min2 (P := P) (n := n) (w0 := w0) (A := A) (ty := ty) hx hy hc
  rwa [Int.min_eq_right h] at this
theorem Ent.ownCut (A : Asn) {e : TypeId} {size m j : Nat} {v : Value} {xs : List Value} (h : j ≤ m) : Ent (A * own e size v m xs) (A * own e size (cutV v 0 j size) j (xs.take (j * size))) := by
  refine Ent.sep (Ent.refl A) fun p hp => ?_
  obtain ⟨hl, hp⟩ := hp
  have e2 : j * size ≤ m * size := Nat.mul_le_mul_right _ h
  refine ⟨by rw [List.length_take, hl]; omega, ?_⟩
  rcases hp with ⟨rfl, rfl, hn⟩ | ⟨g, cap, cur, rfl, h1, h2, h3, h4, hh⟩
  · obtain rfl : j = 0 := by omega
    exact .inl ⟨rfl, rfl, hn⟩
  · refine .inr ⟨g, cap, cur, ?_, by omega, h2, h3, ?_, hh⟩
    · have ha : (⟨g, 0, none⟩ : Addr).add (0 * size) = ⟨g, 0, none⟩ := by rw [Nat.zero_mul]; unfold Addr.add; split <;> simp_all
      simp only [cutV, Option.map_some, ha, Nat.sub_zero]
      split <;> rfl
    · rw [← h4, List.take_take, Nat.min_eq_left e2]
theorem Ent.ownCutB (A : Asn) {e : TypeId} {m j : Nat} {v : Value} {bs : List UInt8} (h : j ≤ m) : Ent (A * own e 1 v m (B bs)) (A * own e 1 (cutV v 0 j 1) j (B (bs.take j))) := by
  have := Ent.ownCut A (e := e) (size := 1) (v := v) (xs := B bs) h
  rwa [Nat.mul_one, show (B bs).take j = B (bs.take j) by simp [B]] at this
theorem own_nil_eq (e : TypeId) (size : Nat) : own e size (.slice none 0 0) 0 [] = emp := by
  refine Asn.ext' fun p => ⟨?_, fun h => ⟨by simp, .inl ⟨rfl, rfl, h⟩⟩⟩
  rintro ⟨_, ⟨_, _, h⟩ | ⟨g, cap, cur, hv, _⟩⟩
  · exact h
  · cases hv
/-- The bytes of a text, in fresh memory that is only read. -/
theorem RunL.bytesOf {d : Nat} {s t e : TypeId} {x : Operand} {xs : List UInt8} (hs : P.underlying s = some .string) (ht : P.underlying t = some (.slice e)) (he8 : P.underlying e = some (.int .u8)) (hx : ev E x = some (S xs)) (hlim : xs.length ≤ maxLen) (hd : Nat.blt d n = true)
    (r : ∀ v J, Rd w0 (A * J) v 1 xs.length (B xs) → RunL P n w0 ops l K ((d, v) :: E) (A * J)) :
    RunL P n w0 ops ({ dst := some d, op := .convert s t x, type := ty, pos := ps, after := af, guard := none } :: l) K E A := by
  refine RunL.val (X := { p : Nat × Nat // xs.length ≤ p.2 }) (fun p => .slice (some ⟨p.1.1, 0, none⟩) xs.length p.1.2) (fun p => A * pts p.1.1 (.cells (bytesRow ⟨xs.toArray⟩ p.1.2) e ((bytesRow ⟨xs.toArray⟩ p.1.2).size, (bytesRow ⟨xs.toArray⟩ p.1.2).size + 1))) hd (fun a w he hs' => ?_) (fun p => r _ _ ?_)
  · have h := run_bytes_of_string (P := P) w s t e ⟨xs.toArray⟩ hs ht he8
    have hz : (ByteArray.mk xs.toArray).size = xs.length := rfl
    rw [hz] at h
    have hge := grownCap_ge w xs.length 0 e
    refine ⟨⟨(w.heap.size, grownCap w xs.length 0 e), hge⟩, _, ?_, hs'.drew.alloc _⟩
    simp only [execOp, he.eval hx, S, Sem.run_bind, h, Result.andThen_ok, Sem.run_pure]
  · obtain ⟨⟨b, c⟩, hc⟩ := p
    refine ⟨by simp [B], hlim, _, c, rfl, hc, fun _ => ⟨_, rfl, fun j u hj => ?_⟩⟩
    have hjl : j < xs.length := by
      have := (List.getElem?_eq_some_iff.1 hj).1
      simpa [B] using this
    have e2 : (⟨b, 0, none⟩ : Addr).add j = ⟨b, 0 + j, none⟩ := by unfold Addr.add; split <;> simp_all
    rw [e2, Nat.zero_add]
    refine Cell.pts ?_
    rw [bytesRow_at _ _ _ (by simpa using hjl)]
    simp only [B, List.getElem?_map, List.getElem?_eq_getElem hjl, Option.map_some, Option.some.injEq] at hj
    rw [← hj]
    simp
theorem RunL.bytesOf0 {d : Nat} {s t e : TypeId} {x : Operand} {xs : List UInt8} (hs : P.underlying s = some .string) (ht : P.underlying t = some (.slice e)) (he8 : P.underlying e = some (.int .u8)) (hx : ev E x = some (S xs)) (hlim : xs.length ≤ maxLen) (hd : Nat.blt d n = true)
    (r : ∀ v J, Rd w0 J v 1 xs.length (B xs) → RunL P n w0 ops l K ((d, v) :: E) (A * J)) :
    RunL P n w0 ops ({ dst := some d, op := .convert s t x, type := ty, pos := ps, after := af, guard := none } :: l) K E A := by
  refine RunL.val (X := { p : Nat × Nat // xs.length ≤ p.2 }) (fun p => .slice (some ⟨p.1.1, 0, none⟩) xs.length p.1.2) (fun p => A * pts p.1.1 (.cells (bytesRow ⟨xs.toArray⟩ p.1.2) e ((bytesRow ⟨xs.toArray⟩ p.1.2).size, (bytesRow ⟨xs.toArray⟩ p.1.2).size + 1))) hd (fun a w he hs' => ?_) (fun p => r _ _ ?_)
  · have h := run_bytes_of_string (P := P) w s t e ⟨xs.toArray⟩ hs ht he8
    have hz : (ByteArray.mk xs.toArray).size = xs.length := rfl
    rw [hz] at h
    have hge := grownCap_ge w xs.length 0 e
    refine ⟨⟨(w.heap.size, grownCap w xs.length 0 e), hge⟩, _, ?_, hs'.drew.alloc _⟩
    simp only [execOp, he.eval hx, S, Sem.run_bind, h, Result.andThen_ok, Sem.run_pure]
  · obtain ⟨⟨b, c⟩, hc⟩ := p
    refine ⟨by simp [B], hlim, _, c, rfl, hc, fun _ => ⟨_, rfl, fun j u hj => ?_⟩⟩
    have hjl : j < xs.length := by
      have := (List.getElem?_eq_some_iff.1 hj).1
      simpa [B] using this
    have e2 : (⟨b, 0, none⟩ : Addr).add j = ⟨b, 0 + j, none⟩ := by unfold Addr.add; split <;> simp_all
    rw [e2, Nat.zero_add]
    refine Cell.conv (Cell.pts (A := emp) ?_) (emp_sep _)
    rw [bytesRow_at _ _ _ (by simpa using hjl)]
    simp only [B, List.getElem?_map, List.getElem?_eq_getElem hjl, Option.map_some, Option.some.injEq] at hj
    rw [← hj]
    simp
theorem RunL.mark0 {d : Nat} {t e : TypeId} {x : Operand} {v : Value} {m : Nat} {xs : List Value} {A1 : Asn} (hu : P.underlying t = some (.slice e)) (he8 : P.underlying e = some (.int .u8)) (hx : ev E x = some v) (hA : A = A1 * own e 1 v m xs) (h0 : 0 < m) (hd : Nat.blt d n = true)
    (r : ∀ C, Rd w0 C v 1 m xs → RunL P n w0 ops l K ((d, v) :: E) (A1 * C)) :
    RunL P n w0 ops ({ dst := some d, op := .convert t t x, type := ty, pos := ps, after := af, guard := none } :: l) K E A := by
  subst hA
  refine ⟨fun a w he hs' => ?_⟩
  refine wpList_plain rfl fun K' hK => ?_
  have hl := hs'.ownLen
  rcases hs'.ownForm with ⟨_, h, _⟩ | ⟨g, cap, cur, rfl, g2, g3, g4, g5, s⟩
  · omega
  · have e1 : (execOp a.eval { dst := some d, op := .convert t t x, type := ty, pos := ps, after := af, guard := none }).run P w = .ok (.value (.slice (some ⟨g, 0, none⟩) m cap)) (w.freeze ⟨g, cur.size, none⟩ 1) := by
      have hsh : w.shape? g = some (e, cur.size) := by simp [World.shape?, s.get]
      simp [execOp, he.eval hx, convert, underlying, hu, he8, markStringish, hsh]
    unfold Oper.wp
    rw [e1]
    have hs2 : Sat w0 (w.freeze ⟨g, cur.size, none⟩ 1) (A1 * pts g (.cells cur e (cur.size, cur.size + 1))) := by
      refine s.upd rfl rfl rfl ?_ (fun k hk _ => ?_) ?_
      · simp [World.freeze]
      · simp only [World.freeze, Nat.succ_ne_self, if_false, Array.getElem?_modify]
        rw [if_neg (fun e => hk e.symm)]
      · simp only [World.freeze]
        rw [if_neg (fun e => Nat.one_ne_zero e)]
        simp [Array.getElem?_modify, s.get]
    refine hK _ _ ((r _ ?_).out _ _ (he.put (Nat.le_of_ble_eq_true hd) _) hs2)
    refine ⟨hl.1, hl.2, _, cap, rfl, g2, fun _ => ⟨_, rfl, fun j u hj => ?_⟩⟩
    have ha : (⟨g, 0, none⟩ : Addr).add j = ⟨g, j, none⟩ := by unfold Addr.add; split <;> simp_all
    rw [ha]
    refine Cell.conv (Cell.pts (A := emp) ?_) (emp_sep _)
    rw [← g5, List.getElem?_take] at hj
    split at hj
    · simpa using hj
    · cases hj
/-- What copy leaves. -/
def laid {α : Type} (ys xs : List α) : List α := ys.take (min ys.length xs.length) ++ xs.drop (min ys.length xs.length)
theorem laid_length {α : Type} (ys xs : List α) : (laid ys xs).length = xs.length := by simp [laid]; omega
theorem B_laid (ys xs : List UInt8) : B (laid ys xs) = laid (B ys) (B xs) := by simp [laid, B, List.map_take, List.map_drop]
theorem laid_all {α : Type} {ys xs : List α} (h : ys.length = xs.length) : laid ys xs = ys := by
  unfold laid
  rw [← h, Nat.min_self, List.take_length, List.drop_eq_nil_of_le (by omega), List.append_nil]
theorem RunL.copyOwn {d : Nat} {t u e : TypeId} {x y : Operand} {v v2 z : Value} {m k bytes : Nat} {xs ys : List Value} {A1 : Asn} {ats : Array TypeId} (hu : P.underlying t = some (.slice e)) (hz : TyI P e z 1 bytes) (hats : ats = #[t, u])
    (hx : ev E x = some v) (hy : ev E y = some v2) (hA : A = A1 * own e 1 v m xs) (rd : Rd w0 A v2 1 k ys) (h1 : ∀ c ∈ ys, c.oneCell' = true) (hd : Nat.blt d n = true)
    (r : Rd w0 (A1 * own e 1 v m (laid ys xs)) v 1 m (laid ys xs) → RunL P n w0 ops l K ((d, .int .i64 ((min k m : Nat) : Int)) :: E) (A1 * own e 1 v m (laid ys xs))) :
    RunL P n w0 ops ({ dst := some d, op := .call { callee := .builtin .copy, args := #[x, y], argTypes := ats }, type := ty, pos := ps, after := af, guard := none } :: l) K E A := by
  subst hA hats
  obtain ⟨f, hf, hfz, hs1, hb⟩ := hz.get
  have hsz : (P.info? e).map (·.size) = some 1 := by rw [hf]; simp [hs1]
  refine ⟨fun a w he hs => ?_⟩
  have hol := hs.ownLen
  have hyl := rd.len
  rw [Nat.mul_one] at hol hyl
  obtain ⟨ad2, cap2, rfl, hc2, hat⟩ := rd.is
  rcases hs.ownForm with ⟨rfl, rfl, rfl, s⟩ | ⟨g, cap, cur, rfl, g2, g3, g4, g5, s⟩
  · refine wpList_copy_nothing rfl x y t u rfl e hu hsz none ad2 0 0 k cap2 (he.eval hx) (he.eval hy) (by simp) ?_
    have e0 : laid ys ([] : List Value) = [] := by simp [laid]
    rw [e0] at r
    have hh := (r hs.ownRd).out (a.put (some d) (.int .i64 ((min k 0 : Nat) : Int))) w (he.put (Nat.le_of_ble_eq_true hd) _) hs
    simpa [goInt] using hh
  · rw [Nat.mul_one] at g4 g5
    have hfin : ∀ w', w'.heap[g]? = some (.cells ((laid ys xs) ++ cur.toList.drop m).toArray e (0, 0)) → (w' = w ∨ ∃ C, w' = w.setRow g C) → Sat w0 w' (A1 * own e 1 (.slice (some ⟨g, 0, none⟩) m cap) m (laid ys xs)) := fun w' hh hw => by
      have hcl : ((laid ys xs) ++ cur.toList.drop m).length = cap := by
        rw [List.length_append, laid_length, hol.1, List.length_drop, Array.length_toList, g4]
        omega
      have s2 : Sat w0 w' (A1 * pts g (.cells ((laid ys xs) ++ cur.toList.drop m).toArray e (0, 0))) := by
        rcases hw with rfl | ⟨C, rfl⟩
        · exact s.upd rfl rfl rfl (Nat.le_refl _) (fun _ _ _ => rfl) hh
        · exact s.upd rfl rfl rfl (by simp [World.setRow]) (fun k hk _ => setRow_other w g k _ hk) hh
      refine s2.entr (own_of_pts (by rw [laid_length, hol.1]; omega) g2 g3 (by simp only [List.size_toArray, hcl]; omega) ?_)
      rw [Nat.mul_one]
      show ((laid ys xs) ++ cur.toList.drop m).take m = laid ys xs
      rw [List.take_append_of_le_length (by rw [laid_length, hol.1]; exact Nat.le_refl _), List.take_of_length_le (by rw [laid_length, hol.1]; exact Nat.le_refl _)]
    by_cases h0 : min k m = 0
    · refine wpList_copy_nothing rfl x y t u rfl e hu hsz _ ad2 m cap k cap2 (he.eval hx) (he.eval hy) h0 ?_
      have e0 : laid ys xs = xs := by unfold laid; rw [hyl, hol.1, h0]; simp
      have hh : w.heap[g]? = some (.cells ((laid ys xs) ++ cur.toList.drop m).toArray e (0, 0)) := by
        rw [e0, ← g5, List.take_append_drop]; exact s.get
      have s3 := hfin w hh (.inl rfl)
      have := (r s3.ownRd).out (a.put (some d) (.int .i64 ((min k m : Nat) : Int))) w (he.put (Nat.le_of_ble_eq_true hd) _) s3
      rw [h0] at this
      simpa [goInt] using this
    · obtain ⟨ad, rfl, hcell⟩ := hat (by omega)
      have hcl : (ys.take (min k m)).length = Nat.min k m := by rw [List.length_take, hyl]; exact Nat.min_eq_left (Nat.min_le_left _ _)
      refine wpList_copy_own rfl x y t u rfl e hu hsz g 0 m cap ad k cap2 (he.eval hx) (he.eval hy) cur e s.get (ys.take (min k m)) hcl (fun j c hj => ?_) (by rw [hcl, g4, Nat.zero_add]; have := Nat.min_le_right k m; show min k m ≤ cap; omega) (fun c hc => h1 c (List.mem_of_mem_take hc)) ?_
      · rw [List.getElem?_take] at hj
        split at hj
        · exact (hcell j c hj).out w hs
        · cases hj
      · have hrow : cur.toList.take 0 ++ (ys.take (min k m) ++ cur.toList.drop (0 + (ys.take (min k m)).length)) = laid ys xs ++ cur.toList.drop m := by
          rw [List.take_zero, List.nil_append, Nat.zero_add, hcl]
          show ys.take (min k m) ++ cur.toList.drop (min k m) = _
          unfold laid
          rw [hyl, hol.1, List.append_assoc]
          congr 1
          rw [← g5, List.drop_take]
          conv => lhs; rw [← List.take_append_drop (m - min k m) (cur.toList.drop (min k m))]
          rw [List.drop_drop, show min k m + (m - min k m) = m by have := Nat.min_le_right k m; omega]
        rw [hrow]
        have s3 := hfin _ (setRow_heap w g cur _ e _ s.get) (.inr ⟨_, rfl⟩)
        have := (r s3.ownRd).out (a.put (some d) (.int .i64 ((min k m : Nat) : Int))) _ (he.put (Nat.le_of_ble_eq_true hd) _) s3
        rw [hcl]
        simpa [goInt] using this
theorem RunL.copyB {d : Nat} {t u e : TypeId} {x y : Operand} {v v2 z : Value} {m k bytes : Nat} {xs ys : List UInt8} {A1 : Asn} {ats : Array TypeId} (hu : P.underlying t = some (.slice e)) (hz : TyI P e z 1 bytes) (hats : ats = #[t, u])
    (hx : ev E x = some v) (hy : ev E y = some v2) (hA : A = A1 * own e 1 v m (B xs)) (rd : Rd w0 A v2 1 k (B ys)) (hd : Nat.blt d n = true)
    (r : Rd w0 (A1 * own e 1 v m (B (laid ys xs))) v 1 m (B (laid ys xs)) → RunL P n w0 ops l K ((d, .int .i64 ((min k m : Nat) : Int)) :: E) (A1 * own e 1 v m (B (laid ys xs)))) :
    RunL P n w0 ops ({ dst := some d, op := .call { callee := .builtin .copy, args := #[x, y], argTypes := ats }, type := ty, pos := ps, after := af, guard := none } :: l) K E A := by
  refine RunL.copyOwn hu hz hats hx hy hA rd (B_one _) hd ?_
  rw [← B_laid]
  exact r
theorem GB.of {A : Asn} {v : Value} {m : Nat} {bs : List UInt8} (rd : Rd w0 A v 1 m (B bs)) : GB w0 A (v, bs) := by
  have h := rd.len
  rw [B_length, Nat.mul_one] at h
  subst h
  exact rd
theorem RunL.appendV {d : Nat} {t e : TypeId} {x y : Operand} {v u : Value} {m c bytes : Nat} {xs ys : List (Value × List UInt8)} {z : Value} {A1 : Asn} {ats : Array TypeId} (al : Alls (GB w0) A ys) (hu : P.underlying t = some (.slice e))
    (hi : TyI P e z 1 bytes) (hats : ats = #[t, t]) (hx : ev E x = some v) (hy : ev E y = some u) (hA : A = A1 * own e 1 v m (Fl encV xs)) (rd : Rd w0 A u 1 c (Fl encV ys))
    (hlim : (m + c) * bytes ≤ 140737488355328) (hd : Nat.blt d n = true)
    (r : ∀ v', Rd w0 (A1 * own e 1 v' (m + c) (Fl encV (xs ++ ys))) v' 1 (m + c) (Fl encV (xs ++ ys)) → RunL P n w0 ops l K ((d, v') :: E) (A1 * own e 1 v' (m + c) (Fl encV (xs ++ ys)))) (hzs : z.cells.size = 1 := by rfl) (hb : 0 < bytes := by decide) :
    RunL P n w0 ops ({ dst := some d, op := .call { callee := .builtin .append, args := #[x, y], argTypes := ats }, type := ty, pos := ps, after := af, guard := none } :: l) K E A := by
  have h2 : m + c ≤ maxLen := by
    have : (m + c) * 1 ≤ (m + c) * bytes := Nat.mul_le_mul_left _ hb
    simp only [maxLen]
    omega
  refine RunL.append hu hi hats hx hy hA rd (fun q hq => ?_) hzs (by decide) hlim h2 hd ?_
  · obtain ⟨p, hp, hq2⟩ := List.mem_flatMap.1 hq
    simp only [encV, List.mem_cons, List.not_mem_nil, or_false] at hq2
    subst hq2
    exact Rd.one (al.at_ p hp)
  · rw [← Fl_append]
    exact r
/-- A literal of slices of bytes. -/
theorem RunL.litV {d : Nat} {t e : TypeId} {z : Value} {m : Nat} {parts : List (Nat × Operand)} {ls : List (Value × List UInt8)} (al : Alls (GB w0) A ls) (hu : P.underlying t = some (.slice e)) {bytes : Nat} (hi : TyI P e z 1 bytes) (hv : evParts E parts = some (ls.map Prod.fst))
    (hp : places 0 parts = true) (hm : parts.length = m) (hlim : m ≤ 1048576) (hd : Nat.blt d n = true)
    (r : ∀ v, Rd w0 (A * own e 1 v m (Fl encV ls)) v 1 m (Fl encV ls) → RunL P n w0 ops l K ((d, v) :: E) (A * own e 1 v m (Fl encV ls))) :
    RunL P n w0 ops ({ dst := some d, op := .buildSlice t m parts.toArray, type := ty, pos := ps, after := af, guard := none } :: l) K E A := by
  have e : ∀ l : List (Value × List UInt8), l.map Prod.fst = Fl encV l := fun l => by
    induction l with
    | nil => rfl
    | cons p r ih => simp only [List.map_cons, Fl, List.flatMap_cons, encV] at *; rw [ih]; rfl
  refine RunL.lits hu hi hv hp hm (fun v hv => ?_) hlim hd ?_
  · obtain ⟨p, hp, rfl⟩ := List.mem_map.1 hv
    exact Rd.cells1 (al.at_ p hp)
  · rw [e]
    exact r
end
end Go.Proofs.Yteopadjihklkmaa
