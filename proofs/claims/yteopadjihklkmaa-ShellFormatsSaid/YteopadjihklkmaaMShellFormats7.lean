/- Part 7 of the proof of ShellFormats. -/
import Derived.Test.YteopadjihklkmaaMShellFormats6
import Derived.Laws.IdiomStrings
section
namespace Go.Proofs.Yteopadjihklkmaa
open Go Go.Proofs
section
variable {P : Program} {n : Nat} {w0 : World} {ops : Array Oper} {l : List Oper} {K : Act → World → Prop} {E : Env} {A : Asn} {ty : TypeId} {ps : String} {af : Array Edge}
theorem OpOk.max2 {x y : Operand} {c : Array TypeId} {t u : TypeId} {k q : IntKind} {i j : Int} (hx : ev E x = some (.int k i)) (hy : ev E y = some (.int q j)) (hc : c = #[t, u]) :
    OpOk P n w0 (.call { callee := .builtin .max, args := #[x, y], argTypes := c }) ty E A (.int k (max i j)) :=
  .pure fun a w _ _ _ _ he => by
    subst hc
    have e : (if j > i then j else i) = max i j := by rw [Int.max_def]; split <;> split <;> omega
    simp [execOp, he.eval hx, he.eval hy, resolve, invoke, builtin, run_max_int2, e]
theorem own_nil_eq (e : TypeId) (size : Nat) : own e size (.slice none 0 0) 0 [] = emp := by
  refine Asn.ext' fun p => ⟨?_, fun h => ⟨by simp, .inl ⟨rfl, rfl, h⟩⟩⟩
  rintro ⟨_, ⟨_, _, h⟩ | ⟨g, cap, cur, hv, _⟩⟩
  · exact h
  · cases hv
/-- The bytes of a text, in fresh memory that is only read. -/
theorem RunL.bytesOf {d : Nat} {s t e : TypeId} {x : Operand} {xs : List UInt8} (hs : P.underlying s = some .string) (ht : P.underlying t = some (.slice e)) (he8 : P.underlying e = some (.int .u8)) (hx : ev E x = some (S xs)) (hlim : xs.length ≤ maxLen) (hd : Nat.blt d n = true)
    (r : ∀ v J, Rd w0 (A * J) v 1 xs.length (B xs) → RunL P n w0 ops l K ((d, v) :: E) (A * J)) :
    RunL P n w0 ops ({ dst := some d, op := .convert s t x, type := ty, pos := ps, after := af, guard := none } :: l) K E A := by
  refine RunL.val (X := { p : Nat × Nat // xs.length ≤ p.2 }) (fun p => .slice (some ⟨p.1.1, 0, none⟩) xs.length p.1.2) (fun p => A * pts p.1.1 (.cells (bytesRow ⟨xs.toArray⟩ p.1.2) e ((bytesRow ⟨xs.toArray⟩ p.1.2).size, (bytesRow ⟨xs.toArray⟩ p.1.2).size + 1))) hd (fun a w he hs' => ?_) (fun p => r _ _ ?_)
  · have h := run_bytes_of_string (P := P) w s t e ⟨xs.toArray⟩ hs ht he8
    have hz : (ByteArray.mk xs.toArray).size = xs.length := rfl
    rw [hz] at h
    have hge := grownCap_ge w xs.length 0 e
    refine ⟨⟨(w.heap.size, grownCap w xs.length 0 e), hge⟩, _, ?_, hs'.drew.alloc _⟩
    simp only [execOp, he.eval hx, S, Sem.run_bind, h, Result.andThen_ok, Sem.run_pure]
  · obtain ⟨⟨b, c⟩, hc⟩ := p
    refine ⟨by simp [B], hlim, _, c, rfl, hc, fun _ => ⟨_, rfl, fun j u hj => ?_⟩⟩
    have hjl : j < xs.length := by
      have := (List.getElem?_eq_some_iff.1 hj).1
      simpa [B] using this
    have e2 : (⟨b, 0, none⟩ : Addr).add j = ⟨b, 0 + j, none⟩ := by unfold Addr.add; split <;> simp_all
    rw [e2, Nat.zero_add]
    refine Cell.pts ?_
    rw [bytesRow_at _ _ _ (by simpa using hjl)]
    simp only [B, List.getElem?_map, List.getElem?_eq_getElem hjl, Option.map_some, Option.some.injEq] at hj
    rw [← hj]
    simp
/-- What copy leaves. -/
def laid {α : Type} (ys xs : List α) : List α := ys.take (min ys.length xs.length) ++ xs.drop (min ys.length xs.length)
theorem laid_length {α : Type} (ys xs : List α) : (laid ys xs).length = xs.length := by simp [laid]; omega
theorem B_laid (ys xs : List UInt8) : B (laid ys xs) = laid (B ys) (B xs) := by simp [laid, B, List.map_take, List.map_drop]
theorem RunL.copyOwn {d : Nat} {t u e : TypeId} {x y : Operand} {v v2 z : Value} {m k bytes : Nat} {xs ys : List Value} {A1 : Asn} {ats : Array TypeId} (hu : P.underlying t = some (.slice e)) (hz : TyI P e z 1 bytes) (hats : ats = #[t, u])
    (hx : ev E x = some v) (hy : ev E y = some v2) (hA : A = A1 * own e 1 v m xs) (rd : Rd w0 A v2 1 k ys) (h1 : ∀ c ∈ ys, c.oneCell' = true) (hd : Nat.blt d n = true)
    (r : Rd w0 (A1 * own e 1 v m (laid ys xs)) v 1 m (laid ys xs) → RunL P n w0 ops l K ((d, .int .i64 ((min k m : Nat) : Int)) :: E) (A1 * own e 1 v m (laid ys xs))) :
    RunL P n w0 ops ({ dst := some d, op := .call { callee := .builtin .copy, args := #[x, y], argTypes := ats }, type := ty, pos := ps, after := af, guard := none } :: l) K E A := by
  subst hA hats
  obtain ⟨f, hf, hfz, hs1, hb⟩ := hz.get
  have hsz : (P.info? e).map (·.size) = some 1 := by rw [hf]; simp [hs1]
  refine ⟨fun a w he hs => ?_⟩
  have hol := hs.ownLen
  have hyl := rd.len
  rw [Nat.mul_one] at hol hyl
  obtain ⟨ad2, cap2, rfl, hc2, hat⟩ := rd.is
  rcases hs.ownForm with ⟨rfl, rfl, rfl, s⟩ | ⟨g, cap, cur, rfl, g2, g3, g4, g5, s⟩
  · refine wpList_copy_nothing rfl x y t u rfl e hu hsz none ad2 0 0 k cap2 (he.eval hx) (he.eval hy) (by simp) ?_
    have e0 : laid ys ([] : List Value) = [] := by simp [laid]
    rw [e0] at r
    have hh := (r hs.ownRd).out (a.put (some d) (.int .i64 ((min k 0 : Nat) : Int))) w (he.put (Nat.le_of_ble_eq_true hd) _) hs
    simpa [goInt] using hh
  · rw [Nat.mul_one] at g4 g5
    have hfin : ∀ w', w'.heap[g]? = some (.cells ((laid ys xs) ++ cur.toList.drop m).toArray e (0, 0)) → (w' = w ∨ ∃ C, w' = w.setRow g C) → Sat w0 w' (A1 * own e 1 (.slice (some ⟨g, 0, none⟩) m cap) m (laid ys xs)) := fun w' hh hw => by
      have hcl : ((laid ys xs) ++ cur.toList.drop m).length = cap := by
        rw [List.length_append, laid_length, hol.1, List.length_drop, Array.length_toList, g4]
        omega
      have s2 : Sat w0 w' (A1 * pts g (.cells ((laid ys xs) ++ cur.toList.drop m).toArray e (0, 0))) := by
        rcases hw with rfl | ⟨C, rfl⟩
        · exact s.upd rfl rfl rfl (Nat.le_refl _) (fun _ _ _ => rfl) hh
        · exact s.upd rfl rfl rfl (by simp [World.setRow]) (fun k hk _ => setRow_other w g k _ hk) hh
      refine s2.entr (own_of_pts (by rw [laid_length, hol.1]; omega) g2 g3 (by simp only [List.size_toArray, hcl]; omega) ?_)
      rw [Nat.mul_one]
      show ((laid ys xs) ++ cur.toList.drop m).take m = laid ys xs
      rw [List.take_append_of_le_length (by rw [laid_length, hol.1]; exact Nat.le_refl _), List.take_of_length_le (by rw [laid_length, hol.1]; exact Nat.le_refl _)]
    by_cases h0 : min k m = 0
    · refine wpList_copy_nothing rfl x y t u rfl e hu hsz _ ad2 m cap k cap2 (he.eval hx) (he.eval hy) h0 ?_
      have e0 : laid ys xs = xs := by unfold laid; rw [hyl, hol.1, h0]; simp
      have hh : w.heap[g]? = some (.cells ((laid ys xs) ++ cur.toList.drop m).toArray e (0, 0)) := by
        rw [e0, ← g5, List.take_append_drop]; exact s.get
      have s3 := hfin w hh (.inl rfl)
      have := (r s3.ownRd).out (a.put (some d) (.int .i64 ((min k m : Nat) : Int))) w (he.put (Nat.le_of_ble_eq_true hd) _) s3
      rw [h0] at this
      simpa [goInt] using this
    · obtain ⟨ad, rfl, hcell⟩ := hat (by omega)
      have hcl : (ys.take (min k m)).length = Nat.min k m := by rw [List.length_take, hyl]; exact Nat.min_eq_left (Nat.min_le_left _ _)
      refine wpList_copy_own rfl x y t u rfl e hu hsz g 0 m cap ad k cap2 (he.eval hx) (he.eval hy) cur e s.get (ys.take (min k m)) hcl (fun j c hj => ?_) (by rw [hcl, g4, Nat.zero_add]; have := Nat.min_le_right k m; show min k m ≤ cap; omega) (fun c hc => h1 c (List.mem_of_mem_take hc)) ?_
      · rw [List.getElem?_take] at hj
        split at hj
        · exact (hcell j c hj).out w hs
        · cases hj
      · have hrow : cur.toList.take 0 ++ (ys.take (min k m) ++ cur.toList.drop (0 + (ys.take (min k m)).length)) = laid ys xs ++ cur.toList.drop m := by
          rw [List.take_zero, List.nil_append, Nat.zero_add, hcl]
          show ys.take (min k m) ++ cur.toList.drop (min k m) = _
          unfold laid
          rw [hyl, hol.1, List.append_assoc]
          congr 1
          rw [← g5, List.drop_take]
          conv => lhs; rw [← List.take_append_drop (m - min k m) (cur.toList.drop (min k m))]
          rw [List.drop_drop, show min k m + (m - min k m) = m by have := Nat.min_le_right k m; omega]
        rw [hrow]
        have s3 := hfin _ (setRow_heap w g cur _ e _ s.get) (.inr ⟨_, rfl⟩)
        have := (r s3.ownRd).out (a.put (some d) (.int .i64 ((min k m : Nat) : Int))) _ (he.put (Nat.le_of_ble_eq_true hd) _) s3
        rw [hcl]
        simpa [goInt] using this
theorem RunL.copyB {d : Nat} {t u e : TypeId} {x y : Operand} {v v2 z : Value} {m k bytes : Nat} {xs ys : List UInt8} {A1 : Asn} {ats : Array TypeId} (hu : P.underlying t = some (.slice e)) (hz : TyI P e z 1 bytes) (hats : ats = #[t, u])
    (hx : ev E x = some v) (hy : ev E y = some v2) (hA : A = A1 * own e 1 v m (B xs)) (rd : Rd w0 A v2 1 k (B ys)) (hd : Nat.blt d n = true)
    (r : Rd w0 (A1 * own e 1 v m (B (laid ys xs))) v 1 m (B (laid ys xs)) → RunL P n w0 ops l K ((d, .int .i64 ((min k m : Nat) : Int)) :: E) (A1 * own e 1 v m (B (laid ys xs)))) :
    RunL P n w0 ops ({ dst := some d, op := .call { callee := .builtin .copy, args := #[x, y], argTypes := ats }, type := ty, pos := ps, after := af, guard := none } :: l) K E A := by
  refine RunL.copyOwn hu hz hats hx hy hA rd (B_one _) hd ?_
  rw [← B_laid]
  exact r
theorem GB.of {A : Asn} {v : Value} {m : Nat} {bs : List UInt8} (rd : Rd w0 A v 1 m (B bs)) : GB w0 A (v, bs) := by
  have h := rd.len
  rw [B_length, Nat.mul_one] at h
  subst h
  exact rd
/-- A literal of slices of bytes. -/
theorem RunL.litV {d : Nat} {t e : TypeId} {z : Value} {m : Nat} {parts : List (Nat × Operand)} {ls : List (Value × List UInt8)} (al : Alls (GB w0) A ls) (hu : P.underlying t = some (.slice e)) {bytes : Nat} (hi : TyI P e z 1 bytes) (hv : evParts E parts = some (ls.map Prod.fst))
    (hp : places 0 parts = true) (hm : parts.length = m) (hlim : m ≤ 1048576) (hd : Nat.blt d n = true)
    (r : ∀ v, Rd w0 (A * own e 1 v m (Fl encV ls)) v 1 m (Fl encV ls) → RunL P n w0 ops l K ((d, v) :: E) (A * own e 1 v m (Fl encV ls))) :
    RunL P n w0 ops ({ dst := some d, op := .buildSlice t m parts.toArray, type := ty, pos := ps, after := af, guard := none } :: l) K E A := by
  have e : ∀ l : List (Value × List UInt8), l.map Prod.fst = Fl encV l := fun l => by
    induction l with
    | nil => rfl
    | cons p r ih => simp only [List.map_cons, Fl, List.flatMap_cons, encV] at *; rw [ih]; rfl
  refine RunL.lits hu hi hv hp hm (fun v hv => ?_) hlim hd ?_
  · obtain ⟨p, hp, rfl⟩ := List.mem_map.1 hv
    exact Rd.cells1 (al.at_ p hp)
  · rw [e]
    exact r
end
end Go.Proofs.Yteopadjihklkmaa
end

section
namespace Go.Proofs.Yteopadjihklkmaa
open Go Go.Proofs
set_option maxRecDepth 100000
set_option maxHeartbeats 4000000
/-- Grow of nil: room alone. -/
theorem s107 {w0 : World} {A : Asn} {m : Nat} (hm : m ≤ 140737488355328) :
    Spec Try.prog w0 107 [.slice none 0 0, .int .i64 m] A (fun v' A' => A' = A * own 5 1 v' 0 (B [])) := by
  refine Spec.of_run [(0, .slice none 0 0), (1, .int .i64 m)] Try.func107 rfl (Nat.le_of_ble_eq_true rfl) (by repeat (first | exact trivial | refine ⟨rfl, ?_⟩)) ?_
  repeat (first | refine Run.seq ?_ | refine Run.region ?_ | refine Run.skip ?_ | refine Run.block ?_ | refine Run.inBlock ?_ | refine Run.exit rfl ?_ | refine RunL.nil ?_ | refine RunL.ok (OpOk.assign rfl) rfl ?_ | refine RunL.ok (OpOk.move rfl) rfl ?_ | refine RunL.ok (OpOk.lss rfl rfl) rfl ?_ | refine RunL.ok (OpOk.capV rfl rfl rfl) rfl ?_ | refine RunL.ok (OpOk.lenR rfl rfl (by first | assumption | (apply Rd.left; first | assumption | (apply Rd.left; first | assumption | (apply Rd.left; first | assumption | (apply Rd.left; first | assumption | (apply Rd.left; first | assumption | (apply Rd.left; first | assumption | (apply Rd.left; first | assumption | (apply Rd.left; first | assumption | (apply Rd.left; first | assumption | (apply Rd.left; first | assumption | (apply Rd.left; first | assumption | (apply Rd.left; first | assumption | (apply Rd.left; first | assumption | (apply Rd.left; assumption))))))))))))))) rfl) rfl ?_ | refine RunL.ok (OpOk.lenV rfl rfl rfl) rfl ?_ | refine RunL.ok (OpOk.sub rfl rfl (by first | exact wrapI (by omega) (by omega) | exact wrapU8 (by omega) (by omega) | exact wrapU16 (by omega) (by omega) | exact wrapU64 (by omega) (by omega) | exact wrapU8m _ | exact wrapU16m _ | rfl)) rfl ?_ | refine RunL.ok (OpOk.gtr rfl rfl) rfl ?_)
  refine Run.condD rfl (fun h => ?_) (fun h => ?_)
  · omega
  · repeat (first | refine Run.seq ?_ | refine Run.region ?_ | refine Run.skip ?_ | refine Run.block ?_ | refine Run.inBlock ?_ | refine Run.exit rfl ?_ | refine RunL.nil ?_ | refine RunL.ok (OpOk.assign rfl) rfl ?_ | refine RunL.ok (OpOk.move rfl) rfl ?_ | refine RunL.ok (OpOk.lss rfl rfl) rfl ?_ | refine RunL.ok (OpOk.capV rfl rfl rfl) rfl ?_ | refine RunL.ok (OpOk.lenR rfl rfl (by first | assumption | (apply Rd.left; first | assumption | (apply Rd.left; first | assumption | (apply Rd.left; first | assumption | (apply Rd.left; first | assumption | (apply Rd.left; first | assumption | (apply Rd.left; first | assumption | (apply Rd.left; first | assumption | (apply Rd.left; first | assumption | (apply Rd.left; first | assumption | (apply Rd.left; first | assumption | (apply Rd.left; first | assumption | (apply Rd.left; first | assumption | (apply Rd.left; first | assumption | (apply Rd.left; assumption))))))))))))))) rfl) rfl ?_ | refine RunL.ok (OpOk.lenV rfl rfl rfl) rfl ?_ | refine RunL.ok (OpOk.sub rfl rfl (by first | exact wrapI (by omega) (by omega) | exact wrapU8 (by omega) (by omega) | exact wrapU16 (by omega) (by omega) | exact wrapU64 (by omega) (by omega) | exact wrapU8m _ | exact wrapU16m _ | rfl)) rfl ?_ | refine RunL.ok (OpOk.gtr rfl rfl) rfl ?_)
    refine Run.condD rfl (fun h => ?_) (fun h => ?_)
    · repeat (first | refine Run.seq ?_ | refine Run.region ?_ | refine Run.skip ?_ | refine Run.block ?_ | refine Run.inBlock ?_ | refine Run.exit rfl ?_ | refine RunL.nil ?_ | refine RunL.ok (OpOk.assign rfl) rfl ?_ | refine RunL.ok (OpOk.move rfl) rfl ?_ | refine RunL.ok (OpOk.lss rfl rfl) rfl ?_ | refine RunL.ok (OpOk.capV rfl rfl rfl) rfl ?_ | refine RunL.ok (OpOk.lenR rfl rfl (by first | assumption | (apply Rd.left; first | assumption | (apply Rd.left; first | assumption | (apply Rd.left; first | assumption | (apply Rd.left; first | assumption | (apply Rd.left; first | assumption | (apply Rd.left; first | assumption | (apply Rd.left; first | assumption | (apply Rd.left; first | assumption | (apply Rd.left; first | assumption | (apply Rd.left; first | assumption | (apply Rd.left; first | assumption | (apply Rd.left; first | assumption | (apply Rd.left; first | assumption | (apply Rd.left; assumption))))))))))))))) rfl) rfl ?_ | refine RunL.ok (OpOk.lenV rfl rfl rfl) rfl ?_ | refine RunL.ok (OpOk.sub rfl rfl (by first | exact wrapI (by omega) (by omega) | exact wrapU8 (by omega) (by omega) | exact wrapU16 (by omega) (by omega) | exact wrapU64 (by omega) (by omega) | exact wrapU8m _ | exact wrapU16m _ | rfl)) rfl ?_ | refine RunL.ok (OpOk.gtr rfl rfl) rfl ?_)
      refine RunL.ok (OpOk.cutNil rfl ti5 rfl rfl) rfl ?_
      repeat (first | refine Run.seq ?_ | refine Run.region ?_ | refine Run.skip ?_ | refine Run.block ?_ | refine Run.inBlock ?_ | refine Run.exit rfl ?_ | refine RunL.nil ?_ | refine RunL.ok (OpOk.assign rfl) rfl ?_ | refine RunL.ok (OpOk.move rfl) rfl ?_ | refine RunL.ok (OpOk.lss rfl rfl) rfl ?_ | refine RunL.ok (OpOk.capV rfl rfl rfl) rfl ?_ | refine RunL.ok (OpOk.lenR rfl rfl (by first | assumption | (apply Rd.left; first | assumption | (apply Rd.left; first | assumption | (apply Rd.left; first | assumption | (apply Rd.left; first | assumption | (apply Rd.left; first | assumption | (apply Rd.left; first | assumption | (apply Rd.left; first | assumption | (apply Rd.left; first | assumption | (apply Rd.left; first | assumption | (apply Rd.left; first | assumption | (apply Rd.left; first | assumption | (apply Rd.left; first | assumption | (apply Rd.left; first | assumption | (apply Rd.left; assumption))))))))))))))) rfl) rfl ?_ | refine RunL.ok (OpOk.lenV rfl rfl rfl) rfl ?_ | refine RunL.ok (OpOk.sub rfl rfl (by first | exact wrapI (by omega) (by omega) | exact wrapU8 (by omega) (by omega) | exact wrapU16 (by omega) (by omega) | exact wrapU64 (by omega) (by omega) | exact wrapU8m _ | exact wrapU16m _ | rfl)) rfl ?_ | refine RunL.ok (OpOk.gtr rfl rfl) rfl ?_)
      have em : (m : Int) - (((0 : Nat) : Int) - ((0 : Nat) : Int)) = m := by omega
      simp only [em]
      refine RunL.appendMake (m := m) rfl ti5 rfl rfl rfl rfl rfl (by omega) (by omega) (by simp only [maxLen]; omega) rfl (fun v1 rd1 => ?_)
      repeat (first | refine Run.seq ?_ | refine Run.region ?_ | refine Run.skip ?_ | refine Run.block ?_ | refine Run.inBlock ?_ | refine Run.exit rfl ?_ | refine RunL.nil ?_ | refine RunL.ok (OpOk.assign rfl) rfl ?_ | refine RunL.ok (OpOk.move rfl) rfl ?_ | refine RunL.ok (OpOk.lss rfl rfl) rfl ?_ | refine RunL.ok (OpOk.capV rfl rfl rfl) rfl ?_ | refine RunL.ok (OpOk.lenR rfl rfl (by first | assumption | (apply Rd.left; first | assumption | (apply Rd.left; first | assumption | (apply Rd.left; first | assumption | (apply Rd.left; first | assumption | (apply Rd.left; first | assumption | (apply Rd.left; first | assumption | (apply Rd.left; first | assumption | (apply Rd.left; first | assumption | (apply Rd.left; first | assumption | (apply Rd.left; first | assumption | (apply Rd.left; first | assumption | (apply Rd.left; first | assumption | (apply Rd.left; first | assumption | (apply Rd.left; assumption))))))))))))))) rfl) rfl ?_ | refine RunL.ok (OpOk.lenV rfl rfl rfl) rfl ?_ | refine RunL.ok (OpOk.sub rfl rfl (by first | exact wrapI (by omega) (by omega) | exact wrapU8 (by omega) (by omega) | exact wrapU16 (by omega) (by omega) | exact wrapU64 (by omega) (by omega) | exact wrapU8m _ | exact wrapU16m _ | rfl)) rfl ?_ | refine RunL.ok (OpOk.gtr rfl rfl) rfl ?_)
      refine RunL.cutOwn (j := 0) rfl ti5 rfl rfl rfl (by omega) rfl (fun v2 rd2 => ?_)
      repeat (first | refine Run.seq ?_ | refine Run.region ?_ | refine Run.skip ?_ | refine Run.block ?_ | refine Run.inBlock ?_ | refine Run.exit rfl ?_ | refine RunL.nil ?_ | refine RunL.ok (OpOk.assign rfl) rfl ?_ | refine RunL.ok (OpOk.move rfl) rfl ?_ | refine RunL.ok (OpOk.lss rfl rfl) rfl ?_ | refine RunL.ok (OpOk.capV rfl rfl rfl) rfl ?_ | refine RunL.ok (OpOk.lenR rfl rfl (by first | assumption | (apply Rd.left; first | assumption | (apply Rd.left; first | assumption | (apply Rd.left; first | assumption | (apply Rd.left; first | assumption | (apply Rd.left; first | assumption | (apply Rd.left; first | assumption | (apply Rd.left; first | assumption | (apply Rd.left; first | assumption | (apply Rd.left; first | assumption | (apply Rd.left; first | assumption | (apply Rd.left; first | assumption | (apply Rd.left; first | assumption | (apply Rd.left; first | assumption | (apply Rd.left; assumption))))))))))))))) rfl) rfl ?_ | refine RunL.ok (OpOk.lenV rfl rfl rfl) rfl ?_ | refine RunL.ok (OpOk.sub rfl rfl (by first | exact wrapI (by omega) (by omega) | exact wrapU8 (by omega) (by omega) | exact wrapU16 (by omega) (by omega) | exact wrapU64 (by omega) (by omega) | exact wrapU8m _ | exact wrapU16m _ | rfl)) rfl ?_ | refine RunL.ok (OpOk.gtr rfl rfl) rfl ?_)
      exact Run.ret1 Try.func107 rfl rfl (by simp [B])
    · repeat (first | refine Run.seq ?_ | refine Run.region ?_ | refine Run.skip ?_ | refine Run.block ?_ | refine Run.inBlock ?_ | refine Run.exit rfl ?_ | refine RunL.nil ?_ | refine RunL.ok (OpOk.assign rfl) rfl ?_ | refine RunL.ok (OpOk.move rfl) rfl ?_ | refine RunL.ok (OpOk.lss rfl rfl) rfl ?_ | refine RunL.ok (OpOk.capV rfl rfl rfl) rfl ?_ | refine RunL.ok (OpOk.lenR rfl rfl (by first | assumption | (apply Rd.left; first | assumption | (apply Rd.left; first | assumption | (apply Rd.left; first | assumption | (apply Rd.left; first | assumption | (apply Rd.left; first | assumption | (apply Rd.left; first | assumption | (apply Rd.left; first | assumption | (apply Rd.left; first | assumption | (apply Rd.left; first | assumption | (apply Rd.left; first | assumption | (apply Rd.left; first | assumption | (apply Rd.left; first | assumption | (apply Rd.left; first | assumption | (apply Rd.left; assumption))))))))))))))) rfl) rfl ?_ | refine RunL.ok (OpOk.lenV rfl rfl rfl) rfl ?_ | refine RunL.ok (OpOk.sub rfl rfl (by first | exact wrapI (by omega) (by omega) | exact wrapU8 (by omega) (by omega) | exact wrapU16 (by omega) (by omega) | exact wrapU64 (by omega) (by omega) | exact wrapU8m _ | exact wrapU16m _ | rfl)) rfl ?_ | refine RunL.ok (OpOk.gtr rfl rfl) rfl ?_)
      exact Run.ent (Ent.ownNil _ 5 1) (Run.ret1 Try.func107 rfl rfl rfl)
def flatB (ls : List (Value × List UInt8)) : List UInt8 := ls.flatMap Prod.snd
theorem flatB_append (a b : List (Value × List UInt8)) : flatB (a ++ b) = flatB a ++ flatB b := by simp [flatB]
theorem flatB_take {ls : List (Value × List UInt8)} {i : Nat} (h : i < ls.length) : flatB (ls.take (i + 1)) = flatB (ls.take i) ++ (ls.getD i default).2 := by
  rw [take_next h, flatB_append]; simp [flatB]
theorem flatB_le (ls : List (Value × List UInt8)) (i : Nat) : (flatB (ls.take i)).length ≤ (flatB ls).length := by
  have : flatB ls = flatB (ls.take i) ++ flatB (ls.drop i) := by rw [← flatB_append, List.take_append_drop]
  rw [this, List.length_append]
  omega
theorem s78 {w0 : World} {A : Asn} {u : Value} {m : Nat} {ls : List (Value × List UInt8)} (rd : Rd w0 A u 1 m (Fl encV ls)) (hin : Alls (GB w0) A ls) (hm : (flatB ls).length ≤ 140737488355328) :
    Spec Try.prog w0 78 [u] A (fun v' A' => A' = A * own 5 1 v' (flatB ls).length (B (flatB ls))) := by
  have hl := rd.lenFl (fun _ => rfl) (by decide)
  subst hl
  have hmax := rd.max
  refine Spec.of_run [(0, u)] Try.func78 rfl (Nat.le_of_ble_eq_true rfl) (by repeat (first | exact trivial | refine ⟨rfl, ?_⟩)) ?_
  refine Run.seq ?_
  refine Run.region ?_
  refine RunL.ok (OpOk.assign rfl) rfl ?_
  refine RunL.nil ?_
  refine Run.seq ?_
  refine Run.region ?_
  refine RunL.ok (OpOk.assign rfl) rfl ?_
  refine RunL.nil ?_
  refine Run.seq ?_
  refine Run.seq ?_
  refine Run.region ?_
  refine RunL.ok (OpOk.move rfl) rfl ?_
  refine RunL.ok (OpOk.lenR rfl rfl rd rfl) rfl ?_
  refine RunL.ok (OpOk.move rfl) rfl ?_
  refine RunL.nil ?_
  refine Run.block ?_
  refine Run.jump ((Run.loopJ (X := Nat) (fun i => [(0, u), (3, .int .i64 ((flatB (ls.take i)).length : Int)), (9, u), (10, .int .i64 (ls.length : Int)), (11, .int .i64 i)]) (fun _ => A) (fun i => i ≤ ls.length) (fun i => ls.length - i) 0 (Nat.zero_le _) (fun i hi ih => ?_))) ⟨rfl, rfl, rfl, rfl, rfl, trivial⟩ ((Grew.refl _))
  have hf := flatB_le ls i
  rcases Nat.lt_or_ge i ls.length with hlt | hge
  · have hf2 := flatB_le ls (i + 1)
    have hft := congrArg List.length (flatB_take hlt)
    rw [List.length_append] at hft
    have rdi : Rd w0 A (ls.getD i default).1 1 (ls.getD i default).2.length (B (ls.getD i default).2) := hin.get hlt
    have hv := Fl_V ls i hlt
    refine Run.seq ?_
    refine Run.region ?_
    refine RunL.ok (OpOk.asT (OpOk.lss rfl rfl) (by omega)) rfl ?_
    refine RunL.nil ?_
    refine Run.seq ?_
    refine Run.condT rfl ?_
    refine Run.skip ?_
    refine Run.seq ?_
    refine Run.block ?_
    refine Run.seq ?_
    refine Run.region ?_
    refine RunL.ok (OpOk.idx1N rfl ti63 rfl rd rfl (by omega)) rfl ?_
    refine RunL.ok (OpOk.load rfl rfl rfl (Rd.cell rd (by first | assumption | rfl))) rfl ?_
    refine RunL.ok (OpOk.assign rfl) rfl ?_
    refine RunL.nil ?_
    refine Run.seq ?_
    refine Run.region ?_
    refine RunL.ok (OpOk.move rfl) rfl ?_
    refine RunL.ok (OpOk.move rfl) rfl ?_
    refine RunL.ok (OpOk.lenR rfl rfl rdi rfl) rfl ?_
    refine RunL.ok (OpOk.addN _ _ rfl rfl rfl rfl (by omega)) rfl ?_
    refine RunL.ok (OpOk.assign rfl) rfl ?_
    refine RunL.nil ?_
    refine Run.seq ?_
    refine Run.region ?_
    refine RunL.ok (OpOk.move rfl) rfl ?_
    refine RunL.ok (OpOk.asF (OpOk.lss rfl rfl) (by omega)) rfl ?_
    refine RunL.nil ?_
    refine Run.condF rfl ?_
    refine Run.skip ?_
    refine Run.inBlock ?_
    refine Run.region ?_
    refine RunL.ok (OpOk.addN _ 1 rfl rfl rfl rfl (by omega)) rfl ?_
    refine RunL.ok (OpOk.move rfl) rfl ?_
    refine RunL.nil ?_
    refine Run.jump ((ih (i + 1) (by omega) (by omega))) ⟨rfl, lkI rfl (by omega), rfl, rfl, rfl, trivial⟩ ((Grew.refl _))
  · obtain rfl : i = ls.length := by omega
    rw [List.take_length] at *
    clear ih
    refine Run.seq ?_
    refine Run.region ?_
    refine RunL.ok (OpOk.asF (OpOk.lss rfl rfl) (by omega)) rfl ?_
    refine RunL.nil ?_
    refine Run.seq ?_
    refine Run.condF rfl ?_
    refine Run.exit rfl ?_
    refine Run.seq ?_
    refine Run.region ?_
    refine RunL.ok (OpOk.move rfl) rfl ?_
    refine RunL.call cal107 rfl (s107 (by assumption)) rfl (fun vy1 Ay1 hy1 => ?_)
    obtain rfl := hy1
    refine RunL.ok (OpOk.assign rfl) rfl ?_
    refine RunL.nil ?_
    refine Run.seq ?_
    refine Run.seq ?_
    refine Run.region ?_
    refine RunL.ok (OpOk.move rfl) rfl ?_
    refine RunL.ok (OpOk.lenR rfl rfl rd.left rfl) rfl ?_
    refine RunL.ok (OpOk.move rfl) rfl ?_
    refine RunL.nil ?_
    refine Run.block ?_
    refine Run.jump ((Run.loopJ (X := Nat × Value) (fun x => [(25, u), (26, .int .i64 (ls.length : Int)), (27, .int .i64 x.1), (6, x.2)]) (fun x => A * own 5 1 x.2 (flatB (ls.take x.1)).length (B (flatB (ls.take x.1)))) (fun x => x.1 ≤ ls.length) (fun x => ls.length - x.1) (0, vy1) (Nat.zero_le _) (fun x hx ih => ?_))) ⟨rfl, rfl, rfl, rfl, trivial⟩ (Grew.of (frc rfl rfl) (Grew.refl _))
    obtain ⟨i, v1⟩ := x
    simp only at hx ih ⊢
    rcases Nat.lt_or_ge i ls.length with hlt | hge
    · have hf2 := flatB_le ls (i + 1)
      have hft := congrArg List.length (flatB_take hlt)
      rw [List.length_append] at hft
      have rdi : Rd w0 A (ls.getD i default).1 1 (ls.getD i default).2.length (B (ls.getD i default).2) := hin.get hlt
      have hv := Fl_V ls i hlt
      refine Run.seq ?_
      refine Run.region ?_
      refine RunL.ok (OpOk.asT (OpOk.lss rfl rfl) (by omega)) rfl ?_
      refine RunL.nil ?_
      refine Run.seq ?_
      refine Run.condT rfl ?_
      refine Run.skip ?_
      refine Run.seq ?_
      refine Run.block ?_
      refine Run.seq ?_
      refine Run.region ?_
      refine RunL.ok (OpOk.idx1N rfl ti63 rfl rd.left rfl (by omega)) rfl ?_
      refine RunL.ok (OpOk.load rfl rfl rfl (Rd.cell rd.left (by first | assumption | rfl))) rfl ?_
      refine RunL.ok (OpOk.assign rfl) rfl ?_
      refine RunL.nil ?_
      refine Run.region ?_
      refine RunL.ok (OpOk.move rfl) rfl ?_
      refine RunL.ok (OpOk.move rfl) rfl ?_
      refine RunL.appendB rfl ti5 rfl rfl rfl rfl rdi.left (by omega) rfl (fun vz1 rdz1 => ?_)
      refine RunL.ok (OpOk.assign rfl) rfl ?_
      refine RunL.nil ?_
      refine Run.inBlock ?_
      refine Run.region ?_
      refine RunL.ok (OpOk.addN _ 1 rfl rfl rfl rfl (by omega)) rfl ?_
      refine RunL.ok (OpOk.move rfl) rfl ?_
      refine RunL.nil ?_
      rw [← hft, ← flatB_take hlt]
      refine Run.jump ((ih (i + 1, _) (by simp; omega) (by simp; omega))) ⟨rfl, rfl, rfl, rfl, trivial⟩ ((Grew.refl _))
    · obtain rfl : i = ls.length := by omega
      rw [List.take_length]
      refine Run.seq ?_
      refine Run.region ?_
      refine RunL.ok (OpOk.asF (OpOk.lss rfl rfl) (by omega)) rfl ?_
      refine RunL.nil ?_
      refine Run.seq ?_
      refine Run.condF rfl ?_
      refine Run.exit rfl ?_
      refine Run.seq ?_
      refine Run.region ?_
      refine RunL.ok (OpOk.move rfl) rfl ?_
      refine RunL.ok (OpOk.assign rfl) rfl ?_
      refine RunL.nil ?_
      refine Run.ret1 Try.func78 rfl rfl ?_
      exact rfl
end Go.Proofs.Yteopadjihklkmaa
end

section
namespace Go.Proofs.Yteopadjihklkmaa
open Go
def step1 (s : BitVec 16) : BitVec 16 := (s <<< 1) ^^^ (4129#16 &&& -(s >>> 15))
def steps : Nat → BitVec 16 → BitVec 16
  | 0, s => s
  | n + 1, s => step1 (steps n s)
def put8 (s : BitVec 16) (x : UInt8) : BitVec 16 := s ^^^ (BitVec.ofNat 16 x.toNat <<< 8)
def crcB (s : BitVec 16) (x : UInt8) : BitVec 16 := steps 8 (put8 s x)
def crc (s : BitVec 16) (xs : List UInt8) : BitVec 16 := xs.foldl crcB s
theorem crc_append (s : BitVec 16) (xs ys : List UInt8) : crc s (xs ++ ys) = crc (crc s xs) ys := by simp [crc]
def sum (xs : List UInt8) : BitVec 16 := crc 65535#16 xs
theorem sum_append (xs ys : List UInt8) : sum (xs ++ ys) = crc (sum xs) ys := crc_append _ _ _
/-! As the machine's words have it. -/
theorem w16 (s : BitVec 16) : IntKind.u16.wrap (s.toNat : Int) = (s.toNat : Int) := wrapU16 (by omega) (by have := s.isLt; omega)
theorem of16 (s : BitVec 16) : BitVec.ofInt 16 (s.toNat : Int) = s := by
  rw [BitVec.ofInt_natCast, BitVec.ofNat_toNat, BitVec.setWidth_eq]
theorem m_shl (s : BitVec 16) (k : Nat) (h : k ≤ 16) : IntKind.u16.wrap ((s.toNat : Int) * 2 ^ min (k : Int).toNat IntKind.u16.bits) = ((s <<< k).toNat : Int) := by
  have e : min (k : Int).toNat IntKind.u16.bits = k := by rw [Int.toNat_natCast]; exact Nat.min_eq_left h
  rw [e, wrapU16m, BitVec.toNat_shiftLeft, Nat.shiftLeft_eq, Int.natCast_emod, Int.natCast_mul, Int.natCast_pow]
  rfl
theorem m_shr (s : BitVec 16) (k : Nat) (h : k ≤ 16) : (s.toNat : Int) / 2 ^ min (k : Int).toNat IntKind.u16.bits = ((s >>> k).toNat : Int) := by
  have e : min (k : Int).toNat IntKind.u16.bits = k := by rw [Int.toNat_natCast]; exact Nat.min_eq_left h
  rw [e, BitVec.toNat_ushiftRight, Nat.shiftRight_eq_div_pow, Int.natCast_ediv, Int.natCast_pow]
  rfl
theorem m_neg (s : BitVec 16) : IntKind.u16.wrap (0 - (s.toNat : Int)) = ((-s).toNat : Int) := by
  rw [wrapU16m, BitVec.toNat_neg]
  have := s.isLt
  omega
theorem m_and (s t : BitVec 16) : IntKind.u16.wrap ((BitVec.ofInt IntKind.u16.bits (s.toNat : Int) &&& BitVec.ofInt IntKind.u16.bits (t.toNat : Int)).toNat : Int) = ((s &&& t).toNat : Int) := by
  show IntKind.u16.wrap ((BitVec.ofInt 16 (s.toNat : Int) &&& BitVec.ofInt 16 (t.toNat : Int)).toNat : Int) = _
  rw [of16, of16, w16]
theorem m_xor (s t : BitVec 16) : IntKind.u16.wrap ((BitVec.ofInt IntKind.u16.bits (s.toNat : Int) ^^^ BitVec.ofInt IntKind.u16.bits (t.toNat : Int)).toNat : Int) = ((s ^^^ t).toNat : Int) := by
  show IntKind.u16.wrap ((BitVec.ofInt 16 (s.toNat : Int) ^^^ BitVec.ofInt 16 (t.toNat : Int)).toNat : Int) = _
  rw [of16, of16, w16]
theorem m_byte (x : UInt8) : IntKind.u16.wrap (x.toNat : Int) = ((BitVec.ofNat 16 x.toNat).toNat : Int) := by
  have := x.toNat_lt
  rw [wrapU16 (by omega) (by omega), BitVec.toNat_ofNat, Nat.mod_eq_of_lt (by omega)]
/-! As the document's text has it: whole numbers of 64 bits. -/
theorem r_xor (a b : Nat) (ha : a < 2 ^ 63) (hb : b < 2 ^ 63) : IntKind.i64.wrap ((BitVec.ofInt IntKind.i64.bits (a : Int) ^^^ BitVec.ofInt IntKind.i64.bits (b : Int)).toNat : Int) = ((a ^^^ b : Nat) : Int) := by
  show IntKind.i64.wrap ((BitVec.ofInt 64 (a : Int) ^^^ BitVec.ofInt 64 (b : Int)).toNat : Int) = _
  rw [BitVec.ofInt_natCast, BitVec.ofInt_natCast, BitVec.toNat_xor, BitVec.toNat_ofNat, BitVec.toNat_ofNat, Nat.mod_eq_of_lt (by omega), Nat.mod_eq_of_lt (by omega)]
  have := Nat.xor_lt_two_pow ha hb
  exact wrapI (by omega) (by omega)
theorem r_put (s : BitVec 16) (x : UInt8) : s.toNat ^^^ (x.toNat * 256) = (put8 s x).toNat := by
  have := x.toNat_lt
  unfold put8
  rw [BitVec.toNat_xor, BitVec.toNat_shiftLeft, BitVec.toNat_ofNat, Nat.shiftLeft_eq, Nat.mod_eq_of_lt (by omega : x.toNat < 2 ^ 16), Nat.mod_eq_of_lt (by omega)]
theorem top_bit (s : BitVec 16) : -(s >>> 15) = if 32768 ≤ s.toNat then 65535#16 else 0#16 := by
  have hs := s.isLt
  apply BitVec.eq_of_toNat_eq
  rw [BitVec.toNat_neg, BitVec.toNat_ushiftRight, Nat.shiftRight_eq_div_pow]
  split
  · rw [show s.toNat / 2 ^ 15 = 1 by omega]
    rfl
  · rw [show s.toNat / 2 ^ 15 = 0 by omega]
    rfl
theorem r_step_hi (s : BitVec 16) (h : 32768 ≤ s.toNat) : (((2 * s.toNat) ^^^ 4129) % 65536 : Nat) = (step1 s).toNat := by
  have hs := s.isLt
  unfold step1
  rw [top_bit, if_pos h, show (4129#16 &&& 65535#16) = 4129#16 from rfl, BitVec.toNat_xor, BitVec.toNat_shiftLeft, Nat.shiftLeft_eq]
  rw [show (65536 : Nat) = 2 ^ 16 from rfl, Nat.xor_mod_two_pow, Nat.mul_comm]
  rfl
theorem r_step_lo (s : BitVec 16) (h : ¬ 32768 ≤ s.toNat) : (2 * s.toNat) % 65536 = (step1 s).toNat := by
  unfold step1
  rw [top_bit, if_neg h, show (4129#16 &&& 0#16) = 0#16 from rfl, BitVec.toNat_xor, BitVec.toNat_shiftLeft, Nat.shiftLeft_eq]
  simp [Nat.mul_comm]
theorem sum_lt (xs : List UInt8) : (sum xs).toNat < 65536 := (sum xs).isLt
/-! Sealed bytes. -/
def hiB (xs : List UInt8) : UInt8 := UInt8.ofNat ((sum xs).toNat / 256)
def loB (xs : List UInt8) : UInt8 := UInt8.ofNat (sum xs).toNat
def sealed (xs : List UInt8) : List UInt8 := xs ++ [hiB xs, loB xs]
theorem sealed_length (xs : List UInt8) : (sealed xs).length = xs.length + 2 := by simp [sealed]
end Go.Proofs.Yteopadjihklkmaa
end

section
namespace Go.Proofs.Yteopadjihklkmaa
open Go Go.Proofs
set_option maxRecDepth 100000
set_option maxHeartbeats 4000000
theorem take_snoc {α : Type} {xs : List α} {i : Nat} (h : i < xs.length) : xs.take (i + 1) = xs.take i ++ [xs[i]] := by
  rw [List.take_succ_eq_append_getElem h]
theorem flat_take {α : Type} {xss : List (List α)} {i : Nat} (h : i < xss.length) : (xss.take (i + 1)).flatten = (xss.take i).flatten ++ xss.getD i [] := by
  rw [take_snoc h, List.flatten_append, List.getD_eq_getElem?_getD, List.getElem?_eq_getElem h]
  simp
theorem crc_take {s : BitVec 16} {xs : List UInt8} {i : Nat} (h : i < xs.length) : crc s (xs.take (i + 1)) = crcB (crc s (xs.take i)) (xs.getD i 0) := by
  rw [take_snoc h, crc_append, List.getD_eq_getElem?_getD, List.getElem?_eq_getElem h]
  rfl
theorem sum_spec {w0 : World} {A : Asn} {v : Value} {vs : List Value} {bss : List (List UInt8)} (rd : Rd w0 A v 1 bss.length vs) (rl : RdL w0 A vs bss) :
    Spec Try.prog w0 116 [v] A (fun v' A' => v' = .int .i64 ((sum bss.flatten).toNat : Int) ∧ A' = A) := by
  have hmax := rd.max
  refine Spec.of_run [(0, v)] Try.func116 rfl (Nat.le_of_ble_eq_true rfl) (by repeat (first | exact trivial | refine ⟨rfl, ?_⟩)) ?_
  repeat (first | refine Run.seq ?_ | refine Run.region ?_ | refine Run.skip ?_ | refine Run.block ?_ | refine Run.inBlock ?_ | refine Run.exit rfl ?_ | refine RunL.nil ?_ | refine RunL.ok (OpOk.assign rfl) rfl ?_ | refine RunL.ok (OpOk.move rfl) rfl ?_ | refine RunL.ok (OpOk.lenR rfl rfl (by first | assumption | (apply Rd.left; first | assumption | (apply Rd.left; first | assumption | (apply Rd.left; first | assumption | (apply Rd.left; first | assumption | (apply Rd.left; first | assumption | (apply Rd.left; first | assumption | (apply Rd.left; first | assumption | (apply Rd.left; first | assumption | (apply Rd.left; first | assumption | (apply Rd.left; first | assumption | (apply Rd.left; first | assumption | (apply Rd.left; first | assumption | (apply Rd.left; first | assumption | (apply Rd.left; assumption))))))))))))))) rfl) rfl ?_ | refine RunL.ok (OpOk.lenV rfl rfl rfl) rfl ?_ | refine RunL.ok (OpOk.lss rfl rfl) rfl ?_ | refine RunL.ok (OpOk.idx1 rfl ti63 rfl (by first | assumption | (apply Rd.left; first | assumption | (apply Rd.left; first | assumption | (apply Rd.left; first | assumption | (apply Rd.left; first | assumption | (apply Rd.left; first | assumption | (apply Rd.left; first | assumption | (apply Rd.left; first | assumption | (apply Rd.left; first | assumption | (apply Rd.left; first | assumption | (apply Rd.left; first | assumption | (apply Rd.left; first | assumption | (apply Rd.left; first | assumption | (apply Rd.left; first | assumption | (apply Rd.left; assumption))))))))))))))) rfl (by omega) (by omega)) rfl ?_ | refine RunL.ok (OpOk.load rfl rfl rfl (by first | exact Cell.pts rfl | (apply Cell.left; first | exact Cell.pts rfl | (apply Cell.left; first | exact Cell.pts rfl | (apply Cell.left; first | exact Cell.pts rfl | (apply Cell.left; first | exact Cell.pts rfl | (apply Cell.left; first | exact Cell.pts rfl | (apply Cell.left; first | exact Cell.pts rfl | (apply Cell.left; first | exact Cell.pts rfl | (apply Cell.left; exact Cell.pts rfl)))))))))) rfl ?_ | refine RunL.ok (OpOk.idx1 rfl ti5 rfl (by first | assumption | (apply Rd.left; first | assumption | (apply Rd.left; first | assumption | (apply Rd.left; first | assumption | (apply Rd.left; first | assumption | (apply Rd.left; first | assumption | (apply Rd.left; first | assumption | (apply Rd.left; first | assumption | (apply Rd.left; first | assumption | (apply Rd.left; first | assumption | (apply Rd.left; first | assumption | (apply Rd.left; first | assumption | (apply Rd.left; first | assumption | (apply Rd.left; first | assumption | (apply Rd.left; assumption))))))))))))))) rfl (by omega) (by omega)) rfl ?_ | refine RunL.ok (OpOk.load rfl rfl rfl (Rd.cell (by first | assumption | (apply Rd.left; first | assumption | (apply Rd.left; first | assumption | (apply Rd.left; first | assumption | (apply Rd.left; first | assumption | (apply Rd.left; first | assumption | (apply Rd.left; first | assumption | (apply Rd.left; first | assumption | (apply Rd.left; first | assumption | (apply Rd.left; first | assumption | (apply Rd.left; first | assumption | (apply Rd.left; first | assumption | (apply Rd.left; first | assumption | (apply Rd.left; first | assumption | (apply Rd.left; assumption))))))))))))))) (B_get (by omega)))) rfl ?_ | refine RunL.ok (OpOk.convInt rfl rfl rfl (by first | exact wrapI (by omega) (by omega) | exact wrapU8 (by omega) (by omega) | exact wrapU16 (by omega) (by omega) | exact wrapU64 (by omega) (by omega) | exact wrapU8m _ | exact wrapU16m _ | rfl)) rfl ?_ | refine RunL.ok (OpOk.neg rfl (by first | exact wrapI (by omega) (by omega) | exact wrapU8 (by omega) (by omega) | exact wrapU16 (by omega) (by omega) | exact wrapU64 (by omega) (by omega) | exact wrapU8m _ | exact wrapU16m _ | rfl)) rfl ?_ | refine RunL.ok (OpOk.add rfl rfl (by first | exact wrapI (by omega) (by omega) | exact wrapU8 (by omega) (by omega) | exact wrapU16 (by omega) (by omega) | exact wrapU64 (by omega) (by omega) | exact wrapU8m _ | exact wrapU16m _ | rfl)) rfl ?_)
  refine Run.loop (X := Nat) (fun i => [(3, .int .u16 ((sum (bss.take i).flatten).toNat : Int)), (8, v), (9, .int .i64 (bss.length : Int)), (10, .int .i64 i)]) (fun _ => A) (fun i => i ≤ bss.length) (fun i => bss.length - i) 0 ⟨rfl, rfl, rfl, rfl, trivial⟩ rfl (by omega) (fun i hi ih => ?_)
  repeat (first | refine Run.seq ?_ | refine Run.region ?_ | refine Run.skip ?_ | refine Run.block ?_ | refine Run.inBlock ?_ | refine Run.exit rfl ?_ | refine RunL.nil ?_ | refine RunL.ok (OpOk.assign rfl) rfl ?_ | refine RunL.ok (OpOk.move rfl) rfl ?_ | refine RunL.ok (OpOk.lenR rfl rfl (by first | assumption | (apply Rd.left; first | assumption | (apply Rd.left; first | assumption | (apply Rd.left; first | assumption | (apply Rd.left; first | assumption | (apply Rd.left; first | assumption | (apply Rd.left; first | assumption | (apply Rd.left; first | assumption | (apply Rd.left; first | assumption | (apply Rd.left; first | assumption | (apply Rd.left; first | assumption | (apply Rd.left; first | assumption | (apply Rd.left; first | assumption | (apply Rd.left; first | assumption | (apply Rd.left; assumption))))))))))))))) rfl) rfl ?_ | refine RunL.ok (OpOk.lenV rfl rfl rfl) rfl ?_ | refine RunL.ok (OpOk.lss rfl rfl) rfl ?_ | refine RunL.ok (OpOk.idx1 rfl ti63 rfl (by first | assumption | (apply Rd.left; first | assumption | (apply Rd.left; first | assumption | (apply Rd.left; first | assumption | (apply Rd.left; first | assumption | (apply Rd.left; first | assumption | (apply Rd.left; first | assumption | (apply Rd.left; first | assumption | (apply Rd.left; first | assumption | (apply Rd.left; first | assumption | (apply Rd.left; first | assumption | (apply Rd.left; first | assumption | (apply Rd.left; first | assumption | (apply Rd.left; first | assumption | (apply Rd.left; assumption))))))))))))))) rfl (by omega) (by omega)) rfl ?_ | refine RunL.ok (OpOk.load rfl rfl rfl (by first | exact Cell.pts rfl | (apply Cell.left; first | exact Cell.pts rfl | (apply Cell.left; first | exact Cell.pts rfl | (apply Cell.left; first | exact Cell.pts rfl | (apply Cell.left; first | exact Cell.pts rfl | (apply Cell.left; first | exact Cell.pts rfl | (apply Cell.left; first | exact Cell.pts rfl | (apply Cell.left; first | exact Cell.pts rfl | (apply Cell.left; exact Cell.pts rfl)))))))))) rfl ?_ | refine RunL.ok (OpOk.idx1 rfl ti5 rfl (by first | assumption | (apply Rd.left; first | assumption | (apply Rd.left; first | assumption | (apply Rd.left; first | assumption | (apply Rd.left; first | assumption | (apply Rd.left; first | assumption | (apply Rd.left; first | assumption | (apply Rd.left; first | assumption | (apply Rd.left; first | assumption | (apply Rd.left; first | assumption | (apply Rd.left; first | assumption | (apply Rd.left; first | assumption | (apply Rd.left; first | assumption | (apply Rd.left; first | assumption | (apply Rd.left; assumption))))))))))))))) rfl (by omega) (by omega)) rfl ?_ | refine RunL.ok (OpOk.load rfl rfl rfl (Rd.cell (by first | assumption | (apply Rd.left; first | assumption | (apply Rd.left; first | assumption | (apply Rd.left; first | assumption | (apply Rd.left; first | assumption | (apply Rd.left; first | assumption | (apply Rd.left; first | assumption | (apply Rd.left; first | assumption | (apply Rd.left; first | assumption | (apply Rd.left; first | assumption | (apply Rd.left; first | assumption | (apply Rd.left; first | assumption | (apply Rd.left; first | assumption | (apply Rd.left; first | assumption | (apply Rd.left; assumption))))))))))))))) (B_get (by omega)))) rfl ?_ | refine RunL.ok (OpOk.convInt rfl rfl rfl (by first | exact wrapI (by omega) (by omega) | exact wrapU8 (by omega) (by omega) | exact wrapU16 (by omega) (by omega) | exact wrapU64 (by omega) (by omega) | exact wrapU8m _ | exact wrapU16m _ | rfl)) rfl ?_ | refine RunL.ok (OpOk.neg rfl (by first | exact wrapI (by omega) (by omega) | exact wrapU8 (by omega) (by omega) | exact wrapU16 (by omega) (by omega) | exact wrapU64 (by omega) (by omega) | exact wrapU8m _ | exact wrapU16m _ | rfl)) rfl ?_ | refine RunL.ok (OpOk.add rfl rfl (by first | exact wrapI (by omega) (by omega) | exact wrapU8 (by omega) (by omega) | exact wrapU16 (by omega) (by omega) | exact wrapU64 (by omega) (by omega) | exact wrapU8m _ | exact wrapU16m _ | rfl)) rfl ?_)
  refine Run.condD rfl (fun h2 => ?_) (fun h2 => ?_)
  · have hi2 : i < bss.length := by omega
    have hft := flat_take hi2
    have rdi := rl.at_ i hi2
    have hmi := rdi.max
    repeat (first | refine Run.seq ?_ | refine Run.region ?_ | refine Run.skip ?_ | refine Run.block ?_ | refine Run.inBlock ?_ | refine Run.exit rfl ?_ | refine RunL.nil ?_ | refine RunL.ok (OpOk.assign rfl) rfl ?_ | refine RunL.ok (OpOk.move rfl) rfl ?_ | refine RunL.ok (OpOk.lenR rfl rfl (by first | assumption | (apply Rd.left; first | assumption | (apply Rd.left; first | assumption | (apply Rd.left; first | assumption | (apply Rd.left; first | assumption | (apply Rd.left; first | assumption | (apply Rd.left; first | assumption | (apply Rd.left; first | assumption | (apply Rd.left; first | assumption | (apply Rd.left; first | assumption | (apply Rd.left; first | assumption | (apply Rd.left; first | assumption | (apply Rd.left; first | assumption | (apply Rd.left; first | assumption | (apply Rd.left; assumption))))))))))))))) rfl) rfl ?_ | refine RunL.ok (OpOk.lenV rfl rfl rfl) rfl ?_ | refine RunL.ok (OpOk.lss rfl rfl) rfl ?_ | refine RunL.ok (OpOk.idx1 rfl ti63 rfl (by first | assumption | (apply Rd.left; first | assumption | (apply Rd.left; first | assumption | (apply Rd.left; first | assumption | (apply Rd.left; first | assumption | (apply Rd.left; first | assumption | (apply Rd.left; first | assumption | (apply Rd.left; first | assumption | (apply Rd.left; first | assumption | (apply Rd.left; first | assumption | (apply Rd.left; first | assumption | (apply Rd.left; first | assumption | (apply Rd.left; first | assumption | (apply Rd.left; first | assumption | (apply Rd.left; assumption))))))))))))))) rfl (by omega) (by omega)) rfl ?_ | refine RunL.ok (OpOk.load rfl rfl rfl (by first | exact Cell.pts rfl | (apply Cell.left; first | exact Cell.pts rfl | (apply Cell.left; first | exact Cell.pts rfl | (apply Cell.left; first | exact Cell.pts rfl | (apply Cell.left; first | exact Cell.pts rfl | (apply Cell.left; first | exact Cell.pts rfl | (apply Cell.left; first | exact Cell.pts rfl | (apply Cell.left; first | exact Cell.pts rfl | (apply Cell.left; exact Cell.pts rfl)))))))))) rfl ?_ | refine RunL.ok (OpOk.idx1 rfl ti5 rfl (by first | assumption | (apply Rd.left; first | assumption | (apply Rd.left; first | assumption | (apply Rd.left; first | assumption | (apply Rd.left; first | assumption | (apply Rd.left; first | assumption | (apply Rd.left; first | assumption | (apply Rd.left; first | assumption | (apply Rd.left; first | assumption | (apply Rd.left; first | assumption | (apply Rd.left; first | assumption | (apply Rd.left; first | assumption | (apply Rd.left; first | assumption | (apply Rd.left; first | assumption | (apply Rd.left; assumption))))))))))))))) rfl (by omega) (by omega)) rfl ?_ | refine RunL.ok (OpOk.load rfl rfl rfl (Rd.cell (by first | assumption | (apply Rd.left; first | assumption | (apply Rd.left; first | assumption | (apply Rd.left; first | assumption | (apply Rd.left; first | assumption | (apply Rd.left; first | assumption | (apply Rd.left; first | assumption | (apply Rd.left; first | assumption | (apply Rd.left; first | assumption | (apply Rd.left; first | assumption | (apply Rd.left; first | assumption | (apply Rd.left; first | assumption | (apply Rd.left; first | assumption | (apply Rd.left; first | assumption | (apply Rd.left; assumption))))))))))))))) (B_get (by omega)))) rfl ?_ | refine RunL.ok (OpOk.convInt rfl rfl rfl (by first | exact wrapI (by omega) (by omega) | exact wrapU8 (by omega) (by omega) | exact wrapU16 (by omega) (by omega) | exact wrapU64 (by omega) (by omega) | exact wrapU8m _ | exact wrapU16m _ | rfl)) rfl ?_ | refine RunL.ok (OpOk.neg rfl (by first | exact wrapI (by omega) (by omega) | exact wrapU8 (by omega) (by omega) | exact wrapU16 (by omega) (by omega) | exact wrapU64 (by omega) (by omega) | exact wrapU8m _ | exact wrapU16m _ | rfl)) rfl ?_ | refine RunL.ok (OpOk.add rfl rfl (by first | exact wrapI (by omega) (by omega) | exact wrapU8 (by omega) (by omega) | exact wrapU16 (by omega) (by omega) | exact wrapU64 (by omega) (by omega) | exact wrapU8m _ | exact wrapU16m _ | rfl)) rfl ?_)
    refine RunL.ok (OpOk.load rfl rfl rfl (rd.cell (getD_at (d := .bool false) (by rw [rl.len]; exact hi2)))) rfl ?_
    simp only [Int.toNat_natCast]
    repeat (first | refine Run.seq ?_ | refine Run.region ?_ | refine Run.skip ?_ | refine Run.block ?_ | refine Run.inBlock ?_ | refine Run.exit rfl ?_ | refine RunL.nil ?_ | refine RunL.ok (OpOk.assign rfl) rfl ?_ | refine RunL.ok (OpOk.move rfl) rfl ?_ | refine RunL.ok (OpOk.lenR rfl rfl (by first | assumption | (apply Rd.left; first | assumption | (apply Rd.left; first | assumption | (apply Rd.left; first | assumption | (apply Rd.left; first | assumption | (apply Rd.left; first | assumption | (apply Rd.left; first | assumption | (apply Rd.left; first | assumption | (apply Rd.left; first | assumption | (apply Rd.left; first | assumption | (apply Rd.left; first | assumption | (apply Rd.left; first | assumption | (apply Rd.left; first | assumption | (apply Rd.left; first | assumption | (apply Rd.left; assumption))))))))))))))) rfl) rfl ?_ | refine RunL.ok (OpOk.lenV rfl rfl rfl) rfl ?_ | refine RunL.ok (OpOk.lss rfl rfl) rfl ?_ | refine RunL.ok (OpOk.idx1 rfl ti63 rfl (by first | assumption | (apply Rd.left; first | assumption | (apply Rd.left; first | assumption | (apply Rd.left; first | assumption | (apply Rd.left; first | assumption | (apply Rd.left; first | assumption | (apply Rd.left; first | assumption | (apply Rd.left; first | assumption | (apply Rd.left; first | assumption | (apply Rd.left; first | assumption | (apply Rd.left; first | assumption | (apply Rd.left; first | assumption | (apply Rd.left; first | assumption | (apply Rd.left; first | assumption | (apply Rd.left; assumption))))))))))))))) rfl (by omega) (by omega)) rfl ?_ | refine RunL.ok (OpOk.load rfl rfl rfl (by first | exact Cell.pts rfl | (apply Cell.left; first | exact Cell.pts rfl | (apply Cell.left; first | exact Cell.pts rfl | (apply Cell.left; first | exact Cell.pts rfl | (apply Cell.left; first | exact Cell.pts rfl | (apply Cell.left; first | exact Cell.pts rfl | (apply Cell.left; first | exact Cell.pts rfl | (apply Cell.left; first | exact Cell.pts rfl | (apply Cell.left; exact Cell.pts rfl)))))))))) rfl ?_ | refine RunL.ok (OpOk.idx1 rfl ti5 rfl (by first | assumption | (apply Rd.left; first | assumption | (apply Rd.left; first | assumption | (apply Rd.left; first | assumption | (apply Rd.left; first | assumption | (apply Rd.left; first | assumption | (apply Rd.left; first | assumption | (apply Rd.left; first | assumption | (apply Rd.left; first | assumption | (apply Rd.left; first | assumption | (apply Rd.left; first | assumption | (apply Rd.left; first | assumption | (apply Rd.left; first | assumption | (apply Rd.left; first | assumption | (apply Rd.left; assumption))))))))))))))) rfl (by omega) (by omega)) rfl ?_ | refine RunL.ok (OpOk.load rfl rfl rfl (Rd.cell (by first | assumption | (apply Rd.left; first | assumption | (apply Rd.left; first | assumption | (apply Rd.left; first | assumption | (apply Rd.left; first | assumption | (apply Rd.left; first | assumption | (apply Rd.left; first | assumption | (apply Rd.left; first | assumption | (apply Rd.left; first | assumption | (apply Rd.left; first | assumption | (apply Rd.left; first | assumption | (apply Rd.left; first | assumption | (apply Rd.left; first | assumption | (apply Rd.left; first | assumption | (apply Rd.left; assumption))))))))))))))) (B_get (by omega)))) rfl ?_ | refine RunL.ok (OpOk.convInt rfl rfl rfl (by first | exact wrapI (by omega) (by omega) | exact wrapU8 (by omega) (by omega) | exact wrapU16 (by omega) (by omega) | exact wrapU64 (by omega) (by omega) | exact wrapU8m _ | exact wrapU16m _ | rfl)) rfl ?_ | refine RunL.ok (OpOk.neg rfl (by first | exact wrapI (by omega) (by omega) | exact wrapU8 (by omega) (by omega) | exact wrapU16 (by omega) (by omega) | exact wrapU64 (by omega) (by omega) | exact wrapU8m _ | exact wrapU16m _ | rfl)) rfl ?_ | refine RunL.ok (OpOk.add rfl rfl (by first | exact wrapI (by omega) (by omega) | exact wrapU8 (by omega) (by omega) | exact wrapU16 (by omega) (by omega) | exact wrapU64 (by omega) (by omega) | exact wrapU8m _ | exact wrapU16m _ | rfl)) rfl ?_)
    refine Run.loop (X := Nat) (fun j => [(3, .int .u16 ((crc (sum (bss.take i).flatten) ((bss.getD i []).take j)).toNat : Int)), (8, v), (9, .int .i64 (bss.length : Int)), (10, .int .i64 i), (14, vs.getD i (.bool false)), (15, .int .i64 ((bss.getD i []).length : Int)), (16, .int .i64 j)]) (fun _ => A) (fun j => j ≤ (bss.getD i []).length) (fun j => (bss.getD i []).length - j) 0 ⟨rfl, rfl, rfl, rfl, rfl, rfl, rfl, trivial⟩ rfl (by omega) (fun j hj ih2 => ?_)
    repeat (first | refine Run.seq ?_ | refine Run.region ?_ | refine Run.skip ?_ | refine Run.block ?_ | refine Run.inBlock ?_ | refine Run.exit rfl ?_ | refine RunL.nil ?_ | refine RunL.ok (OpOk.assign rfl) rfl ?_ | refine RunL.ok (OpOk.move rfl) rfl ?_ | refine RunL.ok (OpOk.lenR rfl rfl (by first | assumption | (apply Rd.left; first | assumption | (apply Rd.left; first | assumption | (apply Rd.left; first | assumption | (apply Rd.left; first | assumption | (apply Rd.left; first | assumption | (apply Rd.left; first | assumption | (apply Rd.left; first | assumption | (apply Rd.left; first | assumption | (apply Rd.left; first | assumption | (apply Rd.left; first | assumption | (apply Rd.left; first | assumption | (apply Rd.left; first | assumption | (apply Rd.left; first | assumption | (apply Rd.left; assumption))))))))))))))) rfl) rfl ?_ | refine RunL.ok (OpOk.lenV rfl rfl rfl) rfl ?_ | refine RunL.ok (OpOk.lss rfl rfl) rfl ?_ | refine RunL.ok (OpOk.idx1 rfl ti63 rfl (by first | assumption | (apply Rd.left; first | assumption | (apply Rd.left; first | assumption | (apply Rd.left; first | assumption | (apply Rd.left; first | assumption | (apply Rd.left; first | assumption | (apply Rd.left; first | assumption | (apply Rd.left; first | assumption | (apply Rd.left; first | assumption | (apply Rd.left; first | assumption | (apply Rd.left; first | assumption | (apply Rd.left; first | assumption | (apply Rd.left; first | assumption | (apply Rd.left; first | assumption | (apply Rd.left; assumption))))))))))))))) rfl (by omega) (by omega)) rfl ?_ | refine RunL.ok (OpOk.load rfl rfl rfl (by first | exact Cell.pts rfl | (apply Cell.left; first | exact Cell.pts rfl | (apply Cell.left; first | exact Cell.pts rfl | (apply Cell.left; first | exact Cell.pts rfl | (apply Cell.left; first | exact Cell.pts rfl | (apply Cell.left; first | exact Cell.pts rfl | (apply Cell.left; first | exact Cell.pts rfl | (apply Cell.left; first | exact Cell.pts rfl | (apply Cell.left; exact Cell.pts rfl)))))))))) rfl ?_ | refine RunL.ok (OpOk.idx1 rfl ti5 rfl (by first | assumption | (apply Rd.left; first | assumption | (apply Rd.left; first | assumption | (apply Rd.left; first | assumption | (apply Rd.left; first | assumption | (apply Rd.left; first | assumption | (apply Rd.left; first | assumption | (apply Rd.left; first | assumption | (apply Rd.left; first | assumption | (apply Rd.left; first | assumption | (apply Rd.left; first | assumption | (apply Rd.left; first | assumption | (apply Rd.left; first | assumption | (apply Rd.left; first | assumption | (apply Rd.left; assumption))))))))))))))) rfl (by omega) (by omega)) rfl ?_ | refine RunL.ok (OpOk.load rfl rfl rfl (Rd.cell (by first | assumption | (apply Rd.left; first | assumption | (apply Rd.left; first | assumption | (apply Rd.left; first | assumption | (apply Rd.left; first | assumption | (apply Rd.left; first | assumption | (apply Rd.left; first | assumption | (apply Rd.left; first | assumption | (apply Rd.left; first | assumption | (apply Rd.left; first | assumption | (apply Rd.left; first | assumption | (apply Rd.left; first | assumption | (apply Rd.left; first | assumption | (apply Rd.left; first | assumption | (apply Rd.left; assumption))))))))))))))) (B_get (by omega)))) rfl ?_ | refine RunL.ok (OpOk.convInt rfl rfl rfl (by first | exact wrapI (by omega) (by omega) | exact wrapU8 (by omega) (by omega) | exact wrapU16 (by omega) (by omega) | exact wrapU64 (by omega) (by omega) | exact wrapU8m _ | exact wrapU16m _ | rfl)) rfl ?_ | refine RunL.ok (OpOk.neg rfl (by first | exact wrapI (by omega) (by omega) | exact wrapU8 (by omega) (by omega) | exact wrapU16 (by omega) (by omega) | exact wrapU64 (by omega) (by omega) | exact wrapU8m _ | exact wrapU16m _ | rfl)) rfl ?_ | refine RunL.ok (OpOk.add rfl rfl (by first | exact wrapI (by omega) (by omega) | exact wrapU8 (by omega) (by omega) | exact wrapU16 (by omega) (by omega) | exact wrapU64 (by omega) (by omega) | exact wrapU8m _ | exact wrapU16m _ | rfl)) rfl ?_)
    refine Run.condD rfl (fun h3 => ?_) (fun h3 => ?_)
    · have hct := crc_take (s := sum (bss.take i).flatten) (xs := bss.getD i []) (i := j) (by omega)
      generalize hs : crc (sum (bss.take i).flatten) ((bss.getD i []).take j) = s at *
      repeat (first | refine Run.seq ?_ | refine Run.region ?_ | refine Run.skip ?_ | refine Run.block ?_ | refine Run.inBlock ?_ | refine Run.exit rfl ?_ | refine RunL.nil ?_ | refine RunL.ok (OpOk.assign rfl) rfl ?_ | refine RunL.ok (OpOk.move rfl) rfl ?_ | refine RunL.ok (OpOk.lenR rfl rfl (by first | assumption | (apply Rd.left; first | assumption | (apply Rd.left; first | assumption | (apply Rd.left; first | assumption | (apply Rd.left; first | assumption | (apply Rd.left; first | assumption | (apply Rd.left; first | assumption | (apply Rd.left; first | assumption | (apply Rd.left; first | assumption | (apply Rd.left; first | assumption | (apply Rd.left; first | assumption | (apply Rd.left; first | assumption | (apply Rd.left; first | assumption | (apply Rd.left; first | assumption | (apply Rd.left; assumption))))))))))))))) rfl) rfl ?_ | refine RunL.ok (OpOk.lenV rfl rfl rfl) rfl ?_ | refine RunL.ok (OpOk.lss rfl rfl) rfl ?_ | refine RunL.ok (OpOk.idx1 rfl ti63 rfl (by first | assumption | (apply Rd.left; first | assumption | (apply Rd.left; first | assumption | (apply Rd.left; first | assumption | (apply Rd.left; first | assumption | (apply Rd.left; first | assumption | (apply Rd.left; first | assumption | (apply Rd.left; first | assumption | (apply Rd.left; first | assumption | (apply Rd.left; first | assumption | (apply Rd.left; first | assumption | (apply Rd.left; first | assumption | (apply Rd.left; first | assumption | (apply Rd.left; first | assumption | (apply Rd.left; assumption))))))))))))))) rfl (by omega) (by omega)) rfl ?_ | refine RunL.ok (OpOk.load rfl rfl rfl (by first | exact Cell.pts rfl | (apply Cell.left; first | exact Cell.pts rfl | (apply Cell.left; first | exact Cell.pts rfl | (apply Cell.left; first | exact Cell.pts rfl | (apply Cell.left; first | exact Cell.pts rfl | (apply Cell.left; first | exact Cell.pts rfl | (apply Cell.left; first | exact Cell.pts rfl | (apply Cell.left; first | exact Cell.pts rfl | (apply Cell.left; exact Cell.pts rfl)))))))))) rfl ?_ | refine RunL.ok (OpOk.idx1 rfl ti5 rfl (by first | assumption | (apply Rd.left; first | assumption | (apply Rd.left; first | assumption | (apply Rd.left; first | assumption | (apply Rd.left; first | assumption | (apply Rd.left; first | assumption | (apply Rd.left; first | assumption | (apply Rd.left; first | assumption | (apply Rd.left; first | assumption | (apply Rd.left; first | assumption | (apply Rd.left; first | assumption | (apply Rd.left; first | assumption | (apply Rd.left; first | assumption | (apply Rd.left; first | assumption | (apply Rd.left; assumption))))))))))))))) rfl (by omega) (by omega)) rfl ?_ | refine RunL.ok (OpOk.load rfl rfl rfl (Rd.cell (by first | assumption | (apply Rd.left; first | assumption | (apply Rd.left; first | assumption | (apply Rd.left; first | assumption | (apply Rd.left; first | assumption | (apply Rd.left; first | assumption | (apply Rd.left; first | assumption | (apply Rd.left; first | assumption | (apply Rd.left; first | assumption | (apply Rd.left; first | assumption | (apply Rd.left; first | assumption | (apply Rd.left; first | assumption | (apply Rd.left; first | assumption | (apply Rd.left; first | assumption | (apply Rd.left; assumption))))))))))))))) (B_get (by omega)))) rfl ?_ | refine RunL.ok (OpOk.neg rfl (by first | exact wrapI (by omega) (by omega) | exact wrapU8 (by omega) (by omega) | exact wrapU16 (by omega) (by omega) | exact wrapU64 (by omega) (by omega) | exact wrapU8m _ | exact wrapU16m _ | rfl)) rfl ?_ | refine RunL.ok (OpOk.add rfl rfl (by first | exact wrapI (by omega) (by omega) | exact wrapU8 (by omega) (by omega) | exact wrapU16 (by omega) (by omega) | exact wrapU64 (by omega) (by omega) | exact wrapU8m _ | exact wrapU16m _ | rfl)) rfl ?_)
      simp only [Int.toNat_natCast]
      generalize hx : (bss.getD i []).getD j 0 = x at *
      refine RunL.ok (OpOk.convInt rfl rfl rfl (m_byte x)) rfl ?_
      refine RunL.ok (OpOk.shl rfl rfl (by decide) (m_shl _ 8 (by decide))) rfl ?_
      refine RunL.ok (OpOk.xor rfl rfl (m_xor _ _)) rfl ?_
      repeat (first | refine Run.seq ?_ | refine Run.region ?_ | refine Run.skip ?_ | refine Run.block ?_ | refine Run.inBlock ?_ | refine Run.exit rfl ?_ | refine RunL.nil ?_ | refine RunL.ok (OpOk.assign rfl) rfl ?_ | refine RunL.ok (OpOk.move rfl) rfl ?_ | refine RunL.ok (OpOk.lenR rfl rfl (by first | assumption | (apply Rd.left; first | assumption | (apply Rd.left; first | assumption | (apply Rd.left; first | assumption | (apply Rd.left; first | assumption | (apply Rd.left; first | assumption | (apply Rd.left; first | assumption | (apply Rd.left; first | assumption | (apply Rd.left; first | assumption | (apply Rd.left; first | assumption | (apply Rd.left; first | assumption | (apply Rd.left; first | assumption | (apply Rd.left; first | assumption | (apply Rd.left; first | assumption | (apply Rd.left; assumption))))))))))))))) rfl) rfl ?_ | refine RunL.ok (OpOk.lenV rfl rfl rfl) rfl ?_ | refine RunL.ok (OpOk.lss rfl rfl) rfl ?_ | refine RunL.ok (OpOk.idx1 rfl ti63 rfl (by first | assumption | (apply Rd.left; first | assumption | (apply Rd.left; first | assumption | (apply Rd.left; first | assumption | (apply Rd.left; first | assumption | (apply Rd.left; first | assumption | (apply Rd.left; first | assumption | (apply Rd.left; first | assumption | (apply Rd.left; first | assumption | (apply Rd.left; first | assumption | (apply Rd.left; first | assumption | (apply Rd.left; first | assumption | (apply Rd.left; first | assumption | (apply Rd.left; first | assumption | (apply Rd.left; assumption))))))))))))))) rfl (by omega) (by omega)) rfl ?_ | refine RunL.ok (OpOk.load rfl rfl rfl (by first | exact Cell.pts rfl | (apply Cell.left; first | exact Cell.pts rfl | (apply Cell.left; first | exact Cell.pts rfl | (apply Cell.left; first | exact Cell.pts rfl | (apply Cell.left; first | exact Cell.pts rfl | (apply Cell.left; first | exact Cell.pts rfl | (apply Cell.left; first | exact Cell.pts rfl | (apply Cell.left; first | exact Cell.pts rfl | (apply Cell.left; exact Cell.pts rfl)))))))))) rfl ?_ | refine RunL.ok (OpOk.idx1 rfl ti5 rfl (by first | assumption | (apply Rd.left; first | assumption | (apply Rd.left; first | assumption | (apply Rd.left; first | assumption | (apply Rd.left; first | assumption | (apply Rd.left; first | assumption | (apply Rd.left; first | assumption | (apply Rd.left; first | assumption | (apply Rd.left; first | assumption | (apply Rd.left; first | assumption | (apply Rd.left; first | assumption | (apply Rd.left; first | assumption | (apply Rd.left; first | assumption | (apply Rd.left; first | assumption | (apply Rd.left; assumption))))))))))))))) rfl (by omega) (by omega)) rfl ?_ | refine RunL.ok (OpOk.load rfl rfl rfl (Rd.cell (by first | assumption | (apply Rd.left; first | assumption | (apply Rd.left; first | assumption | (apply Rd.left; first | assumption | (apply Rd.left; first | assumption | (apply Rd.left; first | assumption | (apply Rd.left; first | assumption | (apply Rd.left; first | assumption | (apply Rd.left; first | assumption | (apply Rd.left; first | assumption | (apply Rd.left; first | assumption | (apply Rd.left; first | assumption | (apply Rd.left; first | assumption | (apply Rd.left; first | assumption | (apply Rd.left; assumption))))))))))))))) (B_get (by omega)))) rfl ?_ | refine RunL.ok (OpOk.convInt rfl rfl rfl (by first | exact wrapI (by omega) (by omega) | exact wrapU8 (by omega) (by omega) | exact wrapU16 (by omega) (by omega) | exact wrapU64 (by omega) (by omega) | exact wrapU8m _ | exact wrapU16m _ | rfl)) rfl ?_ | refine RunL.ok (OpOk.neg rfl (by first | exact wrapI (by omega) (by omega) | exact wrapU8 (by omega) (by omega) | exact wrapU16 (by omega) (by omega) | exact wrapU64 (by omega) (by omega) | exact wrapU8m _ | exact wrapU16m _ | rfl)) rfl ?_ | refine RunL.ok (OpOk.add rfl rfl (by first | exact wrapI (by omega) (by omega) | exact wrapU8 (by omega) (by omega) | exact wrapU16 (by omega) (by omega) | exact wrapU64 (by omega) (by omega) | exact wrapU8m _ | exact wrapU16m _ | rfl)) rfl ?_)
      refine Run.loop (X := Nat) (fun q => [(3, .int .u16 ((steps q (put8 s x)).toNat : Int)), (8, v), (9, .int .i64 (bss.length : Int)), (10, .int .i64 i), (14, vs.getD i (.bool false)), (15, .int .i64 ((bss.getD i []).length : Int)), (16, .int .i64 j), (25, .int .i64 q)]) (fun _ => A) (fun q => q ≤ 8) (fun q => 8 - q) 0 ⟨rfl, rfl, rfl, rfl, rfl, rfl, rfl, rfl, trivial⟩ rfl (by omega) (fun q hq ih3 => ?_)
      repeat (first | refine Run.seq ?_ | refine Run.region ?_ | refine Run.skip ?_ | refine Run.block ?_ | refine Run.inBlock ?_ | refine Run.exit rfl ?_ | refine RunL.nil ?_ | refine RunL.ok (OpOk.assign rfl) rfl ?_ | refine RunL.ok (OpOk.move rfl) rfl ?_ | refine RunL.ok (OpOk.lenR rfl rfl (by first | assumption | (apply Rd.left; first | assumption | (apply Rd.left; first | assumption | (apply Rd.left; first | assumption | (apply Rd.left; first | assumption | (apply Rd.left; first | assumption | (apply Rd.left; first | assumption | (apply Rd.left; first | assumption | (apply Rd.left; first | assumption | (apply Rd.left; first | assumption | (apply Rd.left; first | assumption | (apply Rd.left; first | assumption | (apply Rd.left; first | assumption | (apply Rd.left; first | assumption | (apply Rd.left; assumption))))))))))))))) rfl) rfl ?_ | refine RunL.ok (OpOk.lenV rfl rfl rfl) rfl ?_ | refine RunL.ok (OpOk.lss rfl rfl) rfl ?_ | refine RunL.ok (OpOk.idx1 rfl ti63 rfl (by first | assumption | (apply Rd.left; first | assumption | (apply Rd.left; first | assumption | (apply Rd.left; first | assumption | (apply Rd.left; first | assumption | (apply Rd.left; first | assumption | (apply Rd.left; first | assumption | (apply Rd.left; first | assumption | (apply Rd.left; first | assumption | (apply Rd.left; first | assumption | (apply Rd.left; first | assumption | (apply Rd.left; first | assumption | (apply Rd.left; first | assumption | (apply Rd.left; first | assumption | (apply Rd.left; assumption))))))))))))))) rfl (by omega) (by omega)) rfl ?_ | refine RunL.ok (OpOk.load rfl rfl rfl (by first | exact Cell.pts rfl | (apply Cell.left; first | exact Cell.pts rfl | (apply Cell.left; first | exact Cell.pts rfl | (apply Cell.left; first | exact Cell.pts rfl | (apply Cell.left; first | exact Cell.pts rfl | (apply Cell.left; first | exact Cell.pts rfl | (apply Cell.left; first | exact Cell.pts rfl | (apply Cell.left; first | exact Cell.pts rfl | (apply Cell.left; exact Cell.pts rfl)))))))))) rfl ?_ | refine RunL.ok (OpOk.idx1 rfl ti5 rfl (by first | assumption | (apply Rd.left; first | assumption | (apply Rd.left; first | assumption | (apply Rd.left; first | assumption | (apply Rd.left; first | assumption | (apply Rd.left; first | assumption | (apply Rd.left; first | assumption | (apply Rd.left; first | assumption | (apply Rd.left; first | assumption | (apply Rd.left; first | assumption | (apply Rd.left; first | assumption | (apply Rd.left; first | assumption | (apply Rd.left; first | assumption | (apply Rd.left; first | assumption | (apply Rd.left; assumption))))))))))))))) rfl (by omega) (by omega)) rfl ?_ | refine RunL.ok (OpOk.load rfl rfl rfl (Rd.cell (by first | assumption | (apply Rd.left; first | assumption | (apply Rd.left; first | assumption | (apply Rd.left; first | assumption | (apply Rd.left; first | assumption | (apply Rd.left; first | assumption | (apply Rd.left; first | assumption | (apply Rd.left; first | assumption | (apply Rd.left; first | assumption | (apply Rd.left; first | assumption | (apply Rd.left; first | assumption | (apply Rd.left; first | assumption | (apply Rd.left; first | assumption | (apply Rd.left; first | assumption | (apply Rd.left; assumption))))))))))))))) (B_get (by omega)))) rfl ?_ | refine RunL.ok (OpOk.convInt rfl rfl rfl (by first | exact wrapI (by omega) (by omega) | exact wrapU8 (by omega) (by omega) | exact wrapU16 (by omega) (by omega) | exact wrapU64 (by omega) (by omega) | exact wrapU8m _ | exact wrapU16m _ | rfl)) rfl ?_ | refine RunL.ok (OpOk.neg rfl (by first | exact wrapI (by omega) (by omega) | exact wrapU8 (by omega) (by omega) | exact wrapU16 (by omega) (by omega) | exact wrapU64 (by omega) (by omega) | exact wrapU8m _ | exact wrapU16m _ | rfl)) rfl ?_ | refine RunL.ok (OpOk.add rfl rfl (by first | exact wrapI (by omega) (by omega) | exact wrapU8 (by omega) (by omega) | exact wrapU16 (by omega) (by omega) | exact wrapU64 (by omega) (by omega) | exact wrapU8m _ | exact wrapU16m _ | rfl)) rfl ?_)
      refine Run.condD rfl (fun h4 => ?_) (fun h4 => ?_)
      · repeat (first | refine Run.seq ?_ | refine Run.region ?_ | refine Run.skip ?_ | refine Run.block ?_ | refine Run.inBlock ?_ | refine Run.exit rfl ?_ | refine RunL.nil ?_ | refine RunL.ok (OpOk.assign rfl) rfl ?_ | refine RunL.ok (OpOk.move rfl) rfl ?_ | refine RunL.ok (OpOk.lenR rfl rfl (by first | assumption | (apply Rd.left; first | assumption | (apply Rd.left; first | assumption | (apply Rd.left; first | assumption | (apply Rd.left; first | assumption | (apply Rd.left; first | assumption | (apply Rd.left; first | assumption | (apply Rd.left; first | assumption | (apply Rd.left; first | assumption | (apply Rd.left; first | assumption | (apply Rd.left; first | assumption | (apply Rd.left; first | assumption | (apply Rd.left; first | assumption | (apply Rd.left; first | assumption | (apply Rd.left; assumption))))))))))))))) rfl) rfl ?_ | refine RunL.ok (OpOk.lenV rfl rfl rfl) rfl ?_ | refine RunL.ok (OpOk.lss rfl rfl) rfl ?_ | refine RunL.ok (OpOk.idx1 rfl ti63 rfl (by first | assumption | (apply Rd.left; first | assumption | (apply Rd.left; first | assumption | (apply Rd.left; first | assumption | (apply Rd.left; first | assumption | (apply Rd.left; first | assumption | (apply Rd.left; first | assumption | (apply Rd.left; first | assumption | (apply Rd.left; first | assumption | (apply Rd.left; first | assumption | (apply Rd.left; first | assumption | (apply Rd.left; first | assumption | (apply Rd.left; first | assumption | (apply Rd.left; first | assumption | (apply Rd.left; assumption))))))))))))))) rfl (by omega) (by omega)) rfl ?_ | refine RunL.ok (OpOk.load rfl rfl rfl (by first | exact Cell.pts rfl | (apply Cell.left; first | exact Cell.pts rfl | (apply Cell.left; first | exact Cell.pts rfl | (apply Cell.left; first | exact Cell.pts rfl | (apply Cell.left; first | exact Cell.pts rfl | (apply Cell.left; first | exact Cell.pts rfl | (apply Cell.left; first | exact Cell.pts rfl | (apply Cell.left; first | exact Cell.pts rfl | (apply Cell.left; exact Cell.pts rfl)))))))))) rfl ?_ | refine RunL.ok (OpOk.idx1 rfl ti5 rfl (by first | assumption | (apply Rd.left; first | assumption | (apply Rd.left; first | assumption | (apply Rd.left; first | assumption | (apply Rd.left; first | assumption | (apply Rd.left; first | assumption | (apply Rd.left; first | assumption | (apply Rd.left; first | assumption | (apply Rd.left; first | assumption | (apply Rd.left; first | assumption | (apply Rd.left; first | assumption | (apply Rd.left; first | assumption | (apply Rd.left; first | assumption | (apply Rd.left; first | assumption | (apply Rd.left; assumption))))))))))))))) rfl (by omega) (by omega)) rfl ?_ | refine RunL.ok (OpOk.load rfl rfl rfl (Rd.cell (by first | assumption | (apply Rd.left; first | assumption | (apply Rd.left; first | assumption | (apply Rd.left; first | assumption | (apply Rd.left; first | assumption | (apply Rd.left; first | assumption | (apply Rd.left; first | assumption | (apply Rd.left; first | assumption | (apply Rd.left; first | assumption | (apply Rd.left; first | assumption | (apply Rd.left; first | assumption | (apply Rd.left; first | assumption | (apply Rd.left; first | assumption | (apply Rd.left; first | assumption | (apply Rd.left; assumption))))))))))))))) (B_get (by omega)))) rfl ?_ | refine RunL.ok (OpOk.convInt rfl rfl rfl (by first | exact wrapI (by omega) (by omega) | exact wrapU8 (by omega) (by omega) | exact wrapU16 (by omega) (by omega) | exact wrapU64 (by omega) (by omega) | exact wrapU8m _ | exact wrapU16m _ | rfl)) rfl ?_ | refine RunL.ok (OpOk.neg rfl (by first | exact wrapI (by omega) (by omega) | exact wrapU8 (by omega) (by omega) | exact wrapU16 (by omega) (by omega) | exact wrapU64 (by omega) (by omega) | exact wrapU8m _ | exact wrapU16m _ | rfl)) rfl ?_ | refine RunL.ok (OpOk.add rfl rfl (by first | exact wrapI (by omega) (by omega) | exact wrapU8 (by omega) (by omega) | exact wrapU16 (by omega) (by omega) | exact wrapU64 (by omega) (by omega) | exact wrapU8m _ | exact wrapU16m _ | rfl)) rfl ?_)
        refine RunL.ok (OpOk.shl rfl rfl (by decide) (m_shl _ 1 (by decide))) rfl ?_
        repeat (first | refine Run.seq ?_ | refine Run.region ?_ | refine Run.skip ?_ | refine Run.block ?_ | refine Run.inBlock ?_ | refine Run.exit rfl ?_ | refine RunL.nil ?_ | refine RunL.ok (OpOk.assign rfl) rfl ?_ | refine RunL.ok (OpOk.move rfl) rfl ?_ | refine RunL.ok (OpOk.lenR rfl rfl (by first | assumption | (apply Rd.left; first | assumption | (apply Rd.left; first | assumption | (apply Rd.left; first | assumption | (apply Rd.left; first | assumption | (apply Rd.left; first | assumption | (apply Rd.left; first | assumption | (apply Rd.left; first | assumption | (apply Rd.left; first | assumption | (apply Rd.left; first | assumption | (apply Rd.left; first | assumption | (apply Rd.left; first | assumption | (apply Rd.left; first | assumption | (apply Rd.left; first | assumption | (apply Rd.left; assumption))))))))))))))) rfl) rfl ?_ | refine RunL.ok (OpOk.lenV rfl rfl rfl) rfl ?_ | refine RunL.ok (OpOk.lss rfl rfl) rfl ?_ | refine RunL.ok (OpOk.idx1 rfl ti63 rfl (by first | assumption | (apply Rd.left; first | assumption | (apply Rd.left; first | assumption | (apply Rd.left; first | assumption | (apply Rd.left; first | assumption | (apply Rd.left; first | assumption | (apply Rd.left; first | assumption | (apply Rd.left; first | assumption | (apply Rd.left; first | assumption | (apply Rd.left; first | assumption | (apply Rd.left; first | assumption | (apply Rd.left; first | assumption | (apply Rd.left; first | assumption | (apply Rd.left; first | assumption | (apply Rd.left; assumption))))))))))))))) rfl (by omega) (by omega)) rfl ?_ | refine RunL.ok (OpOk.load rfl rfl rfl (by first | exact Cell.pts rfl | (apply Cell.left; first | exact Cell.pts rfl | (apply Cell.left; first | exact Cell.pts rfl | (apply Cell.left; first | exact Cell.pts rfl | (apply Cell.left; first | exact Cell.pts rfl | (apply Cell.left; first | exact Cell.pts rfl | (apply Cell.left; first | exact Cell.pts rfl | (apply Cell.left; first | exact Cell.pts rfl | (apply Cell.left; exact Cell.pts rfl)))))))))) rfl ?_ | refine RunL.ok (OpOk.idx1 rfl ti5 rfl (by first | assumption | (apply Rd.left; first | assumption | (apply Rd.left; first | assumption | (apply Rd.left; first | assumption | (apply Rd.left; first | assumption | (apply Rd.left; first | assumption | (apply Rd.left; first | assumption | (apply Rd.left; first | assumption | (apply Rd.left; first | assumption | (apply Rd.left; first | assumption | (apply Rd.left; first | assumption | (apply Rd.left; first | assumption | (apply Rd.left; first | assumption | (apply Rd.left; first | assumption | (apply Rd.left; assumption))))))))))))))) rfl (by omega) (by omega)) rfl ?_ | refine RunL.ok (OpOk.load rfl rfl rfl (Rd.cell (by first | assumption | (apply Rd.left; first | assumption | (apply Rd.left; first | assumption | (apply Rd.left; first | assumption | (apply Rd.left; first | assumption | (apply Rd.left; first | assumption | (apply Rd.left; first | assumption | (apply Rd.left; first | assumption | (apply Rd.left; first | assumption | (apply Rd.left; first | assumption | (apply Rd.left; first | assumption | (apply Rd.left; first | assumption | (apply Rd.left; first | assumption | (apply Rd.left; first | assumption | (apply Rd.left; assumption))))))))))))))) (B_get (by omega)))) rfl ?_ | refine RunL.ok (OpOk.convInt rfl rfl rfl (by first | exact wrapI (by omega) (by omega) | exact wrapU8 (by omega) (by omega) | exact wrapU16 (by omega) (by omega) | exact wrapU64 (by omega) (by omega) | exact wrapU8m _ | exact wrapU16m _ | rfl)) rfl ?_ | refine RunL.ok (OpOk.neg rfl (by first | exact wrapI (by omega) (by omega) | exact wrapU8 (by omega) (by omega) | exact wrapU16 (by omega) (by omega) | exact wrapU64 (by omega) (by omega) | exact wrapU8m _ | exact wrapU16m _ | rfl)) rfl ?_ | refine RunL.ok (OpOk.add rfl rfl (by first | exact wrapI (by omega) (by omega) | exact wrapU8 (by omega) (by omega) | exact wrapU16 (by omega) (by omega) | exact wrapU64 (by omega) (by omega) | exact wrapU8m _ | exact wrapU16m _ | rfl)) rfl ?_)
        refine RunL.ok (OpOk.shr rfl rfl (by decide) (m_shr _ 15 (by decide))) rfl ?_
        refine RunL.ok (OpOk.neg rfl (m_neg _)) rfl ?_
        refine RunL.ok (OpOk.and rfl rfl (m_and 4129#16 _)) rfl ?_
        refine RunL.ok (OpOk.xor rfl rfl (m_xor _ _)) rfl ?_
        repeat (first | refine Run.seq ?_ | refine Run.region ?_ | refine Run.skip ?_ | refine Run.block ?_ | refine Run.inBlock ?_ | refine Run.exit rfl ?_ | refine RunL.nil ?_ | refine RunL.ok (OpOk.assign rfl) rfl ?_ | refine RunL.ok (OpOk.move rfl) rfl ?_ | refine RunL.ok (OpOk.lenR rfl rfl (by first | assumption | (apply Rd.left; first | assumption | (apply Rd.left; first | assumption | (apply Rd.left; first | assumption | (apply Rd.left; first | assumption | (apply Rd.left; first | assumption | (apply Rd.left; first | assumption | (apply Rd.left; first | assumption | (apply Rd.left; first | assumption | (apply Rd.left; first | assumption | (apply Rd.left; first | assumption | (apply Rd.left; first | assumption | (apply Rd.left; first | assumption | (apply Rd.left; first | assumption | (apply Rd.left; assumption))))))))))))))) rfl) rfl ?_ | refine RunL.ok (OpOk.lenV rfl rfl rfl) rfl ?_ | refine RunL.ok (OpOk.lss rfl rfl) rfl ?_ | refine RunL.ok (OpOk.idx1 rfl ti63 rfl (by first | assumption | (apply Rd.left; first | assumption | (apply Rd.left; first | assumption | (apply Rd.left; first | assumption | (apply Rd.left; first | assumption | (apply Rd.left; first | assumption | (apply Rd.left; first | assumption | (apply Rd.left; first | assumption | (apply Rd.left; first | assumption | (apply Rd.left; first | assumption | (apply Rd.left; first | assumption | (apply Rd.left; first | assumption | (apply Rd.left; first | assumption | (apply Rd.left; first | assumption | (apply Rd.left; assumption))))))))))))))) rfl (by omega) (by omega)) rfl ?_ | refine RunL.ok (OpOk.load rfl rfl rfl (by first | exact Cell.pts rfl | (apply Cell.left; first | exact Cell.pts rfl | (apply Cell.left; first | exact Cell.pts rfl | (apply Cell.left; first | exact Cell.pts rfl | (apply Cell.left; first | exact Cell.pts rfl | (apply Cell.left; first | exact Cell.pts rfl | (apply Cell.left; first | exact Cell.pts rfl | (apply Cell.left; first | exact Cell.pts rfl | (apply Cell.left; exact Cell.pts rfl)))))))))) rfl ?_ | refine RunL.ok (OpOk.idx1 rfl ti5 rfl (by first | assumption | (apply Rd.left; first | assumption | (apply Rd.left; first | assumption | (apply Rd.left; first | assumption | (apply Rd.left; first | assumption | (apply Rd.left; first | assumption | (apply Rd.left; first | assumption | (apply Rd.left; first | assumption | (apply Rd.left; first | assumption | (apply Rd.left; first | assumption | (apply Rd.left; first | assumption | (apply Rd.left; first | assumption | (apply Rd.left; first | assumption | (apply Rd.left; first | assumption | (apply Rd.left; assumption))))))))))))))) rfl (by omega) (by omega)) rfl ?_ | refine RunL.ok (OpOk.load rfl rfl rfl (Rd.cell (by first | assumption | (apply Rd.left; first | assumption | (apply Rd.left; first | assumption | (apply Rd.left; first | assumption | (apply Rd.left; first | assumption | (apply Rd.left; first | assumption | (apply Rd.left; first | assumption | (apply Rd.left; first | assumption | (apply Rd.left; first | assumption | (apply Rd.left; first | assumption | (apply Rd.left; first | assumption | (apply Rd.left; first | assumption | (apply Rd.left; first | assumption | (apply Rd.left; first | assumption | (apply Rd.left; assumption))))))))))))))) (B_get (by omega)))) rfl ?_ | refine RunL.ok (OpOk.convInt rfl rfl rfl (by first | exact wrapI (by omega) (by omega) | exact wrapU8 (by omega) (by omega) | exact wrapU16 (by omega) (by omega) | exact wrapU64 (by omega) (by omega) | exact wrapU8m _ | exact wrapU16m _ | rfl)) rfl ?_ | refine RunL.ok (OpOk.neg rfl (by first | exact wrapI (by omega) (by omega) | exact wrapU8 (by omega) (by omega) | exact wrapU16 (by omega) (by omega) | exact wrapU64 (by omega) (by omega) | exact wrapU8m _ | exact wrapU16m _ | rfl)) rfl ?_ | refine RunL.ok (OpOk.add rfl rfl (by first | exact wrapI (by omega) (by omega) | exact wrapU8 (by omega) (by omega) | exact wrapU16 (by omega) (by omega) | exact wrapU64 (by omega) (by omega) | exact wrapU8m _ | exact wrapU16m _ | rfl)) rfl ?_)
        exact Run.env [(3, .int .u16 ((steps (q + 1) (put8 s x)).toNat : Int)), (8, v), (9, .int .i64 (bss.length : Int)), (10, .int .i64 i), (14, vs.getD i (.bool false)), (15, .int .i64 ((bss.getD i []).length : Int)), (16, .int .i64 j), (25, .int .i64 ((q + 1 : Nat) : Int))] ⟨rfl, rfl, rfl, rfl, rfl, rfl, rfl, rfl, trivial⟩ (ih3 (q + 1) (by omega) (by omega))
      · have hq8 : q = 8 := by omega
        subst hq8
        repeat (first | refine Run.seq ?_ | refine Run.region ?_ | refine Run.skip ?_ | refine Run.block ?_ | refine Run.inBlock ?_ | refine Run.exit rfl ?_ | refine RunL.nil ?_ | refine RunL.ok (OpOk.assign rfl) rfl ?_ | refine RunL.ok (OpOk.move rfl) rfl ?_ | refine RunL.ok (OpOk.lenR rfl rfl (by first | assumption | (apply Rd.left; first | assumption | (apply Rd.left; first | assumption | (apply Rd.left; first | assumption | (apply Rd.left; first | assumption | (apply Rd.left; first | assumption | (apply Rd.left; first | assumption | (apply Rd.left; first | assumption | (apply Rd.left; first | assumption | (apply Rd.left; first | assumption | (apply Rd.left; first | assumption | (apply Rd.left; first | assumption | (apply Rd.left; first | assumption | (apply Rd.left; first | assumption | (apply Rd.left; assumption))))))))))))))) rfl) rfl ?_ | refine RunL.ok (OpOk.lenV rfl rfl rfl) rfl ?_ | refine RunL.ok (OpOk.lss rfl rfl) rfl ?_ | refine RunL.ok (OpOk.idx1 rfl ti63 rfl (by first | assumption | (apply Rd.left; first | assumption | (apply Rd.left; first | assumption | (apply Rd.left; first | assumption | (apply Rd.left; first | assumption | (apply Rd.left; first | assumption | (apply Rd.left; first | assumption | (apply Rd.left; first | assumption | (apply Rd.left; first | assumption | (apply Rd.left; first | assumption | (apply Rd.left; first | assumption | (apply Rd.left; first | assumption | (apply Rd.left; first | assumption | (apply Rd.left; first | assumption | (apply Rd.left; assumption))))))))))))))) rfl (by omega) (by omega)) rfl ?_ | refine RunL.ok (OpOk.load rfl rfl rfl (by first | exact Cell.pts rfl | (apply Cell.left; first | exact Cell.pts rfl | (apply Cell.left; first | exact Cell.pts rfl | (apply Cell.left; first | exact Cell.pts rfl | (apply Cell.left; first | exact Cell.pts rfl | (apply Cell.left; first | exact Cell.pts rfl | (apply Cell.left; first | exact Cell.pts rfl | (apply Cell.left; first | exact Cell.pts rfl | (apply Cell.left; exact Cell.pts rfl)))))))))) rfl ?_ | refine RunL.ok (OpOk.idx1 rfl ti5 rfl (by first | assumption | (apply Rd.left; first | assumption | (apply Rd.left; first | assumption | (apply Rd.left; first | assumption | (apply Rd.left; first | assumption | (apply Rd.left; first | assumption | (apply Rd.left; first | assumption | (apply Rd.left; first | assumption | (apply Rd.left; first | assumption | (apply Rd.left; first | assumption | (apply Rd.left; first | assumption | (apply Rd.left; first | assumption | (apply Rd.left; first | assumption | (apply Rd.left; first | assumption | (apply Rd.left; assumption))))))))))))))) rfl (by omega) (by omega)) rfl ?_ | refine RunL.ok (OpOk.load rfl rfl rfl (Rd.cell (by first | assumption | (apply Rd.left; first | assumption | (apply Rd.left; first | assumption | (apply Rd.left; first | assumption | (apply Rd.left; first | assumption | (apply Rd.left; first | assumption | (apply Rd.left; first | assumption | (apply Rd.left; first | assumption | (apply Rd.left; first | assumption | (apply Rd.left; first | assumption | (apply Rd.left; first | assumption | (apply Rd.left; first | assumption | (apply Rd.left; first | assumption | (apply Rd.left; first | assumption | (apply Rd.left; assumption))))))))))))))) (B_get (by omega)))) rfl ?_ | refine RunL.ok (OpOk.convInt rfl rfl rfl (by first | exact wrapI (by omega) (by omega) | exact wrapU8 (by omega) (by omega) | exact wrapU16 (by omega) (by omega) | exact wrapU64 (by omega) (by omega) | exact wrapU8m _ | exact wrapU16m _ | rfl)) rfl ?_ | refine RunL.ok (OpOk.neg rfl (by first | exact wrapI (by omega) (by omega) | exact wrapU8 (by omega) (by omega) | exact wrapU16 (by omega) (by omega) | exact wrapU64 (by omega) (by omega) | exact wrapU8m _ | exact wrapU16m _ | rfl)) rfl ?_ | refine RunL.ok (OpOk.add rfl rfl (by first | exact wrapI (by omega) (by omega) | exact wrapU8 (by omega) (by omega) | exact wrapU16 (by omega) (by omega) | exact wrapU64 (by omega) (by omega) | exact wrapU8m _ | exact wrapU16m _ | rfl)) rfl ?_)
        refine Run.env [(3, .int .u16 ((crc (sum (bss.take i).flatten) ((bss.getD i []).take (j + 1))).toNat : Int)), (8, v), (9, .int .i64 (bss.length : Int)), (10, .int .i64 i), (14, vs.getD i (.bool false)), (15, .int .i64 ((bss.getD i []).length : Int)), (16, .int .i64 ((j + 1 : Nat) : Int))] ⟨?_, rfl, rfl, rfl, rfl, rfl, rfl, trivial⟩ (ih2 (j + 1) (by omega) (by omega))
        rw [hct]
        rfl
    · have hj2 : j = (bss.getD i []).length := by omega
      subst hj2
      rw [List.take_length]
      repeat (first | refine Run.seq ?_ | refine Run.region ?_ | refine Run.skip ?_ | refine Run.block ?_ | refine Run.inBlock ?_ | refine Run.exit rfl ?_ | refine RunL.nil ?_ | refine RunL.ok (OpOk.assign rfl) rfl ?_ | refine RunL.ok (OpOk.move rfl) rfl ?_ | refine RunL.ok (OpOk.lenR rfl rfl (by first | assumption | (apply Rd.left; first | assumption | (apply Rd.left; first | assumption | (apply Rd.left; first | assumption | (apply Rd.left; first | assumption | (apply Rd.left; first | assumption | (apply Rd.left; first | assumption | (apply Rd.left; first | assumption | (apply Rd.left; first | assumption | (apply Rd.left; first | assumption | (apply Rd.left; first | assumption | (apply Rd.left; first | assumption | (apply Rd.left; first | assumption | (apply Rd.left; first | assumption | (apply Rd.left; assumption))))))))))))))) rfl) rfl ?_ | refine RunL.ok (OpOk.lenV rfl rfl rfl) rfl ?_ | refine RunL.ok (OpOk.lss rfl rfl) rfl ?_ | refine RunL.ok (OpOk.idx1 rfl ti63 rfl (by first | assumption | (apply Rd.left; first | assumption | (apply Rd.left; first | assumption | (apply Rd.left; first | assumption | (apply Rd.left; first | assumption | (apply Rd.left; first | assumption | (apply Rd.left; first | assumption | (apply Rd.left; first | assumption | (apply Rd.left; first | assumption | (apply Rd.left; first | assumption | (apply Rd.left; first | assumption | (apply Rd.left; first | assumption | (apply Rd.left; first | assumption | (apply Rd.left; first | assumption | (apply Rd.left; assumption))))))))))))))) rfl (by omega) (by omega)) rfl ?_ | refine RunL.ok (OpOk.load rfl rfl rfl (by first | exact Cell.pts rfl | (apply Cell.left; first | exact Cell.pts rfl | (apply Cell.left; first | exact Cell.pts rfl | (apply Cell.left; first | exact Cell.pts rfl | (apply Cell.left; first | exact Cell.pts rfl | (apply Cell.left; first | exact Cell.pts rfl | (apply Cell.left; first | exact Cell.pts rfl | (apply Cell.left; first | exact Cell.pts rfl | (apply Cell.left; exact Cell.pts rfl)))))))))) rfl ?_ | refine RunL.ok (OpOk.idx1 rfl ti5 rfl (by first | assumption | (apply Rd.left; first | assumption | (apply Rd.left; first | assumption | (apply Rd.left; first | assumption | (apply Rd.left; first | assumption | (apply Rd.left; first | assumption | (apply Rd.left; first | assumption | (apply Rd.left; first | assumption | (apply Rd.left; first | assumption | (apply Rd.left; first | assumption | (apply Rd.left; first | assumption | (apply Rd.left; first | assumption | (apply Rd.left; first | assumption | (apply Rd.left; first | assumption | (apply Rd.left; assumption))))))))))))))) rfl (by omega) (by omega)) rfl ?_ | refine RunL.ok (OpOk.load rfl rfl rfl (Rd.cell (by first | assumption | (apply Rd.left; first | assumption | (apply Rd.left; first | assumption | (apply Rd.left; first | assumption | (apply Rd.left; first | assumption | (apply Rd.left; first | assumption | (apply Rd.left; first | assumption | (apply Rd.left; first | assumption | (apply Rd.left; first | assumption | (apply Rd.left; first | assumption | (apply Rd.left; first | assumption | (apply Rd.left; first | assumption | (apply Rd.left; first | assumption | (apply Rd.left; first | assumption | (apply Rd.left; assumption))))))))))))))) (B_get (by omega)))) rfl ?_ | refine RunL.ok (OpOk.convInt rfl rfl rfl (by first | exact wrapI (by omega) (by omega) | exact wrapU8 (by omega) (by omega) | exact wrapU16 (by omega) (by omega) | exact wrapU64 (by omega) (by omega) | exact wrapU8m _ | exact wrapU16m _ | rfl)) rfl ?_ | refine RunL.ok (OpOk.neg rfl (by first | exact wrapI (by omega) (by omega) | exact wrapU8 (by omega) (by omega) | exact wrapU16 (by omega) (by omega) | exact wrapU64 (by omega) (by omega) | exact wrapU8m _ | exact wrapU16m _ | rfl)) rfl ?_ | refine RunL.ok (OpOk.add rfl rfl (by first | exact wrapI (by omega) (by omega) | exact wrapU8 (by omega) (by omega) | exact wrapU16 (by omega) (by omega) | exact wrapU64 (by omega) (by omega) | exact wrapU8m _ | exact wrapU16m _ | rfl)) rfl ?_)
      refine Run.env [(3, .int .u16 ((sum (bss.take (i + 1)).flatten).toNat : Int)), (8, v), (9, .int .i64 (bss.length : Int)), (10, .int .i64 ((i + 1 : Nat) : Int))] ⟨?_, rfl, rfl, rfl, trivial⟩ (ih (i + 1) (by omega) (by omega))
      rw [hft, sum_append]
      rfl
  · have hi2 : i = bss.length := by omega
    subst hi2
    rw [List.take_length]
    have hlt := sum_lt bss.flatten
    repeat (first | refine Run.seq ?_ | refine Run.region ?_ | refine Run.skip ?_ | refine Run.block ?_ | refine Run.inBlock ?_ | refine Run.exit rfl ?_ | refine RunL.nil ?_ | refine RunL.ok (OpOk.assign rfl) rfl ?_ | refine RunL.ok (OpOk.move rfl) rfl ?_ | refine RunL.ok (OpOk.lenR rfl rfl (by first | assumption | (apply Rd.left; first | assumption | (apply Rd.left; first | assumption | (apply Rd.left; first | assumption | (apply Rd.left; first | assumption | (apply Rd.left; first | assumption | (apply Rd.left; first | assumption | (apply Rd.left; first | assumption | (apply Rd.left; first | assumption | (apply Rd.left; first | assumption | (apply Rd.left; first | assumption | (apply Rd.left; first | assumption | (apply Rd.left; first | assumption | (apply Rd.left; first | assumption | (apply Rd.left; assumption))))))))))))))) rfl) rfl ?_ | refine RunL.ok (OpOk.lenV rfl rfl rfl) rfl ?_ | refine RunL.ok (OpOk.lss rfl rfl) rfl ?_ | refine RunL.ok (OpOk.idx1 rfl ti63 rfl (by first | assumption | (apply Rd.left; first | assumption | (apply Rd.left; first | assumption | (apply Rd.left; first | assumption | (apply Rd.left; first | assumption | (apply Rd.left; first | assumption | (apply Rd.left; first | assumption | (apply Rd.left; first | assumption | (apply Rd.left; first | assumption | (apply Rd.left; first | assumption | (apply Rd.left; first | assumption | (apply Rd.left; first | assumption | (apply Rd.left; first | assumption | (apply Rd.left; first | assumption | (apply Rd.left; assumption))))))))))))))) rfl (by omega) (by omega)) rfl ?_ | refine RunL.ok (OpOk.load rfl rfl rfl (by first | exact Cell.pts rfl | (apply Cell.left; first | exact Cell.pts rfl | (apply Cell.left; first | exact Cell.pts rfl | (apply Cell.left; first | exact Cell.pts rfl | (apply Cell.left; first | exact Cell.pts rfl | (apply Cell.left; first | exact Cell.pts rfl | (apply Cell.left; first | exact Cell.pts rfl | (apply Cell.left; first | exact Cell.pts rfl | (apply Cell.left; exact Cell.pts rfl)))))))))) rfl ?_ | refine RunL.ok (OpOk.idx1 rfl ti5 rfl (by first | assumption | (apply Rd.left; first | assumption | (apply Rd.left; first | assumption | (apply Rd.left; first | assumption | (apply Rd.left; first | assumption | (apply Rd.left; first | assumption | (apply Rd.left; first | assumption | (apply Rd.left; first | assumption | (apply Rd.left; first | assumption | (apply Rd.left; first | assumption | (apply Rd.left; first | assumption | (apply Rd.left; first | assumption | (apply Rd.left; first | assumption | (apply Rd.left; first | assumption | (apply Rd.left; assumption))))))))))))))) rfl (by omega) (by omega)) rfl ?_ | refine RunL.ok (OpOk.load rfl rfl rfl (Rd.cell (by first | assumption | (apply Rd.left; first | assumption | (apply Rd.left; first | assumption | (apply Rd.left; first | assumption | (apply Rd.left; first | assumption | (apply Rd.left; first | assumption | (apply Rd.left; first | assumption | (apply Rd.left; first | assumption | (apply Rd.left; first | assumption | (apply Rd.left; first | assumption | (apply Rd.left; first | assumption | (apply Rd.left; first | assumption | (apply Rd.left; first | assumption | (apply Rd.left; first | assumption | (apply Rd.left; assumption))))))))))))))) (B_get (by omega)))) rfl ?_ | refine RunL.ok (OpOk.convInt rfl rfl rfl (by first | exact wrapI (by omega) (by omega) | exact wrapU8 (by omega) (by omega) | exact wrapU16 (by omega) (by omega) | exact wrapU64 (by omega) (by omega) | exact wrapU8m _ | exact wrapU16m _ | rfl)) rfl ?_ | refine RunL.ok (OpOk.neg rfl (by first | exact wrapI (by omega) (by omega) | exact wrapU8 (by omega) (by omega) | exact wrapU16 (by omega) (by omega) | exact wrapU64 (by omega) (by omega) | exact wrapU8m _ | exact wrapU16m _ | rfl)) rfl ?_ | refine RunL.ok (OpOk.add rfl rfl (by first | exact wrapI (by omega) (by omega) | exact wrapU8 (by omega) (by omega) | exact wrapU16 (by omega) (by omega) | exact wrapU64 (by omega) (by omega) | exact wrapU8m _ | exact wrapU16m _ | rfl)) rfl ?_)
    exact Run.ret1 Try.func116 rfl rfl ⟨rfl, rfl⟩
theorem refsum_spec {w0 : World} {A : Asn} {v : Value} {m : Nat} {bs : List UInt8} (rd : Rd w0 A v 1 m (B bs)) :
    Spec Try.prog w0 79 [v] A (fun v' A' => v' = .int .i64 ((sum bs).toNat : Int) ∧ A' = A) := by
  have hmax := rd.max
  have hl : bs.length = m := by have := rd.len; rw [B_length] at this; omega
  refine Spec.of_run [(0, v)] Try.func79 rfl (Nat.le_of_ble_eq_true rfl) (by repeat (first | exact trivial | refine ⟨rfl, ?_⟩)) ?_
  repeat (first | refine Run.seq ?_ | refine Run.region ?_ | refine Run.skip ?_ | refine Run.block ?_ | refine Run.inBlock ?_ | refine Run.exit rfl ?_ | refine RunL.nil ?_ | refine RunL.ok (OpOk.assign rfl) rfl ?_ | refine RunL.ok (OpOk.move rfl) rfl ?_ | refine RunL.ok (OpOk.lenR rfl rfl (by first | assumption | (apply Rd.left; first | assumption | (apply Rd.left; first | assumption | (apply Rd.left; first | assumption | (apply Rd.left; first | assumption | (apply Rd.left; first | assumption | (apply Rd.left; first | assumption | (apply Rd.left; first | assumption | (apply Rd.left; first | assumption | (apply Rd.left; first | assumption | (apply Rd.left; first | assumption | (apply Rd.left; first | assumption | (apply Rd.left; first | assumption | (apply Rd.left; first | assumption | (apply Rd.left; assumption))))))))))))))) rfl) rfl ?_ | refine RunL.ok (OpOk.lenV rfl rfl rfl) rfl ?_ | refine RunL.ok (OpOk.lss rfl rfl) rfl ?_ | refine RunL.ok (OpOk.idx1 rfl ti5 rfl (by first | assumption | (apply Rd.left; first | assumption | (apply Rd.left; first | assumption | (apply Rd.left; first | assumption | (apply Rd.left; first | assumption | (apply Rd.left; first | assumption | (apply Rd.left; first | assumption | (apply Rd.left; first | assumption | (apply Rd.left; first | assumption | (apply Rd.left; first | assumption | (apply Rd.left; first | assumption | (apply Rd.left; first | assumption | (apply Rd.left; first | assumption | (apply Rd.left; first | assumption | (apply Rd.left; assumption))))))))))))))) rfl (by omega) (by omega)) rfl ?_ | refine RunL.ok (OpOk.load rfl rfl rfl (Rd.cell (by first | assumption | (apply Rd.left; first | assumption | (apply Rd.left; first | assumption | (apply Rd.left; first | assumption | (apply Rd.left; first | assumption | (apply Rd.left; first | assumption | (apply Rd.left; first | assumption | (apply Rd.left; first | assumption | (apply Rd.left; first | assumption | (apply Rd.left; first | assumption | (apply Rd.left; first | assumption | (apply Rd.left; first | assumption | (apply Rd.left; first | assumption | (apply Rd.left; first | assumption | (apply Rd.left; assumption))))))))))))))) (B_get (by omega)))) rfl ?_ | refine RunL.ok (OpOk.load rfl rfl rfl (by first | exact Cell.pts rfl | (apply Cell.left; first | exact Cell.pts rfl | (apply Cell.left; first | exact Cell.pts rfl | (apply Cell.left; first | exact Cell.pts rfl | (apply Cell.left; first | exact Cell.pts rfl | (apply Cell.left; first | exact Cell.pts rfl | (apply Cell.left; first | exact Cell.pts rfl | (apply Cell.left; first | exact Cell.pts rfl | (apply Cell.left; exact Cell.pts rfl)))))))))) rfl ?_ | refine RunL.ok (OpOk.convInt rfl rfl rfl (by first | exact wrapI (by omega) (by omega) | exact wrapU8 (by omega) (by omega) | exact wrapU16 (by omega) (by omega) | exact wrapU64 (by omega) (by omega) | exact wrapU8m _ | exact wrapU16m _ | rfl)) rfl ?_ | refine RunL.ok (OpOk.mul rfl rfl (by first | exact wrapI (by omega) (by omega) | exact wrapU8 (by omega) (by omega) | exact wrapU16 (by omega) (by omega) | exact wrapU64 (by omega) (by omega) | exact wrapU8m _ | exact wrapU16m _ | rfl)) rfl ?_ | refine RunL.ok (OpOk.geq rfl rfl) rfl ?_ | refine RunL.ok (OpOk.rem rfl rfl (by decide) (by first | exact tmodI (by omega) | rfl)) rfl ?_ | refine RunL.ok (OpOk.add rfl rfl (by first | exact wrapI (by omega) (by omega) | exact wrapU8 (by omega) (by omega) | exact wrapU16 (by omega) (by omega) | exact wrapU64 (by omega) (by omega) | exact wrapU8m _ | exact wrapU16m _ | rfl)) rfl ?_)
  refine Run.loop (X := Nat) (fun i => [(0, v), (3, .int .i64 ((sum (bs.take i)).toNat : Int)), (4, .int .i64 i)]) (fun _ => A) (fun i => i ≤ m) (fun i => m - i) 0 ⟨rfl, rfl, rfl, trivial⟩ rfl (by omega) (fun i hi ih => ?_)
  repeat (first | refine Run.seq ?_ | refine Run.region ?_ | refine Run.skip ?_ | refine Run.block ?_ | refine Run.inBlock ?_ | refine Run.exit rfl ?_ | refine RunL.nil ?_ | refine RunL.ok (OpOk.assign rfl) rfl ?_ | refine RunL.ok (OpOk.move rfl) rfl ?_ | refine RunL.ok (OpOk.lenR rfl rfl (by first | assumption | (apply Rd.left; first | assumption | (apply Rd.left; first | assumption | (apply Rd.left; first | assumption | (apply Rd.left; first | assumption | (apply Rd.left; first | assumption | (apply Rd.left; first | assumption | (apply Rd.left; first | assumption | (apply Rd.left; first | assumption | (apply Rd.left; first | assumption | (apply Rd.left; first | assumption | (apply Rd.left; first | assumption | (apply Rd.left; first | assumption | (apply Rd.left; first | assumption | (apply Rd.left; assumption))))))))))))))) rfl) rfl ?_ | refine RunL.ok (OpOk.lenV rfl rfl rfl) rfl ?_ | refine RunL.ok (OpOk.lss rfl rfl) rfl ?_ | refine RunL.ok (OpOk.idx1 rfl ti5 rfl (by first | assumption | (apply Rd.left; first | assumption | (apply Rd.left; first | assumption | (apply Rd.left; first | assumption | (apply Rd.left; first | assumption | (apply Rd.left; first | assumption | (apply Rd.left; first | assumption | (apply Rd.left; first | assumption | (apply Rd.left; first | assumption | (apply Rd.left; first | assumption | (apply Rd.left; first | assumption | (apply Rd.left; first | assumption | (apply Rd.left; first | assumption | (apply Rd.left; first | assumption | (apply Rd.left; assumption))))))))))))))) rfl (by omega) (by omega)) rfl ?_ | refine RunL.ok (OpOk.load rfl rfl rfl (Rd.cell (by first | assumption | (apply Rd.left; first | assumption | (apply Rd.left; first | assumption | (apply Rd.left; first | assumption | (apply Rd.left; first | assumption | (apply Rd.left; first | assumption | (apply Rd.left; first | assumption | (apply Rd.left; first | assumption | (apply Rd.left; first | assumption | (apply Rd.left; first | assumption | (apply Rd.left; first | assumption | (apply Rd.left; first | assumption | (apply Rd.left; first | assumption | (apply Rd.left; first | assumption | (apply Rd.left; assumption))))))))))))))) (B_get (by omega)))) rfl ?_ | refine RunL.ok (OpOk.load rfl rfl rfl (by first | exact Cell.pts rfl | (apply Cell.left; first | exact Cell.pts rfl | (apply Cell.left; first | exact Cell.pts rfl | (apply Cell.left; first | exact Cell.pts rfl | (apply Cell.left; first | exact Cell.pts rfl | (apply Cell.left; first | exact Cell.pts rfl | (apply Cell.left; first | exact Cell.pts rfl | (apply Cell.left; first | exact Cell.pts rfl | (apply Cell.left; exact Cell.pts rfl)))))))))) rfl ?_ | refine RunL.ok (OpOk.convInt rfl rfl rfl (by first | exact wrapI (by omega) (by omega) | exact wrapU8 (by omega) (by omega) | exact wrapU16 (by omega) (by omega) | exact wrapU64 (by omega) (by omega) | exact wrapU8m _ | exact wrapU16m _ | rfl)) rfl ?_ | refine RunL.ok (OpOk.mul rfl rfl (by first | exact wrapI (by omega) (by omega) | exact wrapU8 (by omega) (by omega) | exact wrapU16 (by omega) (by omega) | exact wrapU64 (by omega) (by omega) | exact wrapU8m _ | exact wrapU16m _ | rfl)) rfl ?_ | refine RunL.ok (OpOk.geq rfl rfl) rfl ?_ | refine RunL.ok (OpOk.rem rfl rfl (by decide) (by first | exact tmodI (by omega) | rfl)) rfl ?_ | refine RunL.ok (OpOk.add rfl rfl (by first | exact wrapI (by omega) (by omega) | exact wrapU8 (by omega) (by omega) | exact wrapU16 (by omega) (by omega) | exact wrapU64 (by omega) (by omega) | exact wrapU8m _ | exact wrapU16m _ | rfl)) rfl ?_)
  refine Run.condD rfl (fun h2 => ?_) (fun h2 => ?_)
  · have hct := crc_take (s := 65535#16) (xs := bs) (i := i) (by omega)
    generalize hs : sum (bs.take i) = s at *
    have hslt := s.isLt
    repeat (first | refine Run.seq ?_ | refine Run.region ?_ | refine Run.skip ?_ | refine Run.block ?_ | refine Run.inBlock ?_ | refine Run.exit rfl ?_ | refine RunL.nil ?_ | refine RunL.ok (OpOk.assign rfl) rfl ?_ | refine RunL.ok (OpOk.move rfl) rfl ?_ | refine RunL.ok (OpOk.lenR rfl rfl (by first | assumption | (apply Rd.left; first | assumption | (apply Rd.left; first | assumption | (apply Rd.left; first | assumption | (apply Rd.left; first | assumption | (apply Rd.left; first | assumption | (apply Rd.left; first | assumption | (apply Rd.left; first | assumption | (apply Rd.left; first | assumption | (apply Rd.left; first | assumption | (apply Rd.left; first | assumption | (apply Rd.left; first | assumption | (apply Rd.left; first | assumption | (apply Rd.left; first | assumption | (apply Rd.left; assumption))))))))))))))) rfl) rfl ?_ | refine RunL.ok (OpOk.lenV rfl rfl rfl) rfl ?_ | refine RunL.ok (OpOk.lss rfl rfl) rfl ?_ | refine RunL.ok (OpOk.idx1 rfl ti5 rfl (by first | assumption | (apply Rd.left; first | assumption | (apply Rd.left; first | assumption | (apply Rd.left; first | assumption | (apply Rd.left; first | assumption | (apply Rd.left; first | assumption | (apply Rd.left; first | assumption | (apply Rd.left; first | assumption | (apply Rd.left; first | assumption | (apply Rd.left; first | assumption | (apply Rd.left; first | assumption | (apply Rd.left; first | assumption | (apply Rd.left; first | assumption | (apply Rd.left; first | assumption | (apply Rd.left; assumption))))))))))))))) rfl (by omega) (by omega)) rfl ?_ | refine RunL.ok (OpOk.load rfl rfl rfl (Rd.cell (by first | assumption | (apply Rd.left; first | assumption | (apply Rd.left; first | assumption | (apply Rd.left; first | assumption | (apply Rd.left; first | assumption | (apply Rd.left; first | assumption | (apply Rd.left; first | assumption | (apply Rd.left; first | assumption | (apply Rd.left; first | assumption | (apply Rd.left; first | assumption | (apply Rd.left; first | assumption | (apply Rd.left; first | assumption | (apply Rd.left; first | assumption | (apply Rd.left; first | assumption | (apply Rd.left; assumption))))))))))))))) (B_get (by omega)))) rfl ?_ | refine RunL.ok (OpOk.load rfl rfl rfl (by first | exact Cell.pts rfl | (apply Cell.left; first | exact Cell.pts rfl | (apply Cell.left; first | exact Cell.pts rfl | (apply Cell.left; first | exact Cell.pts rfl | (apply Cell.left; first | exact Cell.pts rfl | (apply Cell.left; first | exact Cell.pts rfl | (apply Cell.left; first | exact Cell.pts rfl | (apply Cell.left; first | exact Cell.pts rfl | (apply Cell.left; exact Cell.pts rfl)))))))))) rfl ?_ | refine RunL.ok (OpOk.mul rfl rfl (by first | exact wrapI (by omega) (by omega) | exact wrapU8 (by omega) (by omega) | exact wrapU16 (by omega) (by omega) | exact wrapU64 (by omega) (by omega) | exact wrapU8m _ | exact wrapU16m _ | rfl)) rfl ?_ | refine RunL.ok (OpOk.geq rfl rfl) rfl ?_ | refine RunL.ok (OpOk.rem rfl rfl (by decide) (by first | exact tmodI (by omega) | rfl)) rfl ?_ | refine RunL.ok (OpOk.add rfl rfl (by first | exact wrapI (by omega) (by omega) | exact wrapU8 (by omega) (by omega) | exact wrapU16 (by omega) (by omega) | exact wrapU64 (by omega) (by omega) | exact wrapU8m _ | exact wrapU16m _ | rfl)) rfl ?_)
    simp only [Int.toNat_natCast]
    generalize hx : bs.getD i 0 = x at *
    have hxlt := x.toNat_lt
    repeat (first | refine Run.seq ?_ | refine Run.region ?_ | refine Run.skip ?_ | refine Run.block ?_ | refine Run.inBlock ?_ | refine Run.exit rfl ?_ | refine RunL.nil ?_ | refine RunL.ok (OpOk.assign rfl) rfl ?_ | refine RunL.ok (OpOk.move rfl) rfl ?_ | refine RunL.ok (OpOk.lenR rfl rfl (by first | assumption | (apply Rd.left; first | assumption | (apply Rd.left; first | assumption | (apply Rd.left; first | assumption | (apply Rd.left; first | assumption | (apply Rd.left; first | assumption | (apply Rd.left; first | assumption | (apply Rd.left; first | assumption | (apply Rd.left; first | assumption | (apply Rd.left; first | assumption | (apply Rd.left; first | assumption | (apply Rd.left; first | assumption | (apply Rd.left; first | assumption | (apply Rd.left; first | assumption | (apply Rd.left; assumption))))))))))))))) rfl) rfl ?_ | refine RunL.ok (OpOk.lenV rfl rfl rfl) rfl ?_ | refine RunL.ok (OpOk.lss rfl rfl) rfl ?_ | refine RunL.ok (OpOk.idx1 rfl ti5 rfl (by first | assumption | (apply Rd.left; first | assumption | (apply Rd.left; first | assumption | (apply Rd.left; first | assumption | (apply Rd.left; first | assumption | (apply Rd.left; first | assumption | (apply Rd.left; first | assumption | (apply Rd.left; first | assumption | (apply Rd.left; first | assumption | (apply Rd.left; first | assumption | (apply Rd.left; first | assumption | (apply Rd.left; first | assumption | (apply Rd.left; first | assumption | (apply Rd.left; first | assumption | (apply Rd.left; assumption))))))))))))))) rfl (by omega) (by omega)) rfl ?_ | refine RunL.ok (OpOk.load rfl rfl rfl (Rd.cell (by first | assumption | (apply Rd.left; first | assumption | (apply Rd.left; first | assumption | (apply Rd.left; first | assumption | (apply Rd.left; first | assumption | (apply Rd.left; first | assumption | (apply Rd.left; first | assumption | (apply Rd.left; first | assumption | (apply Rd.left; first | assumption | (apply Rd.left; first | assumption | (apply Rd.left; first | assumption | (apply Rd.left; first | assumption | (apply Rd.left; first | assumption | (apply Rd.left; first | assumption | (apply Rd.left; assumption))))))))))))))) (B_get (by omega)))) rfl ?_ | refine RunL.ok (OpOk.load rfl rfl rfl (by first | exact Cell.pts rfl | (apply Cell.left; first | exact Cell.pts rfl | (apply Cell.left; first | exact Cell.pts rfl | (apply Cell.left; first | exact Cell.pts rfl | (apply Cell.left; first | exact Cell.pts rfl | (apply Cell.left; first | exact Cell.pts rfl | (apply Cell.left; first | exact Cell.pts rfl | (apply Cell.left; first | exact Cell.pts rfl | (apply Cell.left; exact Cell.pts rfl)))))))))) rfl ?_ | refine RunL.ok (OpOk.convInt rfl rfl rfl (by first | exact wrapI (by omega) (by omega) | exact wrapU8 (by omega) (by omega) | exact wrapU16 (by omega) (by omega) | exact wrapU64 (by omega) (by omega) | exact wrapU8m _ | exact wrapU16m _ | rfl)) rfl ?_ | refine RunL.ok (OpOk.mul rfl rfl (by first | exact wrapI (by omega) (by omega) | exact wrapU8 (by omega) (by omega) | exact wrapU16 (by omega) (by omega) | exact wrapU64 (by omega) (by omega) | exact wrapU8m _ | exact wrapU16m _ | rfl)) rfl ?_ | refine RunL.ok (OpOk.geq rfl rfl) rfl ?_ | refine RunL.ok (OpOk.rem rfl rfl (by decide) (by first | exact tmodI (by omega) | rfl)) rfl ?_ | refine RunL.ok (OpOk.add rfl rfl (by first | exact wrapI (by omega) (by omega) | exact wrapU8 (by omega) (by omega) | exact wrapU16 (by omega) (by omega) | exact wrapU64 (by omega) (by omega) | exact wrapU8m _ | exact wrapU16m _ | rfl)) rfl ?_)
    refine RunL.ok (OpOk.xor rfl rfl (r := ((put8 s x).toNat : Int)) ?_) rfl ?_
    · rw [← r_put, ← r_xor _ _ (by omega) (by omega)]
      push_cast
      rfl
    repeat (first | refine Run.seq ?_ | refine Run.region ?_ | refine Run.skip ?_ | refine Run.block ?_ | refine Run.inBlock ?_ | refine Run.exit rfl ?_ | refine RunL.nil ?_ | refine RunL.ok (OpOk.assign rfl) rfl ?_ | refine RunL.ok (OpOk.move rfl) rfl ?_ | refine RunL.ok (OpOk.lenR rfl rfl (by first | assumption | (apply Rd.left; first | assumption | (apply Rd.left; first | assumption | (apply Rd.left; first | assumption | (apply Rd.left; first | assumption | (apply Rd.left; first | assumption | (apply Rd.left; first | assumption | (apply Rd.left; first | assumption | (apply Rd.left; first | assumption | (apply Rd.left; first | assumption | (apply Rd.left; first | assumption | (apply Rd.left; first | assumption | (apply Rd.left; first | assumption | (apply Rd.left; first | assumption | (apply Rd.left; assumption))))))))))))))) rfl) rfl ?_ | refine RunL.ok (OpOk.lenV rfl rfl rfl) rfl ?_ | refine RunL.ok (OpOk.lss rfl rfl) rfl ?_ | refine RunL.ok (OpOk.idx1 rfl ti5 rfl (by first | assumption | (apply Rd.left; first | assumption | (apply Rd.left; first | assumption | (apply Rd.left; first | assumption | (apply Rd.left; first | assumption | (apply Rd.left; first | assumption | (apply Rd.left; first | assumption | (apply Rd.left; first | assumption | (apply Rd.left; first | assumption | (apply Rd.left; first | assumption | (apply Rd.left; first | assumption | (apply Rd.left; first | assumption | (apply Rd.left; first | assumption | (apply Rd.left; first | assumption | (apply Rd.left; assumption))))))))))))))) rfl (by omega) (by omega)) rfl ?_ | refine RunL.ok (OpOk.load rfl rfl rfl (Rd.cell (by first | assumption | (apply Rd.left; first | assumption | (apply Rd.left; first | assumption | (apply Rd.left; first | assumption | (apply Rd.left; first | assumption | (apply Rd.left; first | assumption | (apply Rd.left; first | assumption | (apply Rd.left; first | assumption | (apply Rd.left; first | assumption | (apply Rd.left; first | assumption | (apply Rd.left; first | assumption | (apply Rd.left; first | assumption | (apply Rd.left; first | assumption | (apply Rd.left; first | assumption | (apply Rd.left; assumption))))))))))))))) (B_get (by omega)))) rfl ?_ | refine RunL.ok (OpOk.load rfl rfl rfl (by first | exact Cell.pts rfl | (apply Cell.left; first | exact Cell.pts rfl | (apply Cell.left; first | exact Cell.pts rfl | (apply Cell.left; first | exact Cell.pts rfl | (apply Cell.left; first | exact Cell.pts rfl | (apply Cell.left; first | exact Cell.pts rfl | (apply Cell.left; first | exact Cell.pts rfl | (apply Cell.left; first | exact Cell.pts rfl | (apply Cell.left; exact Cell.pts rfl)))))))))) rfl ?_ | refine RunL.ok (OpOk.convInt rfl rfl rfl (by first | exact wrapI (by omega) (by omega) | exact wrapU8 (by omega) (by omega) | exact wrapU16 (by omega) (by omega) | exact wrapU64 (by omega) (by omega) | exact wrapU8m _ | exact wrapU16m _ | rfl)) rfl ?_ | refine RunL.ok (OpOk.mul rfl rfl (by first | exact wrapI (by omega) (by omega) | exact wrapU8 (by omega) (by omega) | exact wrapU16 (by omega) (by omega) | exact wrapU64 (by omega) (by omega) | exact wrapU8m _ | exact wrapU16m _ | rfl)) rfl ?_ | refine RunL.ok (OpOk.geq rfl rfl) rfl ?_ | refine RunL.ok (OpOk.rem rfl rfl (by decide) (by first | exact tmodI (by omega) | rfl)) rfl ?_ | refine RunL.ok (OpOk.add rfl rfl (by first | exact wrapI (by omega) (by omega) | exact wrapU8 (by omega) (by omega) | exact wrapU16 (by omega) (by omega) | exact wrapU64 (by omega) (by omega) | exact wrapU8m _ | exact wrapU16m _ | rfl)) rfl ?_)
    refine Run.loop (X := Nat) (fun q => [(0, v), (3, .int .i64 ((steps q (put8 s x)).toNat : Int)), (4, .int .i64 i), (5, .int .i64 q)]) (fun _ => A) (fun q => q ≤ 8) (fun q => 8 - q) 0 ⟨rfl, rfl, rfl, rfl, trivial⟩ rfl (by omega) (fun q hq ih3 => ?_)
    repeat (first | refine Run.seq ?_ | refine Run.region ?_ | refine Run.skip ?_ | refine Run.block ?_ | refine Run.inBlock ?_ | refine Run.exit rfl ?_ | refine RunL.nil ?_ | refine RunL.ok (OpOk.assign rfl) rfl ?_ | refine RunL.ok (OpOk.move rfl) rfl ?_ | refine RunL.ok (OpOk.lenR rfl rfl (by first | assumption | (apply Rd.left; first | assumption | (apply Rd.left; first | assumption | (apply Rd.left; first | assumption | (apply Rd.left; first | assumption | (apply Rd.left; first | assumption | (apply Rd.left; first | assumption | (apply Rd.left; first | assumption | (apply Rd.left; first | assumption | (apply Rd.left; first | assumption | (apply Rd.left; first | assumption | (apply Rd.left; first | assumption | (apply Rd.left; first | assumption | (apply Rd.left; first | assumption | (apply Rd.left; assumption))))))))))))))) rfl) rfl ?_ | refine RunL.ok (OpOk.lenV rfl rfl rfl) rfl ?_ | refine RunL.ok (OpOk.lss rfl rfl) rfl ?_ | refine RunL.ok (OpOk.idx1 rfl ti5 rfl (by first | assumption | (apply Rd.left; first | assumption | (apply Rd.left; first | assumption | (apply Rd.left; first | assumption | (apply Rd.left; first | assumption | (apply Rd.left; first | assumption | (apply Rd.left; first | assumption | (apply Rd.left; first | assumption | (apply Rd.left; first | assumption | (apply Rd.left; first | assumption | (apply Rd.left; first | assumption | (apply Rd.left; first | assumption | (apply Rd.left; first | assumption | (apply Rd.left; first | assumption | (apply Rd.left; assumption))))))))))))))) rfl (by omega) (by omega)) rfl ?_ | refine RunL.ok (OpOk.load rfl rfl rfl (Rd.cell (by first | assumption | (apply Rd.left; first | assumption | (apply Rd.left; first | assumption | (apply Rd.left; first | assumption | (apply Rd.left; first | assumption | (apply Rd.left; first | assumption | (apply Rd.left; first | assumption | (apply Rd.left; first | assumption | (apply Rd.left; first | assumption | (apply Rd.left; first | assumption | (apply Rd.left; first | assumption | (apply Rd.left; first | assumption | (apply Rd.left; first | assumption | (apply Rd.left; first | assumption | (apply Rd.left; assumption))))))))))))))) (B_get (by omega)))) rfl ?_ | refine RunL.ok (OpOk.load rfl rfl rfl (by first | exact Cell.pts rfl | (apply Cell.left; first | exact Cell.pts rfl | (apply Cell.left; first | exact Cell.pts rfl | (apply Cell.left; first | exact Cell.pts rfl | (apply Cell.left; first | exact Cell.pts rfl | (apply Cell.left; first | exact Cell.pts rfl | (apply Cell.left; first | exact Cell.pts rfl | (apply Cell.left; first | exact Cell.pts rfl | (apply Cell.left; exact Cell.pts rfl)))))))))) rfl ?_ | refine RunL.ok (OpOk.convInt rfl rfl rfl (by first | exact wrapI (by omega) (by omega) | exact wrapU8 (by omega) (by omega) | exact wrapU16 (by omega) (by omega) | exact wrapU64 (by omega) (by omega) | exact wrapU8m _ | exact wrapU16m _ | rfl)) rfl ?_ | refine RunL.ok (OpOk.mul rfl rfl (by first | exact wrapI (by omega) (by omega) | exact wrapU8 (by omega) (by omega) | exact wrapU16 (by omega) (by omega) | exact wrapU64 (by omega) (by omega) | exact wrapU8m _ | exact wrapU16m _ | rfl)) rfl ?_ | refine RunL.ok (OpOk.geq rfl rfl) rfl ?_ | refine RunL.ok (OpOk.rem rfl rfl (by decide) (by first | exact tmodI (by omega) | rfl)) rfl ?_ | refine RunL.ok (OpOk.add rfl rfl (by first | exact wrapI (by omega) (by omega) | exact wrapU8 (by omega) (by omega) | exact wrapU16 (by omega) (by omega) | exact wrapU64 (by omega) (by omega) | exact wrapU8m _ | exact wrapU16m _ | rfl)) rfl ?_)
    refine Run.condD rfl (fun h4 => ?_) (fun h4 => ?_)
    · generalize ht : steps q (put8 s x) = t at *
      have htl := t.isLt
      repeat (first | refine Run.seq ?_ | refine Run.region ?_ | refine Run.skip ?_ | refine Run.block ?_ | refine Run.inBlock ?_ | refine Run.exit rfl ?_ | refine RunL.nil ?_ | refine RunL.ok (OpOk.assign rfl) rfl ?_ | refine RunL.ok (OpOk.move rfl) rfl ?_ | refine RunL.ok (OpOk.lenR rfl rfl (by first | assumption | (apply Rd.left; first | assumption | (apply Rd.left; first | assumption | (apply Rd.left; first | assumption | (apply Rd.left; first | assumption | (apply Rd.left; first | assumption | (apply Rd.left; first | assumption | (apply Rd.left; first | assumption | (apply Rd.left; first | assumption | (apply Rd.left; first | assumption | (apply Rd.left; first | assumption | (apply Rd.left; first | assumption | (apply Rd.left; first | assumption | (apply Rd.left; first | assumption | (apply Rd.left; assumption))))))))))))))) rfl) rfl ?_ | refine RunL.ok (OpOk.lenV rfl rfl rfl) rfl ?_ | refine RunL.ok (OpOk.lss rfl rfl) rfl ?_ | refine RunL.ok (OpOk.idx1 rfl ti5 rfl (by first | assumption | (apply Rd.left; first | assumption | (apply Rd.left; first | assumption | (apply Rd.left; first | assumption | (apply Rd.left; first | assumption | (apply Rd.left; first | assumption | (apply Rd.left; first | assumption | (apply Rd.left; first | assumption | (apply Rd.left; first | assumption | (apply Rd.left; first | assumption | (apply Rd.left; first | assumption | (apply Rd.left; first | assumption | (apply Rd.left; first | assumption | (apply Rd.left; first | assumption | (apply Rd.left; assumption))))))))))))))) rfl (by omega) (by omega)) rfl ?_ | refine RunL.ok (OpOk.load rfl rfl rfl (Rd.cell (by first | assumption | (apply Rd.left; first | assumption | (apply Rd.left; first | assumption | (apply Rd.left; first | assumption | (apply Rd.left; first | assumption | (apply Rd.left; first | assumption | (apply Rd.left; first | assumption | (apply Rd.left; first | assumption | (apply Rd.left; first | assumption | (apply Rd.left; first | assumption | (apply Rd.left; first | assumption | (apply Rd.left; first | assumption | (apply Rd.left; first | assumption | (apply Rd.left; first | assumption | (apply Rd.left; assumption))))))))))))))) (B_get (by omega)))) rfl ?_ | refine RunL.ok (OpOk.load rfl rfl rfl (by first | exact Cell.pts rfl | (apply Cell.left; first | exact Cell.pts rfl | (apply Cell.left; first | exact Cell.pts rfl | (apply Cell.left; first | exact Cell.pts rfl | (apply Cell.left; first | exact Cell.pts rfl | (apply Cell.left; first | exact Cell.pts rfl | (apply Cell.left; first | exact Cell.pts rfl | (apply Cell.left; first | exact Cell.pts rfl | (apply Cell.left; exact Cell.pts rfl)))))))))) rfl ?_ | refine RunL.ok (OpOk.convInt rfl rfl rfl (by first | exact wrapI (by omega) (by omega) | exact wrapU8 (by omega) (by omega) | exact wrapU16 (by omega) (by omega) | exact wrapU64 (by omega) (by omega) | exact wrapU8m _ | exact wrapU16m _ | rfl)) rfl ?_ | refine RunL.ok (OpOk.mul rfl rfl (by first | exact wrapI (by omega) (by omega) | exact wrapU8 (by omega) (by omega) | exact wrapU16 (by omega) (by omega) | exact wrapU64 (by omega) (by omega) | exact wrapU8m _ | exact wrapU16m _ | rfl)) rfl ?_ | refine RunL.ok (OpOk.geq rfl rfl) rfl ?_ | refine RunL.ok (OpOk.rem rfl rfl (by decide) (by first | exact tmodI (by omega) | rfl)) rfl ?_ | refine RunL.ok (OpOk.add rfl rfl (by first | exact wrapI (by omega) (by omega) | exact wrapU8 (by omega) (by omega) | exact wrapU16 (by omega) (by omega) | exact wrapU64 (by omega) (by omega) | exact wrapU8m _ | exact wrapU16m _ | rfl)) rfl ?_)
      refine Run.condD rfl (fun h5 => ?_) (fun h5 => ?_)
      · repeat (first | refine Run.seq ?_ | refine Run.region ?_ | refine Run.skip ?_ | refine Run.block ?_ | refine Run.inBlock ?_ | refine Run.exit rfl ?_ | refine RunL.nil ?_ | refine RunL.ok (OpOk.assign rfl) rfl ?_ | refine RunL.ok (OpOk.move rfl) rfl ?_ | refine RunL.ok (OpOk.lenR rfl rfl (by first | assumption | (apply Rd.left; first | assumption | (apply Rd.left; first | assumption | (apply Rd.left; first | assumption | (apply Rd.left; first | assumption | (apply Rd.left; first | assumption | (apply Rd.left; first | assumption | (apply Rd.left; first | assumption | (apply Rd.left; first | assumption | (apply Rd.left; first | assumption | (apply Rd.left; first | assumption | (apply Rd.left; first | assumption | (apply Rd.left; first | assumption | (apply Rd.left; first | assumption | (apply Rd.left; assumption))))))))))))))) rfl) rfl ?_ | refine RunL.ok (OpOk.lenV rfl rfl rfl) rfl ?_ | refine RunL.ok (OpOk.lss rfl rfl) rfl ?_ | refine RunL.ok (OpOk.idx1 rfl ti5 rfl (by first | assumption | (apply Rd.left; first | assumption | (apply Rd.left; first | assumption | (apply Rd.left; first | assumption | (apply Rd.left; first | assumption | (apply Rd.left; first | assumption | (apply Rd.left; first | assumption | (apply Rd.left; first | assumption | (apply Rd.left; first | assumption | (apply Rd.left; first | assumption | (apply Rd.left; first | assumption | (apply Rd.left; first | assumption | (apply Rd.left; first | assumption | (apply Rd.left; first | assumption | (apply Rd.left; assumption))))))))))))))) rfl (by omega) (by omega)) rfl ?_ | refine RunL.ok (OpOk.load rfl rfl rfl (Rd.cell (by first | assumption | (apply Rd.left; first | assumption | (apply Rd.left; first | assumption | (apply Rd.left; first | assumption | (apply Rd.left; first | assumption | (apply Rd.left; first | assumption | (apply Rd.left; first | assumption | (apply Rd.left; first | assumption | (apply Rd.left; first | assumption | (apply Rd.left; first | assumption | (apply Rd.left; first | assumption | (apply Rd.left; first | assumption | (apply Rd.left; first | assumption | (apply Rd.left; first | assumption | (apply Rd.left; assumption))))))))))))))) (B_get (by omega)))) rfl ?_ | refine RunL.ok (OpOk.load rfl rfl rfl (by first | exact Cell.pts rfl | (apply Cell.left; first | exact Cell.pts rfl | (apply Cell.left; first | exact Cell.pts rfl | (apply Cell.left; first | exact Cell.pts rfl | (apply Cell.left; first | exact Cell.pts rfl | (apply Cell.left; first | exact Cell.pts rfl | (apply Cell.left; first | exact Cell.pts rfl | (apply Cell.left; first | exact Cell.pts rfl | (apply Cell.left; exact Cell.pts rfl)))))))))) rfl ?_ | refine RunL.ok (OpOk.convInt rfl rfl rfl (by first | exact wrapI (by omega) (by omega) | exact wrapU8 (by omega) (by omega) | exact wrapU16 (by omega) (by omega) | exact wrapU64 (by omega) (by omega) | exact wrapU8m _ | exact wrapU16m _ | rfl)) rfl ?_ | refine RunL.ok (OpOk.mul rfl rfl (by first | exact wrapI (by omega) (by omega) | exact wrapU8 (by omega) (by omega) | exact wrapU16 (by omega) (by omega) | exact wrapU64 (by omega) (by omega) | exact wrapU8m _ | exact wrapU16m _ | rfl)) rfl ?_ | refine RunL.ok (OpOk.geq rfl rfl) rfl ?_ | refine RunL.ok (OpOk.rem rfl rfl (by decide) (by first | exact tmodI (by omega) | rfl)) rfl ?_ | refine RunL.ok (OpOk.add rfl rfl (by first | exact wrapI (by omega) (by omega) | exact wrapU8 (by omega) (by omega) | exact wrapU16 (by omega) (by omega) | exact wrapU64 (by omega) (by omega) | exact wrapU8m _ | exact wrapU16m _ | rfl)) rfl ?_)
        refine RunL.ok (OpOk.xor rfl rfl (r := (((2 * t.toNat) ^^^ 4129 : Nat) : Int)) ?_) rfl ?_
        · rw [← r_xor _ _ (by omega) (by omega)]
          push_cast
          rfl
        repeat (first | refine Run.seq ?_ | refine Run.region ?_ | refine Run.skip ?_ | refine Run.block ?_ | refine Run.inBlock ?_ | refine Run.exit rfl ?_ | refine RunL.nil ?_ | refine RunL.ok (OpOk.assign rfl) rfl ?_ | refine RunL.ok (OpOk.move rfl) rfl ?_ | refine RunL.ok (OpOk.lenR rfl rfl (by first | assumption | (apply Rd.left; first | assumption | (apply Rd.left; first | assumption | (apply Rd.left; first | assumption | (apply Rd.left; first | assumption | (apply Rd.left; first | assumption | (apply Rd.left; first | assumption | (apply Rd.left; first | assumption | (apply Rd.left; first | assumption | (apply Rd.left; first | assumption | (apply Rd.left; first | assumption | (apply Rd.left; first | assumption | (apply Rd.left; first | assumption | (apply Rd.left; first | assumption | (apply Rd.left; assumption))))))))))))))) rfl) rfl ?_ | refine RunL.ok (OpOk.lenV rfl rfl rfl) rfl ?_ | refine RunL.ok (OpOk.lss rfl rfl) rfl ?_ | refine RunL.ok (OpOk.idx1 rfl ti5 rfl (by first | assumption | (apply Rd.left; first | assumption | (apply Rd.left; first | assumption | (apply Rd.left; first | assumption | (apply Rd.left; first | assumption | (apply Rd.left; first | assumption | (apply Rd.left; first | assumption | (apply Rd.left; first | assumption | (apply Rd.left; first | assumption | (apply Rd.left; first | assumption | (apply Rd.left; first | assumption | (apply Rd.left; first | assumption | (apply Rd.left; first | assumption | (apply Rd.left; first | assumption | (apply Rd.left; assumption))))))))))))))) rfl (by omega) (by omega)) rfl ?_ | refine RunL.ok (OpOk.load rfl rfl rfl (Rd.cell (by first | assumption | (apply Rd.left; first | assumption | (apply Rd.left; first | assumption | (apply Rd.left; first | assumption | (apply Rd.left; first | assumption | (apply Rd.left; first | assumption | (apply Rd.left; first | assumption | (apply Rd.left; first | assumption | (apply Rd.left; first | assumption | (apply Rd.left; first | assumption | (apply Rd.left; first | assumption | (apply Rd.left; first | assumption | (apply Rd.left; first | assumption | (apply Rd.left; first | assumption | (apply Rd.left; assumption))))))))))))))) (B_get (by omega)))) rfl ?_ | refine RunL.ok (OpOk.load rfl rfl rfl (by first | exact Cell.pts rfl | (apply Cell.left; first | exact Cell.pts rfl | (apply Cell.left; first | exact Cell.pts rfl | (apply Cell.left; first | exact Cell.pts rfl | (apply Cell.left; first | exact Cell.pts rfl | (apply Cell.left; first | exact Cell.pts rfl | (apply Cell.left; first | exact Cell.pts rfl | (apply Cell.left; first | exact Cell.pts rfl | (apply Cell.left; exact Cell.pts rfl)))))))))) rfl ?_ | refine RunL.ok (OpOk.convInt rfl rfl rfl (by first | exact wrapI (by omega) (by omega) | exact wrapU8 (by omega) (by omega) | exact wrapU16 (by omega) (by omega) | exact wrapU64 (by omega) (by omega) | exact wrapU8m _ | exact wrapU16m _ | rfl)) rfl ?_ | refine RunL.ok (OpOk.mul rfl rfl (by first | exact wrapI (by omega) (by omega) | exact wrapU8 (by omega) (by omega) | exact wrapU16 (by omega) (by omega) | exact wrapU64 (by omega) (by omega) | exact wrapU8m _ | exact wrapU16m _ | rfl)) rfl ?_ | refine RunL.ok (OpOk.geq rfl rfl) rfl ?_ | refine RunL.ok (OpOk.add rfl rfl (by first | exact wrapI (by omega) (by omega) | exact wrapU8 (by omega) (by omega) | exact wrapU16 (by omega) (by omega) | exact wrapU64 (by omega) (by omega) | exact wrapU8m _ | exact wrapU16m _ | rfl)) rfl ?_)
        refine RunL.ok (OpOk.rem (j := 65536) rfl rfl (by decide) (r := ((step1 t).toNat : Int)) ?_) rfl ?_
        · rw [tmodI (by omega), ← r_step_hi t (by omega), Int.natCast_emod]
          rfl
        repeat (first | refine Run.seq ?_ | refine Run.region ?_ | refine Run.skip ?_ | refine Run.block ?_ | refine Run.inBlock ?_ | refine Run.exit rfl ?_ | refine RunL.nil ?_ | refine RunL.ok (OpOk.assign rfl) rfl ?_ | refine RunL.ok (OpOk.move rfl) rfl ?_ | refine RunL.ok (OpOk.lenR rfl rfl (by first | assumption | (apply Rd.left; first | assumption | (apply Rd.left; first | assumption | (apply Rd.left; first | assumption | (apply Rd.left; first | assumption | (apply Rd.left; first | assumption | (apply Rd.left; first | assumption | (apply Rd.left; first | assumption | (apply Rd.left; first | assumption | (apply Rd.left; first | assumption | (apply Rd.left; first | assumption | (apply Rd.left; first | assumption | (apply Rd.left; first | assumption | (apply Rd.left; first | assumption | (apply Rd.left; assumption))))))))))))))) rfl) rfl ?_ | refine RunL.ok (OpOk.lenV rfl rfl rfl) rfl ?_ | refine RunL.ok (OpOk.lss rfl rfl) rfl ?_ | refine RunL.ok (OpOk.idx1 rfl ti5 rfl (by first | assumption | (apply Rd.left; first | assumption | (apply Rd.left; first | assumption | (apply Rd.left; first | assumption | (apply Rd.left; first | assumption | (apply Rd.left; first | assumption | (apply Rd.left; first | assumption | (apply Rd.left; first | assumption | (apply Rd.left; first | assumption | (apply Rd.left; first | assumption | (apply Rd.left; first | assumption | (apply Rd.left; first | assumption | (apply Rd.left; first | assumption | (apply Rd.left; first | assumption | (apply Rd.left; assumption))))))))))))))) rfl (by omega) (by omega)) rfl ?_ | refine RunL.ok (OpOk.load rfl rfl rfl (Rd.cell (by first | assumption | (apply Rd.left; first | assumption | (apply Rd.left; first | assumption | (apply Rd.left; first | assumption | (apply Rd.left; first | assumption | (apply Rd.left; first | assumption | (apply Rd.left; first | assumption | (apply Rd.left; first | assumption | (apply Rd.left; first | assumption | (apply Rd.left; first | assumption | (apply Rd.left; first | assumption | (apply Rd.left; first | assumption | (apply Rd.left; first | assumption | (apply Rd.left; first | assumption | (apply Rd.left; assumption))))))))))))))) (B_get (by omega)))) rfl ?_ | refine RunL.ok (OpOk.load rfl rfl rfl (by first | exact Cell.pts rfl | (apply Cell.left; first | exact Cell.pts rfl | (apply Cell.left; first | exact Cell.pts rfl | (apply Cell.left; first | exact Cell.pts rfl | (apply Cell.left; first | exact Cell.pts rfl | (apply Cell.left; first | exact Cell.pts rfl | (apply Cell.left; first | exact Cell.pts rfl | (apply Cell.left; first | exact Cell.pts rfl | (apply Cell.left; exact Cell.pts rfl)))))))))) rfl ?_ | refine RunL.ok (OpOk.convInt rfl rfl rfl (by first | exact wrapI (by omega) (by omega) | exact wrapU8 (by omega) (by omega) | exact wrapU16 (by omega) (by omega) | exact wrapU64 (by omega) (by omega) | exact wrapU8m _ | exact wrapU16m _ | rfl)) rfl ?_ | refine RunL.ok (OpOk.mul rfl rfl (by first | exact wrapI (by omega) (by omega) | exact wrapU8 (by omega) (by omega) | exact wrapU16 (by omega) (by omega) | exact wrapU64 (by omega) (by omega) | exact wrapU8m _ | exact wrapU16m _ | rfl)) rfl ?_ | refine RunL.ok (OpOk.geq rfl rfl) rfl ?_ | refine RunL.ok (OpOk.rem rfl rfl (by decide) (by first | exact tmodI (by omega) | rfl)) rfl ?_ | refine RunL.ok (OpOk.add rfl rfl (by first | exact wrapI (by omega) (by omega) | exact wrapU8 (by omega) (by omega) | exact wrapU16 (by omega) (by omega) | exact wrapU64 (by omega) (by omega) | exact wrapU8m _ | exact wrapU16m _ | rfl)) rfl ?_)
        exact Run.env [(0, v), (3, .int .i64 ((steps (q + 1) (put8 s x)).toNat : Int)), (4, .int .i64 i), (5, .int .i64 ((q + 1 : Nat) : Int))] ⟨rfl, by subst ht; rfl, rfl, rfl, trivial⟩ (ih3 (q + 1) (by omega) (by omega))
      · repeat (first | refine Run.seq ?_ | refine Run.region ?_ | refine Run.skip ?_ | refine Run.block ?_ | refine Run.inBlock ?_ | refine Run.exit rfl ?_ | refine RunL.nil ?_ | refine RunL.ok (OpOk.assign rfl) rfl ?_ | refine RunL.ok (OpOk.move rfl) rfl ?_ | refine RunL.ok (OpOk.lenR rfl rfl (by first | assumption | (apply Rd.left; first | assumption | (apply Rd.left; first | assumption | (apply Rd.left; first | assumption | (apply Rd.left; first | assumption | (apply Rd.left; first | assumption | (apply Rd.left; first | assumption | (apply Rd.left; first | assumption | (apply Rd.left; first | assumption | (apply Rd.left; first | assumption | (apply Rd.left; first | assumption | (apply Rd.left; first | assumption | (apply Rd.left; first | assumption | (apply Rd.left; first | assumption | (apply Rd.left; assumption))))))))))))))) rfl) rfl ?_ | refine RunL.ok (OpOk.lenV rfl rfl rfl) rfl ?_ | refine RunL.ok (OpOk.lss rfl rfl) rfl ?_ | refine RunL.ok (OpOk.idx1 rfl ti5 rfl (by first | assumption | (apply Rd.left; first | assumption | (apply Rd.left; first | assumption | (apply Rd.left; first | assumption | (apply Rd.left; first | assumption | (apply Rd.left; first | assumption | (apply Rd.left; first | assumption | (apply Rd.left; first | assumption | (apply Rd.left; first | assumption | (apply Rd.left; first | assumption | (apply Rd.left; first | assumption | (apply Rd.left; first | assumption | (apply Rd.left; first | assumption | (apply Rd.left; first | assumption | (apply Rd.left; assumption))))))))))))))) rfl (by omega) (by omega)) rfl ?_ | refine RunL.ok (OpOk.load rfl rfl rfl (Rd.cell (by first | assumption | (apply Rd.left; first | assumption | (apply Rd.left; first | assumption | (apply Rd.left; first | assumption | (apply Rd.left; first | assumption | (apply Rd.left; first | assumption | (apply Rd.left; first | assumption | (apply Rd.left; first | assumption | (apply Rd.left; first | assumption | (apply Rd.left; first | assumption | (apply Rd.left; first | assumption | (apply Rd.left; first | assumption | (apply Rd.left; first | assumption | (apply Rd.left; first | assumption | (apply Rd.left; assumption))))))))))))))) (B_get (by omega)))) rfl ?_ | refine RunL.ok (OpOk.load rfl rfl rfl (by first | exact Cell.pts rfl | (apply Cell.left; first | exact Cell.pts rfl | (apply Cell.left; first | exact Cell.pts rfl | (apply Cell.left; first | exact Cell.pts rfl | (apply Cell.left; first | exact Cell.pts rfl | (apply Cell.left; first | exact Cell.pts rfl | (apply Cell.left; first | exact Cell.pts rfl | (apply Cell.left; first | exact Cell.pts rfl | (apply Cell.left; exact Cell.pts rfl)))))))))) rfl ?_ | refine RunL.ok (OpOk.convInt rfl rfl rfl (by first | exact wrapI (by omega) (by omega) | exact wrapU8 (by omega) (by omega) | exact wrapU16 (by omega) (by omega) | exact wrapU64 (by omega) (by omega) | exact wrapU8m _ | exact wrapU16m _ | rfl)) rfl ?_ | refine RunL.ok (OpOk.mul rfl rfl (by first | exact wrapI (by omega) (by omega) | exact wrapU8 (by omega) (by omega) | exact wrapU16 (by omega) (by omega) | exact wrapU64 (by omega) (by omega) | exact wrapU8m _ | exact wrapU16m _ | rfl)) rfl ?_ | refine RunL.ok (OpOk.geq rfl rfl) rfl ?_ | refine RunL.ok (OpOk.add rfl rfl (by first | exact wrapI (by omega) (by omega) | exact wrapU8 (by omega) (by omega) | exact wrapU16 (by omega) (by omega) | exact wrapU64 (by omega) (by omega) | exact wrapU8m _ | exact wrapU16m _ | rfl)) rfl ?_)
        refine RunL.ok (OpOk.rem (j := 65536) rfl rfl (by decide) (r := ((step1 t).toNat : Int)) ?_) rfl ?_
        · rw [tmodI (by omega), ← r_step_lo t (by omega), Int.natCast_emod, Int.natCast_mul]
          rfl
        repeat (first | refine Run.seq ?_ | refine Run.region ?_ | refine Run.skip ?_ | refine Run.block ?_ | refine Run.inBlock ?_ | refine Run.exit rfl ?_ | refine RunL.nil ?_ | refine RunL.ok (OpOk.assign rfl) rfl ?_ | refine RunL.ok (OpOk.move rfl) rfl ?_ | refine RunL.ok (OpOk.lenR rfl rfl (by first | assumption | (apply Rd.left; first | assumption | (apply Rd.left; first | assumption | (apply Rd.left; first | assumption | (apply Rd.left; first | assumption | (apply Rd.left; first | assumption | (apply Rd.left; first | assumption | (apply Rd.left; first | assumption | (apply Rd.left; first | assumption | (apply Rd.left; first | assumption | (apply Rd.left; first | assumption | (apply Rd.left; first | assumption | (apply Rd.left; first | assumption | (apply Rd.left; first | assumption | (apply Rd.left; assumption))))))))))))))) rfl) rfl ?_ | refine RunL.ok (OpOk.lenV rfl rfl rfl) rfl ?_ | refine RunL.ok (OpOk.lss rfl rfl) rfl ?_ | refine RunL.ok (OpOk.idx1 rfl ti5 rfl (by first | assumption | (apply Rd.left; first | assumption | (apply Rd.left; first | assumption | (apply Rd.left; first | assumption | (apply Rd.left; first | assumption | (apply Rd.left; first | assumption | (apply Rd.left; first | assumption | (apply Rd.left; first | assumption | (apply Rd.left; first | assumption | (apply Rd.left; first | assumption | (apply Rd.left; first | assumption | (apply Rd.left; first | assumption | (apply Rd.left; first | assumption | (apply Rd.left; first | assumption | (apply Rd.left; assumption))))))))))))))) rfl (by omega) (by omega)) rfl ?_ | refine RunL.ok (OpOk.load rfl rfl rfl (Rd.cell (by first | assumption | (apply Rd.left; first | assumption | (apply Rd.left; first | assumption | (apply Rd.left; first | assumption | (apply Rd.left; first | assumption | (apply Rd.left; first | assumption | (apply Rd.left; first | assumption | (apply Rd.left; first | assumption | (apply Rd.left; first | assumption | (apply Rd.left; first | assumption | (apply Rd.left; first | assumption | (apply Rd.left; first | assumption | (apply Rd.left; first | assumption | (apply Rd.left; first | assumption | (apply Rd.left; assumption))))))))))))))) (B_get (by omega)))) rfl ?_ | refine RunL.ok (OpOk.load rfl rfl rfl (by first | exact Cell.pts rfl | (apply Cell.left; first | exact Cell.pts rfl | (apply Cell.left; first | exact Cell.pts rfl | (apply Cell.left; first | exact Cell.pts rfl | (apply Cell.left; first | exact Cell.pts rfl | (apply Cell.left; first | exact Cell.pts rfl | (apply Cell.left; first | exact Cell.pts rfl | (apply Cell.left; first | exact Cell.pts rfl | (apply Cell.left; exact Cell.pts rfl)))))))))) rfl ?_ | refine RunL.ok (OpOk.convInt rfl rfl rfl (by first | exact wrapI (by omega) (by omega) | exact wrapU8 (by omega) (by omega) | exact wrapU16 (by omega) (by omega) | exact wrapU64 (by omega) (by omega) | exact wrapU8m _ | exact wrapU16m _ | rfl)) rfl ?_ | refine RunL.ok (OpOk.mul rfl rfl (by first | exact wrapI (by omega) (by omega) | exact wrapU8 (by omega) (by omega) | exact wrapU16 (by omega) (by omega) | exact wrapU64 (by omega) (by omega) | exact wrapU8m _ | exact wrapU16m _ | rfl)) rfl ?_ | refine RunL.ok (OpOk.geq rfl rfl) rfl ?_ | refine RunL.ok (OpOk.rem rfl rfl (by decide) (by first | exact tmodI (by omega) | rfl)) rfl ?_ | refine RunL.ok (OpOk.add rfl rfl (by first | exact wrapI (by omega) (by omega) | exact wrapU8 (by omega) (by omega) | exact wrapU16 (by omega) (by omega) | exact wrapU64 (by omega) (by omega) | exact wrapU8m _ | exact wrapU16m _ | rfl)) rfl ?_)
        exact Run.env [(0, v), (3, .int .i64 ((steps (q + 1) (put8 s x)).toNat : Int)), (4, .int .i64 i), (5, .int .i64 ((q + 1 : Nat) : Int))] ⟨rfl, by subst ht; rfl, rfl, rfl, trivial⟩ (ih3 (q + 1) (by omega) (by omega))
    · have hq8 : q = 8 := by omega
      subst hq8
      repeat (first | refine Run.seq ?_ | refine Run.region ?_ | refine Run.skip ?_ | refine Run.block ?_ | refine Run.inBlock ?_ | refine Run.exit rfl ?_ | refine RunL.nil ?_ | refine RunL.ok (OpOk.assign rfl) rfl ?_ | refine RunL.ok (OpOk.move rfl) rfl ?_ | refine RunL.ok (OpOk.lenR rfl rfl (by first | assumption | (apply Rd.left; first | assumption | (apply Rd.left; first | assumption | (apply Rd.left; first | assumption | (apply Rd.left; first | assumption | (apply Rd.left; first | assumption | (apply Rd.left; first | assumption | (apply Rd.left; first | assumption | (apply Rd.left; first | assumption | (apply Rd.left; first | assumption | (apply Rd.left; first | assumption | (apply Rd.left; first | assumption | (apply Rd.left; first | assumption | (apply Rd.left; first | assumption | (apply Rd.left; assumption))))))))))))))) rfl) rfl ?_ | refine RunL.ok (OpOk.lenV rfl rfl rfl) rfl ?_ | refine RunL.ok (OpOk.lss rfl rfl) rfl ?_ | refine RunL.ok (OpOk.idx1 rfl ti5 rfl (by first | assumption | (apply Rd.left; first | assumption | (apply Rd.left; first | assumption | (apply Rd.left; first | assumption | (apply Rd.left; first | assumption | (apply Rd.left; first | assumption | (apply Rd.left; first | assumption | (apply Rd.left; first | assumption | (apply Rd.left; first | assumption | (apply Rd.left; first | assumption | (apply Rd.left; first | assumption | (apply Rd.left; first | assumption | (apply Rd.left; first | assumption | (apply Rd.left; first | assumption | (apply Rd.left; assumption))))))))))))))) rfl (by omega) (by omega)) rfl ?_ | refine RunL.ok (OpOk.load rfl rfl rfl (Rd.cell (by first | assumption | (apply Rd.left; first | assumption | (apply Rd.left; first | assumption | (apply Rd.left; first | assumption | (apply Rd.left; first | assumption | (apply Rd.left; first | assumption | (apply Rd.left; first | assumption | (apply Rd.left; first | assumption | (apply Rd.left; first | assumption | (apply Rd.left; first | assumption | (apply Rd.left; first | assumption | (apply Rd.left; first | assumption | (apply Rd.left; first | assumption | (apply Rd.left; first | assumption | (apply Rd.left; assumption))))))))))))))) (B_get (by omega)))) rfl ?_ | refine RunL.ok (OpOk.load rfl rfl rfl (by first | exact Cell.pts rfl | (apply Cell.left; first | exact Cell.pts rfl | (apply Cell.left; first | exact Cell.pts rfl | (apply Cell.left; first | exact Cell.pts rfl | (apply Cell.left; first | exact Cell.pts rfl | (apply Cell.left; first | exact Cell.pts rfl | (apply Cell.left; first | exact Cell.pts rfl | (apply Cell.left; first | exact Cell.pts rfl | (apply Cell.left; exact Cell.pts rfl)))))))))) rfl ?_ | refine RunL.ok (OpOk.convInt rfl rfl rfl (by first | exact wrapI (by omega) (by omega) | exact wrapU8 (by omega) (by omega) | exact wrapU16 (by omega) (by omega) | exact wrapU64 (by omega) (by omega) | exact wrapU8m _ | exact wrapU16m _ | rfl)) rfl ?_ | refine RunL.ok (OpOk.mul rfl rfl (by first | exact wrapI (by omega) (by omega) | exact wrapU8 (by omega) (by omega) | exact wrapU16 (by omega) (by omega) | exact wrapU64 (by omega) (by omega) | exact wrapU8m _ | exact wrapU16m _ | rfl)) rfl ?_ | refine RunL.ok (OpOk.geq rfl rfl) rfl ?_ | refine RunL.ok (OpOk.rem rfl rfl (by decide) (by first | exact tmodI (by omega) | rfl)) rfl ?_ | refine RunL.ok (OpOk.add rfl rfl (by first | exact wrapI (by omega) (by omega) | exact wrapU8 (by omega) (by omega) | exact wrapU16 (by omega) (by omega) | exact wrapU64 (by omega) (by omega) | exact wrapU8m _ | exact wrapU16m _ | rfl)) rfl ?_)
      refine Run.env [(0, v), (3, .int .i64 ((sum (bs.take (i + 1))).toNat : Int)), (4, .int .i64 ((i + 1 : Nat) : Int))] ⟨rfl, ?_, rfl, trivial⟩ (ih (i + 1) (by omega) (by omega))
      have : sum (bs.take (i + 1)) = crcB s x := by rw [← hs]; exact hct
      rw [this]
      rfl
  · have hi2 : i = m := by omega
    rw [List.take_of_length_le (by omega)]
    repeat (first | refine Run.seq ?_ | refine Run.region ?_ | refine Run.skip ?_ | refine Run.block ?_ | refine Run.inBlock ?_ | refine Run.exit rfl ?_ | refine RunL.nil ?_ | refine RunL.ok (OpOk.assign rfl) rfl ?_ | refine RunL.ok (OpOk.move rfl) rfl ?_ | refine RunL.ok (OpOk.lenR rfl rfl (by first | assumption | (apply Rd.left; first | assumption | (apply Rd.left; first | assumption | (apply Rd.left; first | assumption | (apply Rd.left; first | assumption | (apply Rd.left; first | assumption | (apply Rd.left; first | assumption | (apply Rd.left; first | assumption | (apply Rd.left; first | assumption | (apply Rd.left; first | assumption | (apply Rd.left; first | assumption | (apply Rd.left; first | assumption | (apply Rd.left; first | assumption | (apply Rd.left; first | assumption | (apply Rd.left; assumption))))))))))))))) rfl) rfl ?_ | refine RunL.ok (OpOk.lenV rfl rfl rfl) rfl ?_ | refine RunL.ok (OpOk.lss rfl rfl) rfl ?_ | refine RunL.ok (OpOk.idx1 rfl ti5 rfl (by first | assumption | (apply Rd.left; first | assumption | (apply Rd.left; first | assumption | (apply Rd.left; first | assumption | (apply Rd.left; first | assumption | (apply Rd.left; first | assumption | (apply Rd.left; first | assumption | (apply Rd.left; first | assumption | (apply Rd.left; first | assumption | (apply Rd.left; first | assumption | (apply Rd.left; first | assumption | (apply Rd.left; first | assumption | (apply Rd.left; first | assumption | (apply Rd.left; first | assumption | (apply Rd.left; assumption))))))))))))))) rfl (by omega) (by omega)) rfl ?_ | refine RunL.ok (OpOk.load rfl rfl rfl (Rd.cell (by first | assumption | (apply Rd.left; first | assumption | (apply Rd.left; first | assumption | (apply Rd.left; first | assumption | (apply Rd.left; first | assumption | (apply Rd.left; first | assumption | (apply Rd.left; first | assumption | (apply Rd.left; first | assumption | (apply Rd.left; first | assumption | (apply Rd.left; first | assumption | (apply Rd.left; first | assumption | (apply Rd.left; first | assumption | (apply Rd.left; first | assumption | (apply Rd.left; first | assumption | (apply Rd.left; assumption))))))))))))))) (B_get (by omega)))) rfl ?_ | refine RunL.ok (OpOk.load rfl rfl rfl (by first | exact Cell.pts rfl | (apply Cell.left; first | exact Cell.pts rfl | (apply Cell.left; first | exact Cell.pts rfl | (apply Cell.left; first | exact Cell.pts rfl | (apply Cell.left; first | exact Cell.pts rfl | (apply Cell.left; first | exact Cell.pts rfl | (apply Cell.left; first | exact Cell.pts rfl | (apply Cell.left; first | exact Cell.pts rfl | (apply Cell.left; exact Cell.pts rfl)))))))))) rfl ?_ | refine RunL.ok (OpOk.convInt rfl rfl rfl (by first | exact wrapI (by omega) (by omega) | exact wrapU8 (by omega) (by omega) | exact wrapU16 (by omega) (by omega) | exact wrapU64 (by omega) (by omega) | exact wrapU8m _ | exact wrapU16m _ | rfl)) rfl ?_ | refine RunL.ok (OpOk.mul rfl rfl (by first | exact wrapI (by omega) (by omega) | exact wrapU8 (by omega) (by omega) | exact wrapU16 (by omega) (by omega) | exact wrapU64 (by omega) (by omega) | exact wrapU8m _ | exact wrapU16m _ | rfl)) rfl ?_ | refine RunL.ok (OpOk.geq rfl rfl) rfl ?_ | refine RunL.ok (OpOk.rem rfl rfl (by decide) (by first | exact tmodI (by omega) | rfl)) rfl ?_ | refine RunL.ok (OpOk.add rfl rfl (by first | exact wrapI (by omega) (by omega) | exact wrapU8 (by omega) (by omega) | exact wrapU16 (by omega) (by omega) | exact wrapU64 (by omega) (by omega) | exact wrapU8m _ | exact wrapU16m _ | rfl)) rfl ?_)
    exact Run.ret1 Try.func79 rfl rfl ⟨rfl, rfl⟩
theorem s79 {w0 : World} {A : Asn} {v : Value} {m : Nat} {bs : List UInt8} (rd : Rd w0 A v 1 m (B bs)) :
    Spec Try.prog w0 79 [v] A (fun v' A' => v' = .int .i64 ((sum bs).toNat : Int) ∧ A' = A) := refsum_spec rd
theorem Fl_encV {β : Type} (l : List (Value × β)) : Fl encV l = l.map Prod.fst := by
  induction l with
  | nil => rfl
  | cons p r ih => rw [show Fl encV (p :: r) = p.1 :: Fl encV r from rfl, ih, List.map_cons]
theorem flatB_flatten (ls : List (Value × List UInt8)) : (ls.map Prod.snd).flatten = flatB ls := rfl
theorem two_bytes (xs : List UInt8) : [Value.int .u8 (((sum xs).toNat / 2 ^ 8 : Nat) : Int), Value.int .u8 (((sum xs).toNat : Int) % 256)] = B [hiB xs, loB xs] := by
  have hlt := sum_lt xs
  have e1 : (hiB xs).toNat = (sum xs).toNat / 2 ^ 8 := by
    simp only [hiB, UInt8.toNat_ofNat']
    omega
  have e2 : (((loB xs).toNat : Nat) : Int) = ((sum xs).toNat : Int) % 256 := by
    simp only [loB, UInt8.toNat_ofNat']
    omega
  simp only [B, List.map_cons, List.map_nil, e1, e2]
section
variable {w0 : World} {A : Asn}
theorem s116 {u : Value} {m : Nat} {ls : List (Value × List UInt8)} (rd : Rd w0 A u 1 m (Fl encV ls)) (al : Alls (GB w0) A ls) : Spec Try.prog w0 116 [u] A (fun v' A' => v' = .int .i64 ((sum (flatB ls)).toNat : Int) ∧ A' = A) := by
  have hl := rd.lenFl (fun _ => rfl) (by decide)
  subst hl
  rw [Fl_encV] at rd
  have h := sum_spec (bss := ls.map Prod.snd) (vs := ls.map Prod.fst) (by rw [List.length_map]; exact rd) ⟨by simp, fun i hi => by
    rw [List.length_map] at hi
    have := al.get hi
    have e1 : (ls.map Prod.fst).getD i (.bool false) = (ls.getD i default).1 := by
      rw [List.getD_eq_getElem?_getD, List.getD_eq_getElem?_getD, List.getElem?_map, List.getElem?_eq_getElem hi]; rfl
    have e2 : (ls.map Prod.snd).getD i [] = (ls.getD i default).2 := by
      rw [List.getD_eq_getElem?_getD, List.getD_eq_getElem?_getD, List.getElem?_map, List.getElem?_eq_getElem hi]; rfl
    rw [e1, e2]
    exact this⟩
  rw [flatB_flatten] at h
  exact h
theorem s116a {u v : Value} {bs : List UInt8} (rd : Rd w0 A u 1 1 (Fl encV [(v, bs)])) (rdv : Rd w0 A v 1 bs.length (B bs)) : Spec Try.prog w0 116 [u] A (fun v' A' => v' = .int .i64 ((sum bs).toNat : Int) ∧ A' = A) := by
  have h := s116 rd (Alls.cons rdv Alls.nil)
  rw [show flatB [(v, bs)] = bs by simp [flatB]] at h
  exact h
theorem s110 {u : Value} {m : Nat} {ls : List (Value × List UInt8)} (rd : Rd w0 A u 1 m (Fl encV ls)) (al : Alls (GB w0) A ls) (hm : (flatB ls).length + 2 ≤ 140737488355328) : Spec Try.prog w0 110 [u] A (fun v' A' => ∃ J, A' = A * J * own 5 1 v' ((flatB ls).length + 2) (B (sealed (flatB ls)))) := by
  have hlt := sum_lt (flatB ls)
  refine Spec.of_run [(0, u)] Try.func110 rfl (Nat.le_of_ble_eq_true rfl) (by repeat (first | exact trivial | refine ⟨rfl, ?_⟩)) ?_
  refine Run.seq ?_
  refine Run.region ?_
  refine RunL.ok (OpOk.assign rfl) rfl ?_
  refine RunL.nil ?_
  refine Run.seq ?_
  refine Run.region ?_
  refine RunL.ok (OpOk.move rfl) rfl ?_
  refine RunL.call cal78 rfl (s78 rd al (by omega)) rfl (fun vx1 Ax1 hx1 => ?_)
  obtain rfl := hx1
  refine RunL.ok (OpOk.assign rfl) rfl ?_
  refine RunL.nil ?_
  refine Run.seq ?_
  refine Run.region ?_
  refine RunL.ok (OpOk.move rfl) rfl ?_
  refine RunL.know (fun w s => (s.conv rfl).ownRd0) (fun rdx3 => ?_)
  have alx2 : Alls (GB w0) _ [(vx1, flatB ls)] := (Alls.cons (GB.of rdx3) Alls.nil)
  refine RunL.litV (ls := [(vx1, flatB ls)]) (Alls.right alx2) rfl ti63 rfl rfl rfl (by decide) rfl (fun vx2 rdx2 => ?_)
  refine RunL.know (fun w s => (s.conv rfl).ownRd0) (fun rdx4 => ?_)
  refine RunL.call cal116 rfl (s116a (Rd.right rdx4) (Rd.right rdx3).left) rfl (fun vx5 Ax5 hx5 => ?_)
  obtain ⟨rfl, rfl⟩ := hx5
  refine RunL.ok (OpOk.assign rfl) rfl ?_
  refine RunL.nil ?_
  refine Run.seq ?_
  refine Run.region ?_
  refine RunL.ok (OpOk.move rfl) rfl ?_
  refine RunL.ok (OpOk.move rfl) rfl ?_
  refine RunL.ok (OpOk.shrN _ 8 rfl rfl rfl rfl (by omega)) rfl ?_
  refine RunL.ok (OpOk.convInt rfl rfl rfl (wrapU8 (by omega) (by omega))) rfl ?_
  refine RunL.ok (OpOk.move rfl) rfl ?_
  refine RunL.ok (OpOk.convInt rfl rfl rfl (wrapU8m _)) rfl ?_
  refine RunL.lits rfl ti5 rfl rfl rfl (by simp [Value.cells]) (by decide) rfl (fun vx6 rdx6 => ?_)
  refine RunL.know (fun w s => (s.conv rfl).ownRd0) (fun rdx8 => ?_)
  refine RunL.append rfl ti5 rfl rfl rfl (frl (frl rfl)) (Rd.right rdx8) (by first | assumption | simp [Value.oneCell']) rfl (by decide) (by omega) (by simp only [maxLen]; omega) rfl (fun vx7 rdx7 => ?_)
  refine RunL.ok (OpOk.assign rfl) rfl ?_
  refine RunL.nil ?_
  refine Run.ret1 Try.func110 rfl rfl ?_
  rw [two_bytes, ← B_append, show flatB ls ++ [hiB (flatB ls), loB (flatB ls)] = sealed (flatB ls) from rfl]
  refine ⟨own 63 1 vx2 1 (Fl encV [(vx1, flatB ls)]) * own 5 1 vx6 2 (B [hiB (flatB ls), loB (flatB ls)]), ?_⟩
  rw [← sep_assoc]
theorem s110a {u v : Value} {k : Nat} {bs : List UInt8} (rd : Rd w0 A u 1 1 (Fl encV [(v, bs)])) (rdv : Rd w0 A v 1 k (B bs)) (hm : k + 2 ≤ 140737488355328) : Spec Try.prog w0 110 [u] A (fun v' A' => ∃ J, A' = A * J * own 5 1 v' (k + 2) (B (sealed bs))) := by
  have hl := rdv.lenB
  subst hl
  have e : flatB [(v, bs)] = bs := by simp [flatB]
  have h := s110 rd (Alls.cons rdv Alls.nil) (by rw [e]; exact hm)
  rw [e] at h
  exact h
theorem openB {u : Value} {bs : List UInt8} (rd : Rd w0 A u 1 bs.length (B bs)) (hm : 2 ≤ bs.length) (hlim : bs.length ≤ 1048576) (hs : sealed (bs.take (bs.length - 2)) = bs) : Spec Try.prog w0 83 [u] A (fun v' A' => ∃ v J, v' = .tuple #[v, .int .i64 0] ∧ A' = A * J * own 5 1 v (bs.length - 2) (B (bs.take (bs.length - 2)))) := by
  have hl2 : (bs.take (bs.length - 2)).length = bs.length - 2 := by rw [List.length_take]; omega
  have rdc : Rd w0 A (Go.Proofs.Yteopadjihklkmaa.cutV u 0 (bs.length - 2) 1) 1 (bs.length - 2) (B (bs.take (bs.length - 2))) := Rd.cutB0 rd (by omega)
  refine Spec.of_run [(0, u)] Try.func83 rfl (Nat.le_of_ble_eq_true rfl) (by repeat (first | exact trivial | refine ⟨rfl, ?_⟩)) ?_
  refine Run.seq ?_
  refine Run.region ?_
  refine RunL.ok (OpOk.assign rfl) rfl ?_
  refine RunL.ok (OpOk.assign rfl) rfl ?_
  refine RunL.nil ?_
  refine Run.seq ?_
  refine Run.seq ?_
  refine Run.region ?_
  refine RunL.ok (OpOk.move rfl) rfl ?_
  refine RunL.ok (OpOk.lenR rfl rfl rd rfl) rfl ?_
  refine RunL.ok (OpOk.asF (OpOk.lss rfl rfl) (by omega)) rfl ?_
  refine RunL.nil ?_
  refine Run.condF rfl ?_
  refine Run.skip ?_
  refine Run.seq ?_
  refine Run.region ?_
  refine RunL.ok (OpOk.move rfl) rfl ?_
  refine RunL.ok (OpOk.move rfl) rfl ?_
  refine RunL.ok (OpOk.lenR rfl rfl rd rfl) rfl ?_
  refine RunL.ok (OpOk.subN _ 2 rfl rfl rfl rfl (by omega) (by omega)) rfl ?_
  refine RunL.ok (OpOk.cut rfl ti5 rfl rd rfl ⟨_, rfl⟩ (by omega) (by omega)) rfl ?_
  refine RunL.call cal77 rfl (s77 rdc (by omega)) rfl (fun vx1 Ax1 hx1 => ?_)
  obtain rfl := hx1
  refine RunL.ok (OpOk.assign rfl) rfl ?_
  refine RunL.nil ?_
  refine Run.seq ?_
  refine Run.seq ?_
  refine Run.region ?_
  refine RunL.ok (OpOk.move rfl) rfl ?_
  refine RunL.know (fun w s => (s.conv rfl).ownRd0) (fun rdx3 => ?_)
  have alx2 : Alls (GB w0) _ [(vx1, List.take (bs.length - 2) bs)] := (Alls.cons (GB.of rdx3) Alls.nil)
  refine RunL.litV (ls := [(vx1, List.take (bs.length - 2) bs)]) (Alls.right alx2) rfl ti63 rfl rfl rfl (by decide) rfl (fun vx2 rdx2 => ?_)
  refine RunL.know (fun w s => (s.conv rfl).ownRd0) (fun rdx4 => ?_)
  refine RunL.call cal110 rfl (s110a (Rd.right rdx4) (Rd.right rdx3).left (by omega)) rfl (fun vx5 Ax5 hx5 => ?_)
  obtain ⟨x6, rfl⟩ := hx5
  refine RunL.ok (OpOk.move rfl) rfl ?_
  refine RunL.know (fun w s => (s.conv rfl).ownRd0) (fun rdx7 => ?_)
  refine RunL.call cal87 rfl (s87 (Rd.right rdx7) rd.left.left.left.left) rfl (fun vx8 Ax8 hx8 => ?_)
  obtain ⟨rfl, rfl⟩ := hx8
  refine RunL.ok (OpOk.not rfl) rfl ?_
  refine RunL.nil ?_
  refine Run.condNF rfl (by first | omega | with_reducible rfl | assumption) ?_
  refine Run.skip ?_
  refine Run.seq ?_
  refine Run.region ?_
  refine RunL.ok (OpOk.move rfl) rfl ?_
  refine RunL.ok (OpOk.assign rfl) rfl ?_
  refine RunL.ok (OpOk.assign rfl) rfl ?_
  refine RunL.nil ?_
  refine Run.ret2 Try.func83 rfl rfl rfl ?_
  exact ⟨_, _, rfl, (Eq.trans (frc (frl (frl (frl rfl))) rfl) (congrArg (· * _) (asg (asg as1))))⟩
theorem openC {u : Value} {bs : List UInt8} (rd : Rd w0 A u 1 bs.length (B bs)) (hm : 2 ≤ bs.length) (hlim : bs.length ≤ 1048576) (hs : sealed (bs.take (bs.length - 2)) ≠ bs) : Spec Try.prog w0 83 [u] A (fun v' A' => ∃ J, v' = .tuple #[.slice none 0 0, .int .i64 13] ∧ A' = A * J) := by
  have hl2 : (bs.take (bs.length - 2)).length = bs.length - 2 := by rw [List.length_take]; omega
  have rdc : Rd w0 A (Go.Proofs.Yteopadjihklkmaa.cutV u 0 (bs.length - 2) 1) 1 (bs.length - 2) (B (bs.take (bs.length - 2))) := Rd.cutB0 rd (by omega)
  refine Spec.of_run [(0, u)] Try.func83 rfl (Nat.le_of_ble_eq_true rfl) (by repeat (first | exact trivial | refine ⟨rfl, ?_⟩)) ?_
  refine Run.seq ?_
  refine Run.region ?_
  refine RunL.ok (OpOk.assign rfl) rfl ?_
  refine RunL.ok (OpOk.assign rfl) rfl ?_
  refine RunL.nil ?_
  refine Run.seq ?_
  refine Run.seq ?_
  refine Run.region ?_
  refine RunL.ok (OpOk.move rfl) rfl ?_
  refine RunL.ok (OpOk.lenR rfl rfl rd rfl) rfl ?_
  refine RunL.ok (OpOk.asF (OpOk.lss rfl rfl) (by omega)) rfl ?_
  refine RunL.nil ?_
  refine Run.condF rfl ?_
  refine Run.skip ?_
  refine Run.seq ?_
  refine Run.region ?_
  refine RunL.ok (OpOk.move rfl) rfl ?_
  refine RunL.ok (OpOk.move rfl) rfl ?_
  refine RunL.ok (OpOk.lenR rfl rfl rd rfl) rfl ?_
  refine RunL.ok (OpOk.subN _ 2 rfl rfl rfl rfl (by omega) (by omega)) rfl ?_
  refine RunL.ok (OpOk.cut rfl ti5 rfl rd rfl ⟨_, rfl⟩ (by omega) (by omega)) rfl ?_
  refine RunL.call cal77 rfl (s77 rdc (by omega)) rfl (fun vx1 Ax1 hx1 => ?_)
  obtain rfl := hx1
  refine RunL.ok (OpOk.assign rfl) rfl ?_
  refine RunL.nil ?_
  refine Run.seq ?_
  refine Run.seq ?_
  refine Run.region ?_
  refine RunL.ok (OpOk.move rfl) rfl ?_
  refine RunL.know (fun w s => (s.conv rfl).ownRd0) (fun rdx3 => ?_)
  have alx2 : Alls (GB w0) _ [(vx1, List.take (bs.length - 2) bs)] := (Alls.cons (GB.of rdx3) Alls.nil)
  refine RunL.litV (ls := [(vx1, List.take (bs.length - 2) bs)]) (Alls.right alx2) rfl ti63 rfl rfl rfl (by decide) rfl (fun vx2 rdx2 => ?_)
  refine RunL.know (fun w s => (s.conv rfl).ownRd0) (fun rdx4 => ?_)
  refine RunL.call cal110 rfl (s110a (Rd.right rdx4) (Rd.right rdx3).left (by omega)) rfl (fun vx5 Ax5 hx5 => ?_)
  obtain ⟨x6, rfl⟩ := hx5
  refine RunL.ok (OpOk.move rfl) rfl ?_
  refine RunL.know (fun w s => (s.conv rfl).ownRd0) (fun rdx7 => ?_)
  refine RunL.call cal87 rfl (s87 (Rd.right rdx7) rd.left.left.left.left) rfl (fun vx8 Ax8 hx8 => ?_)
  obtain ⟨rfl, rfl⟩ := hx8
  refine RunL.ok (OpOk.not rfl) rfl ?_
  refine RunL.nil ?_
  refine Run.condNT rfl (by first | omega | assumption) ?_
  refine Run.seq ?_
  refine Run.region ?_
  refine RunL.ok (OpOk.assign rfl) rfl ?_
  refine RunL.ok (OpOk.assign rfl) rfl ?_
  refine RunL.nil ?_
  refine Run.ret2 Try.func83 rfl rfl rfl ?_
  exact ⟨_, rfl, (asg (asg (asg as1)))⟩
theorem s83b {u : Value} {m : Nat} {bs : List UInt8} (rd : Rd w0 A u 1 m (B bs)) (hm : 2 ≤ m) (hlim : m ≤ 1048576) (hs : sealed (bs.take (m - 2)) = bs) : Spec Try.prog w0 83 [u] A (fun v' A' => ∃ v J, v' = .tuple #[v, .int .i64 0] ∧ A' = A * J * own 5 1 v (m - 2) (B (bs.take (m - 2)))) := by
  have hl := rd.lenB
  subst hl
  exact openB rd hm hlim hs
theorem s83c {u : Value} {m : Nat} {bs : List UInt8} (rd : Rd w0 A u 1 m (B bs)) (hm : 2 ≤ m) (hlim : m ≤ 1048576) (hs : sealed (bs.take (m - 2)) ≠ bs) : Spec Try.prog w0 83 [u] A (fun v' A' => ∃ J, v' = .tuple #[.slice none 0 0, .int .i64 13] ∧ A' = A * J) := by
  have hl := rd.lenB
  subst hl
  exact openC rd hm hlim hs
end
end Go.Proofs.Yteopadjihklkmaa
end

section
namespace Go.Proofs.Yteopadjihklkmaa
open Go Go.Proofs
section
variable {P : Program} {n : Nat} {w0 : World} {ops : Array Oper} {l : List Oper} {K : Act → World → Prop} {E : Env} {A : Asn} {ty : TypeId} {ps : String} {af : Array Edge}
theorem OpOk.cutArr {t e : TypeId} {x lo hi : Operand} {b q N i j bytes : Nat} {z : Value} {k k2 : IntKind} (hu : P.underlying t = some (.array N e)) (hz : TyI P e z 1 bytes) (hx : ev E x = some (.pointer (some ⟨b, q, none⟩)))
    (hlo : ev E lo = some (.int k ((i : Nat) : Int))) (hhi : ev E hi = some (.int k2 ((j : Nat) : Int))) (h1 : i ≤ j) (h2 : j ≤ N) (h3 : i < N) :
    OpOk P n w0 (.slice t x (some lo) (some hi) none) ty E A (.slice (some ⟨b, q + i, none⟩) (j - i) (N - i)) := by
  refine .pure fun a w _ _ _ _ he => ?_
  obtain ⟨f, hf, hfz, hs, _⟩ := hz.get
  have e1 : P.arrayLen t = N := by simp [Program.arrayLen, hu]
  have e2 : P.elem t = e := by simp [Program.elem, hu]
  have ht : P.underlying t = some (.array (P.arrayLen t) (P.elem t)) := by rw [e1, e2]; exact hu
  have h := run_sliceAt_array_lh (P := P) w t ⟨b, q, none⟩ ht k k2 (i : Int) (j : Int) (Int.natCast_nonneg i) (by omega) (by rw [e1]; omega)
  have hne : ¬ N = i := by omega
  simp only [execOp, he.eval hx, he.eval hlo, he.eval hhi, Option.map_some, Option.map_none, Sem.run_bind, h]
  simp [sizeOf, typeInfo, e2, hf, hs, slicedAt, e1, hne]
  unfold Addr.add
  split <;> simp_all
theorem OpOk.cutArrA {t e : TypeId} {x : Operand} {b q N bytes : Nat} {z : Value} (hu : P.underlying t = some (.array N e)) (hz : TyI P e z 1 bytes) (hx : ev E x = some (.pointer (some ⟨b, q, none⟩))) (h3 : 0 < N) :
    OpOk P n w0 (.slice t x none none none) ty E A (.slice (some ⟨b, q, none⟩) N N) := by
  refine .pure fun a w _ _ _ _ he => ?_
  obtain ⟨f, hf, hfz, hs, _⟩ := hz.get
  have e1 : P.arrayLen t = N := by simp [Program.arrayLen, hu]
  have e2 : P.elem t = e := by simp [Program.elem, hu]
  have ht : P.underlying t = some (.array (P.arrayLen t) (P.elem t)) := by rw [e1, e2]; exact hu
  have h := run_sliceAt_array_all (P := P) w t ⟨b, q, none⟩ ht
  have hne : ¬ N = 0 := by omega
  simp only [execOp, he.eval hx, Option.map_none, Sem.run_bind, h]
  simp [sizeOf, typeInfo, e2, hf, hs, slicedAt, e1, hne]
  unfold Addr.add
  split <;> simp_all
/-- A slice of a block's cells. -/
theorem Rd.blk {b off m cap : Nat} {cs : List Value} {t : TypeId} {fr : Nat × Nat} (h1 : off + m ≤ cs.length) (h2 : m ≤ cap) (h3 : m ≤ maxLen) : Rd w0 (A * pts b (.cells cs.toArray t fr)) (.slice (some ⟨b, off, none⟩) m cap) 1 m ((cs.drop off).take m) := by
  refine ⟨by rw [List.length_take, List.length_drop]; omega, h3, _, cap, rfl, h2, fun _ => ⟨_, rfl, fun j u hj => ?_⟩⟩
  have hjl : j < m := by
    have := (List.getElem?_eq_some_iff.1 hj).1
    rw [List.length_take] at this
    omega
  rw [List.getElem?_take_of_lt hjl, List.getElem?_drop] at hj
  have ha : (⟨b, off, none⟩ : Addr).add j = ⟨b, off + j, none⟩ := by unfold Addr.add; split <;> simp_all
  rw [ha]
  exact Cell.pts (by simpa using hj)
theorem RunL.copyAt {d : Nat} {t u e t2 : TypeId} {x y : Operand} {v2 z : Value} {g off m k cap bytes : Nat} {cs ys : List Value} {A1 : Asn} {ats : Array TypeId} (hu : P.underlying t = some (.slice e)) (hz : TyI P e z 1 bytes) (hats : ats = #[t, u])
    (hx : ev E x = some (.slice (some ⟨g, off, none⟩) m cap)) (hy : ev E y = some v2) (hA : A = A1 * pts g (.cells cs.toArray t2 (0, 0))) (rd : Rd w0 A v2 1 k ys) (h1 : ∀ c ∈ ys, c.oneCell' = true) (hfit : off + m ≤ cs.length) (hk : k = m) (hd : Nat.blt d n = true)
    (r : RunL P n w0 ops l K ((d, .int .i64 (m : Int)) :: E) (A1 * pts g (.cells (cs.take off ++ (ys ++ cs.drop (off + m))).toArray t2 (0, 0)))) :
    RunL P n w0 ops ({ dst := some d, op := .call { callee := .builtin .copy, args := #[x, y], argTypes := ats }, type := ty, pos := ps, after := af, guard := none } :: l) K E A := by
  subst hA hats hk
  obtain ⟨f, hf, hfz, hs1, hb⟩ := hz.get
  have hsz : (P.info? e).map (·.size) = some 1 := by rw [hf]; simp [hs1]
  refine ⟨fun a w he hs => ?_⟩
  have hyl := rd.len
  rw [Nat.mul_one] at hyl
  obtain ⟨ad2, cap2, rfl, hc2, hat⟩ := rd.is
  rcases Nat.eq_zero_or_pos k with rfl | hpos
  · obtain rfl : ys = [] := List.eq_nil_of_length_eq_zero hyl
    refine wpList_copy_nothing rfl x y t u rfl e hu hsz _ ad2 0 cap 0 cap2 (he.eval hx) (he.eval hy) rfl ?_
    have e0 : cs.take off ++ (([] : List Value) ++ cs.drop (off + 0)) = cs := by simp
    rw [e0] at r
    have hh := r.out (a.put (some d) (.int .i64 ((0 : Nat) : Int))) w (he.put (Nat.le_of_ble_eq_true hd) _) hs
    simpa [goInt] using hh
  · obtain ⟨ad, rfl, hcell⟩ := hat hpos
    refine wpList_copy_own rfl x y t u rfl e hu hsz g off k cap ad k cap2 (he.eval hx) (he.eval hy) cs.toArray t2 hs.get ys (by rw [hyl]; simp) (fun j c hj => (hcell j c hj).out w hs) (by simp; omega) h1 ?_
    have hrow : cs.toArray.toList.take off ++ (ys ++ cs.toArray.toList.drop (off + ys.length)) = cs.take off ++ (ys ++ cs.drop (off + k)) := by rw [hyl]
    rw [hrow, hyl]
    have s3 : Sat w0 (w.setRow g (cs.take off ++ (ys ++ cs.drop (off + k))).toArray) (A1 * pts g (.cells (cs.take off ++ (ys ++ cs.drop (off + k))).toArray t2 (0, 0))) :=
      hs.upd rfl rfl rfl (by simp [World.setRow]) (fun q hq _ => setRow_other w g q _ hq) (setRow_heap w g _ _ t2 _ hs.get)
    have := r.out (a.put (some d) (.int .i64 (k : Int))) _ (he.put (Nat.le_of_ble_eq_true hd) _) s3
    simpa [goInt] using this
/-- The word behind the array. -/
theorem RunL.storeCrd {t t2 : TypeId} {x y : Operand} {b N : Nat} {k w : Int} {xs : List UInt8} {A1 : Asn} {zz : Value} {bb : Nat} (hz : TyI P t zz 1 bb) (hx : ev E x = some (.pointer (some ⟨b, 0 + N, none⟩))) (hy : ev E y = some (.int .i64 k))
    (hA : A = A1 * pts b (.cells (B xs ++ [Value.int .i64 w]).toArray t2 (0, 0))) (hl : xs.length = N) (r : RunL P n w0 ops l K E (A1 * pts b (.cells (B xs ++ [Value.int .i64 k]).toArray t2 (0, 0)))) :
    RunL P n w0 ops ({ dst := none, op := .store t x y, type := ty, pos := ps, after := af, guard := none } :: l) K E A := by
  have hb : (B xs).length = N := by rw [B_length, hl]
  refine RunL.store hz hx hy rfl hA (by simp; omega) (.inl rfl) ?_
  have e : (B xs ++ [Value.int .i64 w]).toArray.setIfInBounds (0 + N) (.int .i64 k) = (B xs ++ [Value.int .i64 k]).toArray := by
    rw [Nat.zero_add, List.setIfInBounds_toArray]
    congr 1
    rw [List.set_append_right _ _ (by omega), hb, Nat.sub_self]
    rfl
  rw [e]
  exact r
end
end Go.Proofs.Yteopadjihklkmaa
end

section
namespace Go.Proofs.Yteopadjihklkmaa
open Go Go.Proofs
set_option maxRecDepth 100000
set_option maxHeartbeats 4000000
/-- A sector; a card with another one. -/
def secOf (xs : List UInt8) (i : Nat) : List UInt8 := (xs.drop (32 * i)).take 32
def setSec (xs : List UInt8) (i : Nat) (ys : List UInt8) : List UInt8 := xs.take (32 * i) ++ (ys ++ xs.drop (32 * i + 32))
theorem secOf_length {xs : List UInt8} {i : Nat} (h : xs.length = 512) (hi : i ≤ 15) : (secOf xs i).length = 32 := by
  simp only [secOf, List.length_take, List.length_drop]
  omega
theorem crd_power (xs : List UInt8) (w : Int) (h : xs.length = 512) : (B xs ++ [Value.int .i64 w]).toArray.toList[0 + 512]? = some (.int .i64 w) := by
  have : (B xs).length = 512 := by rw [B_length, h]
  show (B xs ++ [Value.int .i64 w])[512]? = _
  rw [List.getElem?_append_right (by omega), this]
  rfl
theorem crd_rd {w0 : World} {A : Asn} {p : Nat} {xs : List UInt8} {w : Int} (h : xs.length = 512) {i : Nat} (hi : i ≤ 15) : Rd w0 (A * pts p (.cells (B (xs) ++ [Value.int .i64 (w)]).toArray 177 (0, 0))) (.slice (some ⟨p, 32 * i, none⟩) 32 (512 - 32 * i)) 1 32 (B (secOf xs i)) := by
  have hb : (B xs).length = 512 := by rw [B_length, h]
  have := Rd.blk (w0 := w0) (A := A) (b := p) (off := 32 * i) (m := 32) (cap := 512 - 32 * i) (cs := B xs ++ [Value.int .i64 w]) (t := 177) (fr := (0, 0)) (by rw [List.length_append, hb]; simp; omega) (by omega) (by simp [maxLen])
  have e : ((B xs ++ [Value.int .i64 w]).drop (32 * i)).take 32 = B (secOf xs i) := by
    rw [List.drop_append_of_le_length (by omega), List.take_append_of_le_length (by rw [List.length_drop]; omega)]
    simp [B, secOf, List.map_take, List.map_drop]
  rwa [e] at this
theorem crd_all {w0 : World} {A : Asn} {p : Nat} {xs : List UInt8} {w : Int} (h : xs.length = 512) : Rd w0 (A * pts p (.cells (B (xs) ++ [Value.int .i64 (w)]).toArray 177 (0, 0))) (.slice (some ⟨p, 0 + 0, none⟩) 512 512) 1 512 (B xs) := by
  have hb : (B xs).length = 512 := by rw [B_length, h]
  have := Rd.blk (w0 := w0) (A := A) (b := p) (off := 0) (m := 512) (cap := 512) (cs := B xs ++ [Value.int .i64 w]) (t := 177) (fr := (0, 0)) (by rw [List.length_append, hb]; simp) (by omega) (by simp [maxLen])
  have e : ((B xs ++ [Value.int .i64 w]).drop 0).take 512 = B xs := by
    rw [List.drop_zero, List.take_append_of_le_length (by omega), List.take_of_length_le (by omega)]
  rwa [e] at this
theorem s108c {w0 : World} {A : Asn} {u : Value} {m : Nat} {bs : List UInt8} {k : Nat} (rd : Rd w0 A u 1 m (B bs)) (h : m = k) : Spec Try.prog w0 108 [u, .int .i64 (k : Int)] A (fun v' A' => v' = .int .i64 0 ∧ A' = A) := by
  refine Spec.of_run [(0, u), (1, .int .i64 (k : Int))] Try.func108 rfl (Nat.le_of_ble_eq_true rfl) (by repeat (first | exact trivial | refine ⟨rfl, ?_⟩)) ?_
  refine Run.seq ?_
  refine Run.region ?_
  refine RunL.ok (OpOk.assign rfl) rfl ?_
  refine RunL.nil ?_
  refine Run.seq ?_
  refine Run.block ?_
  refine Run.seq ?_
  refine Run.region ?_
  refine RunL.ok (OpOk.move rfl) rfl ?_
  refine RunL.ok (OpOk.lenR rfl rfl rd rfl) rfl ?_
  refine RunL.ok (OpOk.move rfl) rfl ?_
  refine RunL.ok (OpOk.asF (OpOk.lss rfl rfl) (by omega)) rfl ?_
  refine RunL.ok (OpOk.assign rfl) rfl ?_
  refine RunL.nil ?_
  refine Run.condF rfl ?_
  refine Run.seq ?_
  refine Run.region ?_
  refine RunL.ok (OpOk.move rfl) rfl ?_
  refine RunL.ok (OpOk.lenR rfl rfl rd rfl) rfl ?_
  refine RunL.ok (OpOk.move rfl) rfl ?_
  refine RunL.ok (OpOk.asF (OpOk.gtr rfl rfl) (by omega)) rfl ?_
  refine RunL.ok (OpOk.assign rfl) rfl ?_
  refine RunL.nil ?_
  refine Run.condF rfl ?_
  refine Run.skip ?_
  refine Run.inBlock ?_
  refine Run.seq ?_
  refine Run.region ?_
  refine RunL.ok (OpOk.assign rfl) rfl ?_
  refine RunL.nil ?_
  refine Run.ret1 Try.func108 rfl rfl ?_
  exact ⟨rfl, rfl⟩
theorem s109b {w0 : World} {A : Asn} {p : Nat} {i : Nat} (h : i ≤ 15) : Spec Try.prog w0 109 [.pointer (some ⟨p, 0, none⟩), .int .i64 (i : Int)] A (fun v' A' => v' = .slice (some ⟨p, 32 * i, none⟩) 32 (512 - 32 * i) ∧ A' = A) := by
  refine Spec.of_run [(0, .pointer (some ⟨p, 0, none⟩)), (1, .int .i64 (i : Int))] Try.func109 rfl (Nat.le_of_ble_eq_true rfl) (by repeat (first | exact trivial | refine ⟨rfl, ?_⟩)) ?_
  refine Run.seq ?_
  refine Run.region ?_
  refine RunL.ok (OpOk.assign rfl) rfl ?_
  refine RunL.nil ?_
  refine Run.seq ?_
  refine Run.seq ?_
  refine Run.region ?_
  refine RunL.ok (OpOk.move rfl) rfl ?_
  refine RunL.ok (OpOk.asF (OpOk.lss rfl rfl) (by omega)) rfl ?_
  refine RunL.ok (OpOk.move rfl) rfl ?_
  refine RunL.on rfl rfl ?_
  refine RunL.ok (OpOk.move rfl) rfl ?_
  refine RunL.on rfl rfl ?_
  refine RunL.ok (OpOk.asF (OpOk.geq rfl rfl) (by omega)) rfl ?_
  refine RunL.ok (OpOk.pickF rfl rfl) rfl ?_
  refine RunL.nil ?_
  refine Run.condF rfl ?_
  refine Run.skip ?_
  refine Run.seq ?_
  refine Run.region ?_
  refine RunL.ok (OpOk.move rfl) rfl ?_
  refine RunL.ok (OpOk.nilOk rfl) rfl ?_
  refine RunL.ok (OpOk.fieldAddr fld177_0 rfl) rfl ?_
  refine RunL.ok (OpOk.move rfl) rfl ?_
  refine RunL.ok (OpOk.mulN _ 32 rfl rfl rfl rfl (by omega)) rfl ?_
  refine RunL.ok (OpOk.move rfl) rfl ?_
  refine RunL.ok (OpOk.addN _ 1 rfl rfl rfl rfl (by omega)) rfl ?_
  refine RunL.ok (OpOk.mulN _ 32 rfl rfl rfl rfl (by omega)) rfl ?_
  refine RunL.ok (OpOk.cutArr rfl ti5 rfl rfl rfl (by omega) (by omega) (by omega)) rfl ?_
  refine RunL.ok (OpOk.assign rfl) rfl ?_
  refine RunL.nil ?_
  refine Run.ret1 Try.func109 rfl rfl ?_
  rw [show 0 + 0 + i * 32 = 32 * i by omega, show (i + 1) * 32 - i * 32 = 32 by omega, show 512 - i * 32 = 512 - 32 * i by omega]
  exact ⟨rfl, rfl⟩
theorem crd_set {xs ys : List UInt8} {w : Value} {i : Nat} (h : xs.length = 512) (hi : i ≤ 15) : (B xs ++ [w]).take (32 * i) ++ (B ys ++ (B xs ++ [w]).drop (32 * i + 32)) = B (setSec xs i ys) ++ [w] := by
  have hb : (B xs).length = 512 := by rw [B_length, h]
  rw [List.take_append_of_le_length (by omega), List.drop_append_of_le_length (by omega)]
  simp only [setSec, B, List.map_append, List.map_take, List.map_drop, List.append_assoc]
theorem s55 {w0 : World} {A : Asn} : Spec Try.prog w0 55 [] A (fun v' A' => ∃ p, v' = .pointer (some ⟨p, 0, none⟩) ∧ A' = A * pts p (.cells (B (List.replicate 512 0) ++ [Value.int .i64 (-1)]).toArray 177 (0, 0))) := by
  refine Spec.of_run [] Try.func55 rfl (Nat.le_of_ble_eq_true rfl) (by repeat (first | exact trivial | refine ⟨rfl, ?_⟩)) ?_
  refine Run.seq ?_
  refine Run.region ?_
  refine RunL.ok (OpOk.assign rfl) rfl ?_
  refine RunL.nil ?_
  refine Run.seq ?_
  refine Run.region ?_
  refine RunL.ok (OpOk.build (cells := #[.int (IntKind.u8) (0), .int (IntKind.u8) (0), .int (IntKind.u8) (0), .int (IntKind.u8) (0), .int (IntKind.u8) (0), .int (IntKind.u8) (0), .int (IntKind.u8) (0), .int (IntKind.u8) (0), .int (IntKind.u8) (0), .int (IntKind.u8) (0), .int (IntKind.u8) (0), .int (IntKind.u8) (0), .int (IntKind.u8) (0), .int (IntKind.u8) (0), .int (IntKind.u8) (0), .int (IntKind.u8) (0), .int (IntKind.u8) (0), .int (IntKind.u8) (0), .int (IntKind.u8) (0), .int (IntKind.u8) (0), .int (IntKind.u8) (0), .int (IntKind.u8) (0), .int (IntKind.u8) (0), .int (IntKind.u8) (0), .int (IntKind.u8) (0), .int (IntKind.u8) (0), .int (IntKind.u8) (0), .int (IntKind.u8) (0), .int (IntKind.u8) (0), .int (IntKind.u8) (0), .int (IntKind.u8) (0), .int (IntKind.u8) (0), .int (IntKind.u8) (0), .int (IntKind.u8) (0), .int (IntKind.u8) (0), .int (IntKind.u8) (0), .int (IntKind.u8) (0), .int (IntKind.u8) (0), .int (IntKind.u8) (0), .int (IntKind.u8) (0), .int (IntKind.u8) (0), .int (IntKind.u8) (0), .int (IntKind.u8) (0), .int (IntKind.u8) (0), .int (IntKind.u8) (0), .int (IntKind.u8) (0), .int (IntKind.u8) (0), .int (IntKind.u8) (0), .int (IntKind.u8) (0), .int (IntKind.u8) (0), .int (IntKind.u8) (0), .int (IntKind.u8) (0), .int (IntKind.u8) (0), .int (IntKind.u8) (0), .int (IntKind.u8) (0), .int (IntKind.u8) (0), .int (IntKind.u8) (0), .int (IntKind.u8) (0), .int (IntKind.u8) (0), .int (IntKind.u8) (0), .int (IntKind.u8) (0), .int (IntKind.u8) (0), .int (IntKind.u8) (0), .int (IntKind.u8) (0), .int (IntKind.u8) (0), .int (IntKind.u8) (0), .int (IntKind.u8) (0), .int (IntKind.u8) (0), .int (IntKind.u8) (0), .int (IntKind.u8) (0), .int (IntKind.u8) (0), .int (IntKind.u8) (0), .int (IntKind.u8) (0), .int (IntKind.u8) (0), .int (IntKind.u8) (0), .int (IntKind.u8) (0), .int (IntKind.u8) (0), .int (IntKind.u8) (0), .int (IntKind.u8) (0), .int (IntKind.u8) (0), .int (IntKind.u8) (0), .int (IntKind.u8) (0), .int (IntKind.u8) (0), .int (IntKind.u8) (0), .int (IntKind.u8) (0), .int (IntKind.u8) (0), .int (IntKind.u8) (0), .int (IntKind.u8) (0), .int (IntKind.u8) (0), .int (IntKind.u8) (0), .int (IntKind.u8) (0), .int (IntKind.u8) (0), .int (IntKind.u8) (0), .int (IntKind.u8) (0), .int (IntKind.u8) (0), .int (IntKind.u8) (0), .int (IntKind.u8) (0), .int (IntKind.u8) (0), .int (IntKind.u8) (0), .int (IntKind.u8) (0), .int (IntKind.u8) (0), .int (IntKind.u8) (0), .int (IntKind.u8) (0), .int (IntKind.u8) (0), .int (IntKind.u8) (0), .int (IntKind.u8) (0), .int (IntKind.u8) (0), .int (IntKind.u8) (0), .int (IntKind.u8) (0), .int (IntKind.u8) (0), .int (IntKind.u8) (0), .int (IntKind.u8) (0), .int (IntKind.u8) (0), .int (IntKind.u8) (0), .int (IntKind.u8) (0), .int (IntKind.u8) (0), .int (IntKind.u8) (0), .int (IntKind.u8) (0), .int (IntKind.u8) (0), .int (IntKind.u8) (0), .int (IntKind.u8) (0), .int (IntKind.u8) (0), .int (IntKind.u8) (0), .int (IntKind.u8) (0), .int (IntKind.u8) (0), .int (IntKind.u8) (0), .int (IntKind.u8) (0), .int (IntKind.u8) (0), .int (IntKind.u8) (0), .int (IntKind.u8) (0), .int (IntKind.u8) (0), .int (IntKind.u8) (0), .int (IntKind.u8) (0), .int (IntKind.u8) (0), .int (IntKind.u8) (0), .int (IntKind.u8) (0), .int (IntKind.u8) (0), .int (IntKind.u8) (0), .int (IntKind.u8) (0), .int (IntKind.u8) (0), .int (IntKind.u8) (0), .int (IntKind.u8) (0), .int (IntKind.u8) (0), .int (IntKind.u8) (0), .int (IntKind.u8) (0), .int (IntKind.u8) (0), .int (IntKind.u8) (0), .int (IntKind.u8) (0), .int (IntKind.u8) (0), .int (IntKind.u8) (0), .int (IntKind.u8) (0), .int (IntKind.u8) (0), .int (IntKind.u8) (0), .int (IntKind.u8) (0), .int (IntKind.u8) (0), .int (IntKind.u8) (0), .int (IntKind.u8) (0), .int (IntKind.u8) (0), .int (IntKind.u8) (0), .int (IntKind.u8) (0), .int (IntKind.u8) (0), .int (IntKind.u8) (0), .int (IntKind.u8) (0), .int (IntKind.u8) (0), .int (IntKind.u8) (0), .int (IntKind.u8) (0), .int (IntKind.u8) (0), .int (IntKind.u8) (0), .int (IntKind.u8) (0), .int (IntKind.u8) (0), .int (IntKind.u8) (0), .int (IntKind.u8) (0), .int (IntKind.u8) (0), .int (IntKind.u8) (0), .int (IntKind.u8) (0), .int (IntKind.u8) (0), .int (IntKind.u8) (0), .int (IntKind.u8) (0), .int (IntKind.u8) (0), .int (IntKind.u8) (0), .int (IntKind.u8) (0), .int (IntKind.u8) (0), .int (IntKind.u8) (0), .int (IntKind.u8) (0), .int (IntKind.u8) (0), .int (IntKind.u8) (0), .int (IntKind.u8) (0), .int (IntKind.u8) (0), .int (IntKind.u8) (0), .int (IntKind.u8) (0), .int (IntKind.u8) (0), .int (IntKind.u8) (0), .int (IntKind.u8) (0), .int (IntKind.u8) (0), .int (IntKind.u8) (0), .int (IntKind.u8) (0), .int (IntKind.u8) (0), .int (IntKind.u8) (0), .int (IntKind.u8) (0), .int (IntKind.u8) (0), .int (IntKind.u8) (0), .int (IntKind.u8) (0), .int (IntKind.u8) (0), .int (IntKind.u8) (0), .int (IntKind.u8) (0), .int (IntKind.u8) (0), .int (IntKind.u8) (0), .int (IntKind.u8) (0), .int (IntKind.u8) (0), .int (IntKind.u8) (0), .int (IntKind.u8) (0), .int (IntKind.u8) (0), .int (IntKind.u8) (0), .int (IntKind.u8) (0), .int (IntKind.u8) (0), .int (IntKind.u8) (0), .int (IntKind.u8) (0), .int (IntKind.u8) (0), .int (IntKind.u8) (0), .int (IntKind.u8) (0), .int (IntKind.u8) (0), .int (IntKind.u8) (0), .int (IntKind.u8) (0), .int (IntKind.u8) (0), .int (IntKind.u8) (0), .int (IntKind.u8) (0), .int (IntKind.u8) (0), .int (IntKind.u8) (0), .int (IntKind.u8) (0), .int (IntKind.u8) (0), .int (IntKind.u8) (0), .int (IntKind.u8) (0), .int (IntKind.u8) (0), .int (IntKind.u8) (0), .int (IntKind.u8) (0), .int (IntKind.u8) (0), .int (IntKind.u8) (0), .int (IntKind.u8) (0), .int (IntKind.u8) (0), .int (IntKind.u8) (0), .int (IntKind.u8) (0), .int (IntKind.u8) (0), .int (IntKind.u8) (0), .int (IntKind.u8) (0), .int (IntKind.u8) (0), .int (IntKind.u8) (0), .int (IntKind.u8) (0), .int (IntKind.u8) (0), .int (IntKind.u8) (0), .int (IntKind.u8) (0), .int (IntKind.u8) (0), .int (IntKind.u8) (0), .int (IntKind.u8) (0), .int (IntKind.u8) (0), .int (IntKind.u8) (0), .int (IntKind.u8) (0), .int (IntKind.u8) (0), .int (IntKind.u8) (0), .int (IntKind.u8) (0), .int (IntKind.u8) (0), .int (IntKind.u8) (0), .int (IntKind.u8) (0), .int (IntKind.u8) (0), .int (IntKind.u8) (0), .int (IntKind.u8) (0), .int (IntKind.u8) (0), .int (IntKind.u8) (0), .int (IntKind.u8) (0), .int (IntKind.u8) (0), .int (IntKind.u8) (0), .int (IntKind.u8) (0), .int (IntKind.u8) (0), .int (IntKind.u8) (0), .int (IntKind.u8) (0), .int (IntKind.u8) (0), .int (IntKind.u8) (0), .int (IntKind.u8) (0), .int (IntKind.u8) (0), .int (IntKind.u8) (0), .int (IntKind.u8) (0), .int (IntKind.u8) (0), .int (IntKind.u8) (0), .int (IntKind.u8) (0), .int (IntKind.u8) (0), .int (IntKind.u8) (0), .int (IntKind.u8) (0), .int (IntKind.u8) (0), .int (IntKind.u8) (0), .int (IntKind.u8) (0), .int (IntKind.u8) (0), .int (IntKind.u8) (0), .int (IntKind.u8) (0), .int (IntKind.u8) (0), .int (IntKind.u8) (0), .int (IntKind.u8) (0), .int (IntKind.u8) (0), .int (IntKind.u8) (0), .int (IntKind.u8) (0), .int (IntKind.u8) (0), .int (IntKind.u8) (0), .int (IntKind.u8) (0), .int (IntKind.u8) (0), .int (IntKind.u8) (0), .int (IntKind.u8) (0), .int (IntKind.u8) (0), .int (IntKind.u8) (0), .int (IntKind.u8) (0), .int (IntKind.u8) (0), .int (IntKind.u8) (0), .int (IntKind.u8) (0), .int (IntKind.u8) (0), .int (IntKind.u8) (0), .int (IntKind.u8) (0), .int (IntKind.u8) (0), .int (IntKind.u8) (0), .int (IntKind.u8) (0), .int (IntKind.u8) (0), .int (IntKind.u8) (0), .int (IntKind.u8) (0), .int (IntKind.u8) (0), .int (IntKind.u8) (0), .int (IntKind.u8) (0), .int (IntKind.u8) (0), .int (IntKind.u8) (0), .int (IntKind.u8) (0), .int (IntKind.u8) (0), .int (IntKind.u8) (0), .int (IntKind.u8) (0), .int (IntKind.u8) (0), .int (IntKind.u8) (0), .int (IntKind.u8) (0), .int (IntKind.u8) (0), .int (IntKind.u8) (0), .int (IntKind.u8) (0), .int (IntKind.u8) (0), .int (IntKind.u8) (0), .int (IntKind.u8) (0), .int (IntKind.u8) (0), .int (IntKind.u8) (0), .int (IntKind.u8) (0), .int (IntKind.u8) (0), .int (IntKind.u8) (0), .int (IntKind.u8) (0), .int (IntKind.u8) (0), .int (IntKind.u8) (0), .int (IntKind.u8) (0), .int (IntKind.u8) (0), .int (IntKind.u8) (0), .int (IntKind.u8) (0), .int (IntKind.u8) (0), .int (IntKind.u8) (0), .int (IntKind.u8) (0), .int (IntKind.u8) (0), .int (IntKind.u8) (0), .int (IntKind.u8) (0), .int (IntKind.u8) (0), .int (IntKind.u8) (0), .int (IntKind.u8) (0), .int (IntKind.u8) (0), .int (IntKind.u8) (0), .int (IntKind.u8) (0), .int (IntKind.u8) (0), .int (IntKind.u8) (0), .int (IntKind.u8) (0), .int (IntKind.u8) (0), .int (IntKind.u8) (0), .int (IntKind.u8) (0), .int (IntKind.u8) (0), .int (IntKind.u8) (0), .int (IntKind.u8) (0), .int (IntKind.u8) (0), .int (IntKind.u8) (0), .int (IntKind.u8) (0), .int (IntKind.u8) (0), .int (IntKind.u8) (0), .int (IntKind.u8) (0), .int (IntKind.u8) (0), .int (IntKind.u8) (0), .int (IntKind.u8) (0), .int (IntKind.u8) (0), .int (IntKind.u8) (0), .int (IntKind.u8) (0), .int (IntKind.u8) (0), .int (IntKind.u8) (0), .int (IntKind.u8) (0), .int (IntKind.u8) (0), .int (IntKind.u8) (0), .int (IntKind.u8) (0), .int (IntKind.u8) (0), .int (IntKind.u8) (0), .int (IntKind.u8) (0), .int (IntKind.u8) (0), .int (IntKind.u8) (0), .int (IntKind.u8) (0), .int (IntKind.u8) (0), .int (IntKind.u8) (0), .int (IntKind.u8) (0), .int (IntKind.u8) (0), .int (IntKind.u8) (0), .int (IntKind.u8) (0), .int (IntKind.u8) (0), .int (IntKind.u8) (0), .int (IntKind.u8) (0), .int (IntKind.u8) (0), .int (IntKind.u8) (0), .int (IntKind.u8) (0), .int (IntKind.u8) (0), .int (IntKind.u8) (0), .int (IntKind.u8) (0), .int (IntKind.u8) (0), .int (IntKind.u8) (0), .int (IntKind.u8) (0), .int (IntKind.u8) (0), .int (IntKind.u8) (0), .int (IntKind.u8) (0), .int (IntKind.u8) (0), .int (IntKind.u8) (0), .int (IntKind.u8) (0), .int (IntKind.u8) (0), .int (IntKind.u8) (0), .int (IntKind.u8) (0), .int (IntKind.u8) (0), .int (IntKind.u8) (0), .int (IntKind.u8) (0), .int (IntKind.u8) (0), .int (IntKind.u8) (0), .int (IntKind.u8) (0), .int (IntKind.u8) (0), .int (IntKind.u8) (0), .int (IntKind.u8) (0), .int (IntKind.u8) (0), .int (IntKind.u8) (0), .int (IntKind.u8) (0), .int (IntKind.u8) (0), .int (IntKind.u8) (0), .int (IntKind.u8) (0), .int (IntKind.u8) (0), .int (IntKind.u8) (0), .int (IntKind.u8) (0), .int (IntKind.u8) (0), .int (IntKind.u8) (0), .int (IntKind.u8) (0), .int (IntKind.u8) (0), .int (IntKind.u8) (0), .int (IntKind.u8) (0), .int (IntKind.u8) (0), .int (IntKind.u8) (0), .int (IntKind.u8) (0), .int (IntKind.u8) (0), .int (IntKind.u8) (0), .int (IntKind.u8) (0), .int (IntKind.u8) (0), .int (IntKind.u8) (0), .int (IntKind.u8) (0), .int (IntKind.u8) (0), .int (IntKind.u8) (0), .int (IntKind.u8) (0), .int (IntKind.u8) (0), .int (IntKind.u8) (0), .int (IntKind.u8) (0), .int (IntKind.u8) (0), .int (IntKind.u8) (0), .int (IntKind.u8) (0), .int (IntKind.u8) (0), .int (IntKind.u8) (0), .int (IntKind.u8) (0), .int (IntKind.u8) (0), .int (IntKind.u8) (0), .int (IntKind.u8) (0), .int (IntKind.u8) (0), .int (IntKind.u8) (0), .int (IntKind.u8) (0), .int (IntKind.u8) (0), .int (IntKind.u8) (0), .int (IntKind.u8) (0), .int (IntKind.u8) (0), .int (IntKind.u8) (0), .int (IntKind.u8) (0), .int (IntKind.u8) (0), .int (IntKind.u8) (0), .int (IntKind.u8) (0), .int (IntKind.u8) (0), .int (IntKind.u8) (0), .int (IntKind.u8) (0), .int (IntKind.u8) (0), .int (IntKind.u8) (0), .int (IntKind.u8) (0), .int (IntKind.u8) (0), .int (IntKind.u8) (0), .int (IntKind.u8) (0), .int (IntKind.u8) (0), .int (IntKind.u8) (0), .int (IntKind.u8) (0), .int (IntKind.u8) (0), .int (IntKind.u8) (0), .int (IntKind.u8) (0), .int (IntKind.u8) (0), .int (IntKind.u8) (0), .int (IntKind.u8) (0), .int (IntKind.u8) (0), .int (IntKind.u8) (0), .int (IntKind.u8) (0), .int (IntKind.u8) (0), .int (IntKind.u8) (0), .int (IntKind.u8) (0), .int (IntKind.u8) (0), .int (IntKind.u8) (0), .int (IntKind.u8) (0), .int (IntKind.u8) (0), .int (IntKind.u8) (0), .int (IntKind.u8) (0), .int (IntKind.u8) (0), .int (IntKind.i64) (-1)]) rfl (fun w => run_build w 177 _ _ (by rfl))) rfl ?_
  refine RunL.box rfl rfl (fun bx1 => ?_)
  refine RunL.ok (OpOk.assign rfl) rfl ?_
  refine RunL.nil ?_
  refine Run.ret1 Try.func55 rfl rfl ?_
  exact ⟨_, rfl, (frc rfl rfl)⟩
section
variable {w0 : World} {A : Asn} {p : Nat} {xs : List UInt8} {w : Int}
theorem s50 {n : Int} (hx : xs.length = 512) : Spec Try.prog w0 50 [.pointer (some ⟨p, 0, none⟩), .int .i64 n] (A * pts p (.cells (B (xs) ++ [Value.int .i64 (w)]).toArray 177 (0, 0))) (fun v' A' => v' = .tuple #[] ∧ A' = A * pts p (.cells (B (xs) ++ [Value.int .i64 (max n (-1))]).toArray 177 (0, 0))) := by
  refine Spec.of_run [(0, .pointer (some ⟨p, 0, none⟩)), (1, .int .i64 n)] Try.func50 rfl (Nat.le_of_ble_eq_true rfl) (by repeat (first | exact trivial | refine ⟨rfl, ?_⟩)) ?_
  refine Run.region ?_
  refine RunL.ok (OpOk.move rfl) rfl ?_
  refine RunL.ok (OpOk.move rfl) rfl ?_
  refine RunL.ok (OpOk.max2 rfl rfl rfl) rfl ?_
  refine RunL.ok (OpOk.nilOk rfl) rfl ?_
  refine RunL.ok (OpOk.fieldAddr fld177_1 rfl) rfl ?_
  refine RunL.storeCrd ti3 rfl rfl rfl hx ?_
  refine RunL.nil ?_
  refine Run.fall0 Try.func50 rfl ?_
  exact ⟨rfl, rfl⟩
theorem s49 (hx : xs.length = 512) : Spec Try.prog w0 49 [.pointer (some ⟨p, 0, none⟩)] (A * pts p (.cells (B (xs) ++ [Value.int .i64 (w)]).toArray 177 (0, 0))) (fun v' A' => A' = A * pts p (.cells (B (xs) ++ [Value.int .i64 (w)]).toArray 177 (0, 0)) * own 5 1 v' 512 (B xs)) := by
  have rdA := crd_all (w0 := w0) (A := A) (p := p) (w := w) hx
  refine Spec.of_run [(0, .pointer (some ⟨p, 0, none⟩))] Try.func49 rfl (Nat.le_of_ble_eq_true rfl) (by repeat (first | exact trivial | refine ⟨rfl, ?_⟩)) ?_
  refine Run.seq ?_
  refine Run.region ?_
  refine RunL.ok (OpOk.assign rfl) rfl ?_
  refine RunL.nil ?_
  refine Run.seq ?_
  refine Run.region ?_
  refine RunL.ok (OpOk.move rfl) rfl ?_
  refine RunL.ok (OpOk.nilOk rfl) rfl ?_
  refine RunL.ok (OpOk.fieldAddr fld177_0 rfl) rfl ?_
  refine RunL.ok (OpOk.cutArrA rfl ti5 rfl (by decide)) rfl ?_
  refine RunL.call cal77 rfl (s77 rdA (by omega)) rfl (fun vx1 Ax1 hx1 => ?_)
  obtain rfl := hx1
  refine RunL.ok (OpOk.assign rfl) rfl ?_
  refine RunL.nil ?_
  refine Run.ret1 Try.func49 rfl rfl ?_
  exact rfl
theorem s82b {i : Int} (h0 : 0 ≤ i) (h : i ≤ 15) (hx : xs.length = 512) : Spec Try.prog w0 82 [.pointer (some ⟨p, 0, none⟩), .int .i64 i] (A * pts p (.cells (B (xs) ++ [Value.int .i64 (w)]).toArray 177 (0, 0))) (fun v' A' => ∃ u, v' = .tuple #[u, .int .i64 0] ∧ A' = A * pts p (.cells (B (xs) ++ [Value.int .i64 (w)]).toArray 177 (0, 0)) * own 5 1 u 32 (B (secOf xs i.toNat))) := by
  obtain ⟨i, rfl⟩ := Int.eq_ofNat_of_zero_le h0
  rw [Int.toNat_natCast]
  have rdA := crd_rd (w0 := w0) (A := A) (p := p) (w := w) hx (i := i) (by omega)
  refine Spec.of_run [(0, .pointer (some ⟨p, 0, none⟩)), (1, .int .i64 (i : Int))] Try.func82 rfl (Nat.le_of_ble_eq_true rfl) (by repeat (first | exact trivial | refine ⟨rfl, ?_⟩)) ?_
  refine Run.seq ?_
  refine Run.region ?_
  refine RunL.ok (OpOk.assign rfl) rfl ?_
  refine RunL.ok (OpOk.assign rfl) rfl ?_
  refine RunL.nil ?_
  refine Run.seq ?_
  refine Run.region ?_
  refine RunL.ok (OpOk.move rfl) rfl ?_
  refine RunL.ok (OpOk.move rfl) rfl ?_
  refine RunL.call cal109 rfl (s109b (by omega)) rfl (fun vx2 Ax2 hx2 => ?_)
  obtain ⟨rfl, rfl⟩ := hx2
  refine RunL.ok (OpOk.assign rfl) rfl ?_
  refine RunL.nil ?_
  refine Run.seq ?_
  refine Run.seq ?_
  refine Run.region ?_
  refine RunL.ok (OpOk.move rfl) rfl ?_
  refine RunL.ok (OpOk.eqlNil rfl rfl) rfl ?_
  refine RunL.nil ?_
  refine Run.condF rfl ?_
  refine Run.skip ?_
  refine Run.seq ?_
  refine Run.region ?_
  refine RunL.ok (OpOk.move rfl) rfl ?_
  refine RunL.call cal77 rfl (s77 rdA (by omega)) rfl (fun vx3 Ax3 hx3 => ?_)
  obtain rfl := hx3
  refine RunL.ok (OpOk.assign rfl) rfl ?_
  refine RunL.ok (OpOk.assign rfl) rfl ?_
  refine RunL.nil ?_
  refine Run.ret2 Try.func82 rfl rfl rfl ?_
  exact ⟨_, rfl, rfl⟩
section
variable {u : Value} {m : Nat} {bs : List UInt8}
theorem s81c (rd : Rd w0 A u 1 m (B bs)) (h : m = 512) (hx : xs.length = 512) : Spec Try.prog w0 81 [.pointer (some ⟨p, 0, none⟩), u] (A * pts p (.cells (B (xs) ++ [Value.int .i64 (w)]).toArray 177 (0, 0))) (fun v' A' => v' = .int .i64 0 ∧ A' = A * pts p (.cells (B (bs) ++ [Value.int .i64 (w)]).toArray 177 (0, 0))) := by
  have hfit : 0 + 0 + 512 ≤ (B xs ++ [Value.int .i64 w]).length := by rw [List.length_append, B_length, hx]; simp
  refine Spec.of_run [(0, .pointer (some ⟨p, 0, none⟩)), (1, u)] Try.func81 rfl (Nat.le_of_ble_eq_true rfl) (by repeat (first | exact trivial | refine ⟨rfl, ?_⟩)) ?_
  refine Run.seq ?_
  refine Run.region ?_
  refine RunL.ok (OpOk.assign rfl) rfl ?_
  refine RunL.nil ?_
  refine Run.seq ?_
  refine Run.seq ?_
  refine Run.region ?_
  refine RunL.ok (OpOk.move rfl) rfl ?_
  refine RunL.call cal108 rfl (s108c rd.left (by assumption)) rfl (fun vx3 Ax3 hx3 => ?_)
  obtain ⟨rfl, rfl⟩ := hx3
  refine RunL.ok (OpOk.assign rfl) rfl ?_
  refine RunL.nil ?_
  refine Run.seq ?_
  refine Run.region ?_
  refine RunL.ok (OpOk.move rfl) rfl ?_
  refine RunL.ok (OpOk.as (c := false) (OpOk.neq rfl rfl) (by rw [decide_eq_true (by omega)]; rfl)) rfl ?_
  refine RunL.nil ?_
  refine Run.condF rfl ?_
  refine Run.skip ?_
  refine Run.seq ?_
  refine Run.region ?_
  refine RunL.ok (OpOk.move rfl) rfl ?_
  refine RunL.ok (OpOk.nilOk rfl) rfl ?_
  refine RunL.ok (OpOk.fieldAddr fld177_0 rfl) rfl ?_
  refine RunL.ok (OpOk.cutArrA rfl ti5 rfl (by decide)) rfl ?_
  refine RunL.ok (OpOk.move rfl) rfl ?_
  refine RunL.copyAt rfl ti5 rfl rfl rfl rfl rd.left (by first | exact B_one _ | assumption) (by first | omega | assumption) (by omega) rfl ?_
  refine RunL.nil ?_
  refine Run.seq ?_
  refine Run.region ?_
  refine RunL.ok (OpOk.assign rfl) rfl ?_
  refine RunL.nil ?_
  refine Run.ret1 Try.func81 rfl rfl ?_
  rw [List.drop_append_of_le_length (by rw [B_length, hx]; omega), List.drop_of_length_le (by rw [B_length, hx]; omega), show 0 + 0 = 0 from rfl, List.take_zero, List.nil_append, List.nil_append]
  exact ⟨rfl, rfl⟩
theorem s115d (rd : Rd w0 A u 1 m (B bs)) {i : Int} (h0 : 0 ≤ i) (h : i ≤ 15) (hm : m = 32) (hx : xs.length = 512) (hw : w = 0) : Spec Try.prog w0 115 [.pointer (some ⟨p, 0, none⟩), .int .i64 i, u] (A * pts p (.cells (B (xs) ++ [Value.int .i64 (w)]).toArray 177 (0, 0))) (fun v' A' => v' = .int .i64 30 ∧ A' = A * pts p (.cells (B (xs) ++ [Value.int .i64 (w)]).toArray 177 (0, 0))) := by
  obtain ⟨i, rfl⟩ := Int.eq_ofNat_of_zero_le h0
  have hpw := crd_power xs w hx
  refine Spec.of_run [(0, .pointer (some ⟨p, 0, none⟩)), (1, .int .i64 (i : Int)), (2, u)] Try.func115 rfl (Nat.le_of_ble_eq_true rfl) (by repeat (first | exact trivial | refine ⟨rfl, ?_⟩)) ?_
  refine Run.seq ?_
  refine Run.region ?_
  refine RunL.ok (OpOk.assign rfl) rfl ?_
  refine RunL.nil ?_
  refine Run.seq ?_
  refine Run.region ?_
  refine RunL.ok (OpOk.move rfl) rfl ?_
  refine RunL.ok (OpOk.move rfl) rfl ?_
  refine RunL.call cal109 rfl (s109b (by omega)) rfl (fun vx2 Ax2 hx2 => ?_)
  obtain ⟨rfl, rfl⟩ := hx2
  refine RunL.ok (OpOk.assign rfl) rfl ?_
  refine RunL.nil ?_
  refine Run.seq ?_
  refine Run.seq ?_
  refine Run.region ?_
  refine RunL.ok (OpOk.move rfl) rfl ?_
  refine RunL.ok (OpOk.eqlNil rfl rfl) rfl ?_
  refine RunL.nil ?_
  refine Run.condF rfl ?_
  refine Run.skip ?_
  refine Run.seq ?_
  refine Run.seq ?_
  refine Run.region ?_
  refine RunL.ok (OpOk.move rfl) rfl ?_
  refine RunL.ok (OpOk.move rfl) rfl ?_
  refine RunL.ok (OpOk.lenV rfl rfl rfl) rfl ?_
  refine RunL.call cal108 rfl (s108c rd.left (by assumption)) rfl (fun vx5 Ax5 hx5 => ?_)
  obtain ⟨rfl, rfl⟩ := hx5
  refine RunL.ok (OpOk.assign rfl) rfl ?_
  refine RunL.nil ?_
  refine Run.seq ?_
  refine Run.region ?_
  refine RunL.ok (OpOk.move rfl) rfl ?_
  refine RunL.ok (OpOk.as (c := false) (OpOk.neq rfl rfl) (by rw [decide_eq_true (by omega)]; rfl)) rfl ?_
  refine RunL.nil ?_
  refine Run.condF rfl ?_
  refine Run.skip ?_
  refine Run.seq ?_
  refine Run.seq ?_
  refine Run.region ?_
  refine RunL.ok (OpOk.move rfl) rfl ?_
  refine RunL.ok (OpOk.nilOk rfl) rfl ?_
  refine RunL.ok (OpOk.fieldAddr fld177_1 rfl) rfl ?_
  refine RunL.ok (OpOk.load rfl rfl rfl (Blk.out Blk.pts _ _ (by first | rfl | assumption))) rfl ?_
  refine RunL.ok (OpOk.asT (OpOk.eql rfl rfl) (by omega)) rfl ?_
  refine RunL.nil ?_
  refine Run.condT rfl ?_
  refine Run.seq ?_
  refine Run.region ?_
  refine RunL.ok (OpOk.assign rfl) rfl ?_
  refine RunL.nil ?_
  refine Run.ret1 Try.func115 rfl rfl ?_
  exact ⟨rfl, rfl⟩
theorem s115e (rd : Rd w0 A u 1 m (B bs)) {i : Int} (h0 : 0 ≤ i) (h : i ≤ 15) (hm : m = 32) (hx : xs.length = 512) (hw : w < 0) : Spec Try.prog w0 115 [.pointer (some ⟨p, 0, none⟩), .int .i64 i, u] (A * pts p (.cells (B (xs) ++ [Value.int .i64 (w)]).toArray 177 (0, 0))) (fun v' A' => v' = .int .i64 0 ∧ A' = A * pts p (.cells (B (setSec xs i.toNat bs) ++ [Value.int .i64 (w)]).toArray 177 (0, 0))) := by
  obtain ⟨i, rfl⟩ := Int.eq_ofNat_of_zero_le h0
  have hpw := crd_power xs w hx
  have hfit : 32 * i + 32 ≤ (B xs ++ [Value.int .i64 w]).length := by rw [List.length_append, B_length, hx]; simp; omega
  rw [Int.toNat_natCast]
  refine Spec.of_run [(0, .pointer (some ⟨p, 0, none⟩)), (1, .int .i64 (i : Int)), (2, u)] Try.func115 rfl (Nat.le_of_ble_eq_true rfl) (by repeat (first | exact trivial | refine ⟨rfl, ?_⟩)) ?_
  refine Run.seq ?_
  refine Run.region ?_
  refine RunL.ok (OpOk.assign rfl) rfl ?_
  refine RunL.nil ?_
  refine Run.seq ?_
  refine Run.region ?_
  refine RunL.ok (OpOk.move rfl) rfl ?_
  refine RunL.ok (OpOk.move rfl) rfl ?_
  refine RunL.call cal109 rfl (s109b (by omega)) rfl (fun vx2 Ax2 hx2 => ?_)
  obtain ⟨rfl, rfl⟩ := hx2
  refine RunL.ok (OpOk.assign rfl) rfl ?_
  refine RunL.nil ?_
  refine Run.seq ?_
  refine Run.seq ?_
  refine Run.region ?_
  refine RunL.ok (OpOk.move rfl) rfl ?_
  refine RunL.ok (OpOk.eqlNil rfl rfl) rfl ?_
  refine RunL.nil ?_
  refine Run.condF rfl ?_
  refine Run.skip ?_
  refine Run.seq ?_
  refine Run.seq ?_
  refine Run.region ?_
  refine RunL.ok (OpOk.move rfl) rfl ?_
  refine RunL.ok (OpOk.move rfl) rfl ?_
  refine RunL.ok (OpOk.lenV rfl rfl rfl) rfl ?_
  refine RunL.call cal108 rfl (s108c rd.left (by assumption)) rfl (fun vx5 Ax5 hx5 => ?_)
  obtain ⟨rfl, rfl⟩ := hx5
  refine RunL.ok (OpOk.assign rfl) rfl ?_
  refine RunL.nil ?_
  refine Run.seq ?_
  refine Run.region ?_
  refine RunL.ok (OpOk.move rfl) rfl ?_
  refine RunL.ok (OpOk.as (c := false) (OpOk.neq rfl rfl) (by rw [decide_eq_true (by omega)]; rfl)) rfl ?_
  refine RunL.nil ?_
  refine Run.condF rfl ?_
  refine Run.skip ?_
  refine Run.seq ?_
  refine Run.seq ?_
  refine Run.region ?_
  refine RunL.ok (OpOk.move rfl) rfl ?_
  refine RunL.ok (OpOk.nilOk rfl) rfl ?_
  refine RunL.ok (OpOk.fieldAddr fld177_1 rfl) rfl ?_
  refine RunL.ok (OpOk.load rfl rfl rfl (Blk.out Blk.pts _ _ (by first | rfl | assumption))) rfl ?_
  refine RunL.ok (OpOk.asF (OpOk.eql rfl rfl) (by omega)) rfl ?_
  refine RunL.nil ?_
  refine Run.condF rfl ?_
  refine Run.skip ?_
  refine Run.seq ?_
  refine Run.seq ?_
  refine Run.region ?_
  refine RunL.ok (OpOk.move rfl) rfl ?_
  refine RunL.ok (OpOk.nilOk rfl) rfl ?_
  refine RunL.ok (OpOk.fieldAddr fld177_1 rfl) rfl ?_
  refine RunL.ok (OpOk.load rfl rfl rfl (Blk.out Blk.pts _ _ (by first | rfl | assumption))) rfl ?_
  refine RunL.ok (OpOk.asF (OpOk.gtr rfl rfl) (by omega)) rfl ?_
  refine RunL.nil ?_
  refine Run.condF rfl ?_
  refine Run.skip ?_
  refine Run.seq ?_
  refine Run.region ?_
  refine RunL.ok (OpOk.move rfl) rfl ?_
  refine RunL.ok (OpOk.move rfl) rfl ?_
  refine RunL.copyAt rfl ti5 rfl rfl rfl rfl rd.left (by first | exact B_one _ | assumption) (by first | omega | assumption) (by omega) rfl ?_
  refine RunL.nil ?_
  refine Run.seq ?_
  refine Run.region ?_
  refine RunL.ok (OpOk.assign rfl) rfl ?_
  refine RunL.nil ?_
  refine Run.ret1 Try.func115 rfl rfl ?_
  rw [crd_set hx (by omega)]
  exact ⟨rfl, rfl⟩
theorem s115f (rd : Rd w0 A u 1 m (B bs)) {i : Int} (h0 : 0 ≤ i) (h : i ≤ 15) (hm : m = 32) (hx : xs.length = 512) (hw : 0 < w) (hw2 : w ≤ 9223372036854775807) : Spec Try.prog w0 115 [.pointer (some ⟨p, 0, none⟩), .int .i64 i, u] (A * pts p (.cells (B (xs) ++ [Value.int .i64 (w)]).toArray 177 (0, 0))) (fun v' A' => v' = .int .i64 0 ∧ A' = A * pts p (.cells (B (setSec xs i.toNat bs) ++ [Value.int .i64 (w - 1)]).toArray 177 (0, 0))) := by
  obtain ⟨i, rfl⟩ := Int.eq_ofNat_of_zero_le h0
  have hpw := crd_power xs w hx
  have hfit : ∀ w', 32 * i + 32 ≤ (B xs ++ [Value.int .i64 w']).length := fun w' => by rw [List.length_append, B_length, hx]; simp; omega
  rw [Int.toNat_natCast]
  refine Spec.of_run [(0, .pointer (some ⟨p, 0, none⟩)), (1, .int .i64 (i : Int)), (2, u)] Try.func115 rfl (Nat.le_of_ble_eq_true rfl) (by repeat (first | exact trivial | refine ⟨rfl, ?_⟩)) ?_
  refine Run.seq ?_
  refine Run.region ?_
  refine RunL.ok (OpOk.assign rfl) rfl ?_
  refine RunL.nil ?_
  refine Run.seq ?_
  refine Run.region ?_
  refine RunL.ok (OpOk.move rfl) rfl ?_
  refine RunL.ok (OpOk.move rfl) rfl ?_
  refine RunL.call cal109 rfl (s109b (by omega)) rfl (fun vx2 Ax2 hx2 => ?_)
  obtain ⟨rfl, rfl⟩ := hx2
  refine RunL.ok (OpOk.assign rfl) rfl ?_
  refine RunL.nil ?_
  refine Run.seq ?_
  refine Run.seq ?_
  refine Run.region ?_
  refine RunL.ok (OpOk.move rfl) rfl ?_
  refine RunL.ok (OpOk.eqlNil rfl rfl) rfl ?_
  refine RunL.nil ?_
  refine Run.condF rfl ?_
  refine Run.skip ?_
  refine Run.seq ?_
  refine Run.seq ?_
  refine Run.region ?_
  refine RunL.ok (OpOk.move rfl) rfl ?_
  refine RunL.ok (OpOk.move rfl) rfl ?_
  refine RunL.ok (OpOk.lenV rfl rfl rfl) rfl ?_
  refine RunL.call cal108 rfl (s108c rd.left (by assumption)) rfl (fun vx5 Ax5 hx5 => ?_)
  obtain ⟨rfl, rfl⟩ := hx5
  refine RunL.ok (OpOk.assign rfl) rfl ?_
  refine RunL.nil ?_
  refine Run.seq ?_
  refine Run.region ?_
  refine RunL.ok (OpOk.move rfl) rfl ?_
  refine RunL.ok (OpOk.as (c := false) (OpOk.neq rfl rfl) (by rw [decide_eq_true (by omega)]; rfl)) rfl ?_
  refine RunL.nil ?_
  refine Run.condF rfl ?_
  refine Run.skip ?_
  refine Run.seq ?_
  refine Run.seq ?_
  refine Run.region ?_
  refine RunL.ok (OpOk.move rfl) rfl ?_
  refine RunL.ok (OpOk.nilOk rfl) rfl ?_
  refine RunL.ok (OpOk.fieldAddr fld177_1 rfl) rfl ?_
  refine RunL.ok (OpOk.load rfl rfl rfl (Blk.out Blk.pts _ _ (by first | rfl | assumption))) rfl ?_
  refine RunL.ok (OpOk.asF (OpOk.eql rfl rfl) (by omega)) rfl ?_
  refine RunL.nil ?_
  refine Run.condF rfl ?_
  refine Run.skip ?_
  refine Run.seq ?_
  refine Run.seq ?_
  refine Run.region ?_
  refine RunL.ok (OpOk.move rfl) rfl ?_
  refine RunL.ok (OpOk.nilOk rfl) rfl ?_
  refine RunL.ok (OpOk.fieldAddr fld177_1 rfl) rfl ?_
  refine RunL.ok (OpOk.load rfl rfl rfl (Blk.out Blk.pts _ _ (by first | rfl | assumption))) rfl ?_
  refine RunL.ok (OpOk.asT (OpOk.gtr rfl rfl) (by omega)) rfl ?_
  refine RunL.nil ?_
  refine Run.condT rfl ?_
  refine Run.region ?_
  refine RunL.ok (OpOk.move rfl) rfl ?_
  refine RunL.ok (OpOk.nilOk rfl) rfl ?_
  refine RunL.ok (OpOk.fieldAddr fld177_1 rfl) rfl ?_
  refine RunL.ok (OpOk.load rfl rfl rfl (Blk.out Blk.pts _ _ (by first | rfl | assumption))) rfl ?_
  refine RunL.ok (OpOk.sub rfl rfl (wrapI (by omega) (by omega))) rfl ?_
  refine RunL.ok (OpOk.nilOk rfl) rfl ?_
  refine RunL.ok (OpOk.fieldAddr fld177_1 rfl) rfl ?_
  refine RunL.storeCrd ti3 rfl rfl rfl hx ?_
  have hf2 := hfit (w - 1)
  refine RunL.nil ?_
  refine Run.seq ?_
  refine Run.region ?_
  refine RunL.ok (OpOk.move rfl) rfl ?_
  refine RunL.ok (OpOk.move rfl) rfl ?_
  refine RunL.copyAt rfl ti5 rfl rfl rfl rfl rd.left (by first | exact B_one _ | assumption) (by first | omega | assumption) (by omega) rfl ?_
  refine RunL.nil ?_
  refine Run.seq ?_
  refine Run.region ?_
  refine RunL.ok (OpOk.assign rfl) rfl ?_
  refine RunL.nil ?_
  refine Run.ret1 Try.func115 rfl rfl ?_
  rw [crd_set hx (by omega)]
  exact ⟨rfl, rfl⟩
end
end
end Go.Proofs.Yteopadjihklkmaa
end
