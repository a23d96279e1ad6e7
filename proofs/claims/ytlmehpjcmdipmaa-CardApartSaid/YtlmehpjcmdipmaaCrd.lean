/- An array within a struct: slices of it, and copying into it. -/
import Derived.Test.YtlmehpjcmdipmaaBi
namespace Go.Proofs.Ytlmehpjcmdipmaa
open Go Go.Proofs
section
variable {P : Program} {n : Nat} {w0 : World} {ops : Array Oper} {l : List Oper} {K : Act → World → Prop} {E : Env} {A : Asn} {ty : TypeId} {ps : String} {af : Array Edge}
theorem OpOk.cutArr {t e : TypeId} {x lo hi : Operand} {b q N i j bytes : Nat} {z : Value} {k k2 : IntKind} (hu : P.underlying t = some (.array N e)) (hz : TyI P e z 1 bytes) (hx : ev E x = some (.pointer (some ⟨b, q, none⟩)))
    (hlo : ev E lo = some (.int k ((i : Nat) : Int))) (hhi : ev E hi = some (.int k2 ((j : Nat) : Int))) (h1 : i ≤ j) (h2 : j ≤ N) (h3 : i < N) :
    OpOk P n w0 (.slice t x (some lo) (some hi) none) ty E A (.slice (some ⟨b, q + i, none⟩) (j - i) (N - i)) := by
  refine .pure fun a w _ _ _ _ he => ?_
  obtain ⟨f, hf, hfz, hs, _⟩ := hz.get
  have e1 : P.arrayLen t = N := by simp [Program.arrayLen, hu]
  have e2 : P.elem t = e := by simp [Program.elem, hu]
  have ht : P.underlying t = some (.array (P.arrayLen t) (P.elem t)) := by rw [e1, e2]; exact hu
  have h := run_sliceAt_array_lh (P := P) w t ⟨b, q, none⟩ ht k k2 (i : Int) (j : Int) (Int.natCast_nonneg i) (by omega) (by rw [e1]; omega)
  have hne : ¬ N = i := by omega
  simp only [execOp, he.eval hx, he.eval hlo, he.eval hhi, Option.map_some, Option.map_none, Sem.run_bind, h]
  simp [sizeOf, typeInfo, e2, hf, hs, slicedAt, e1, hne]
  unfold Addr.add
  split <;> simp_all
theorem OpOk.cutArrA {t e : TypeId} {x : Operand} {b q N bytes : Nat} {z : Value} (hu : P.underlying t = some (.array N e)) (hz : TyI P e z 1 bytes) (hx : ev E x = some (.pointer (some ⟨b, q, none⟩))) (h3 : 0 < N) :
    OpOk P n w0 (.slice t x none none none) ty E A (.slice (some ⟨b, q, none⟩) N N) := by
  refine .pure fun a w _ _ _ _ he => ?_
  obtain ⟨f, hf, hfz, hs, _⟩ := hz.get
  have e1 : P.arrayLen t = N := by simp [Program.arrayLen, hu]
  have e2 : P.elem t = e := by simp [Program.elem, hu]
  have ht : P.underlying t = some (.array (P.arrayLen t) (P.elem t)) := by rw [e1, e2]; exact hu
  have h := run_sliceAt_array_all (P := P) w t ⟨b, q, none⟩ ht
  have hne : ¬ N = 0 := by omega
  simp only [execOp, he.eval hx, Option.map_none, Sem.run_bind, h]
  simp [sizeOf, typeInfo, e2, hf, hs, slicedAt, e1, hne]
  unfold Addr.add
  split <;> simp_all
/-- A slice of a block's cells. -/
theorem Rd.blk {b off m cap : Nat} {cs : List Value} {t : TypeId} {fr : Nat × Nat} (h1 : off + m ≤ cs.length) (h2 : m ≤ cap) (h3 : m ≤ maxLen) : Rd w0 (A * pts b (.cells cs.toArray t fr)) (.slice (some ⟨b, off, none⟩) m cap) 1 m ((cs.drop off).take m) := by
  refine ⟨by rw [List.length_take, List.length_drop]; omega, h3, _, cap, rfl, h2, fun _ => ⟨_, rfl, fun j u hj => ?_⟩⟩
  have hjl : j < m := by
    have := (List.getElem?_eq_some_iff.1 hj).1
    rw [List.length_take] at this
    omega
  rw [List.getElem?_take_of_lt hjl, List.getElem?_drop] at hj
  have ha : (⟨b, off, none⟩ : Addr).add j = ⟨b, off + j, none⟩ := by unfold Addr.add; split <;> simp_all
  rw [ha]
  exact Cell.pts (by simpa using hj)
theorem RunL.copyAt {d : Nat} {t u e t2 : TypeId} {x y : Operand} {v2 z : Value} {g off m k cap bytes : Nat} {cs ys : List Value} {A1 : Asn} {ats : Array TypeId} (hu : P.underlying t = some (.slice e)) (hz : TyI P e z 1 bytes) (hats : ats = #[t, u])
    (hx : ev E x = some (.slice (some ⟨g, off, none⟩) m cap)) (hy : ev E y = some v2) (hA : A = A1 * pts g (.cells cs.toArray t2 (0, 0))) (rd : Rd w0 A v2 1 k ys) (h1 : ∀ c ∈ ys, c.oneCell' = true) (hfit : off + m ≤ cs.length) (hk : k = m) (hd : Nat.blt d n = true)
    (r : RunL P n w0 ops l K ((d, .int .i64 (m : Int)) :: E) (A1 * pts g (.cells (cs.take off ++ (ys ++ cs.drop (off + m))).toArray t2 (0, 0)))) :
    RunL P n w0 ops ({ dst := some d, op := .call { callee := .builtin .copy, args := #[x, y], argTypes := ats }, type := ty, pos := ps, after := af, guard := none } :: l) K E A := by
  subst hA hats hk
  obtain ⟨f, hf, hfz, hs1, hb⟩ := hz.get
  have hsz : (P.info? e).map (·.size) = some 1 := by rw [hf]; simp [hs1]
  refine ⟨fun a w he hs => ?_⟩
  have hyl := rd.len
  rw [Nat.mul_one] at hyl
  obtain ⟨ad2, cap2, rfl, hc2, hat⟩ := rd.is
  rcases Nat.eq_zero_or_pos k with rfl | hpos
  · obtain rfl : ys = [] := List.eq_nil_of_length_eq_zero hyl
    refine wpList_copy_nothing rfl x y t u rfl e hu hsz _ ad2 0 cap 0 cap2 (he.eval hx) (he.eval hy) rfl ?_
    have e0 : cs.take off ++ (([] : List Value) ++ cs.drop (off + 0)) = cs := by simp
    rw [e0] at r
    have hh := r.out (a.put (some d) (.int .i64 ((0 : Nat) : Int))) w (he.put (Nat.le_of_ble_eq_true hd) _) hs
    simpa [goInt] using hh
  · obtain ⟨ad, rfl, hcell⟩ := hat hpos
    refine wpList_copy_own rfl x y t u rfl e hu hsz g off k cap ad k cap2 (he.eval hx) (he.eval hy) cs.toArray t2 hs.get ys (by rw [hyl]; simp) (fun j c hj => (hcell j c hj).out w hs) (by simp; omega) h1 ?_
    have hrow : cs.toArray.toList.take off ++ (ys ++ cs.toArray.toList.drop (off + ys.length)) = cs.take off ++ (ys ++ cs.drop (off + k)) := by rw [hyl]
    rw [hrow, hyl]
    have s3 : Sat w0 (w.setRow g (cs.take off ++ (ys ++ cs.drop (off + k))).toArray) (A1 * pts g (.cells (cs.take off ++ (ys ++ cs.drop (off + k))).toArray t2 (0, 0))) :=
      hs.upd rfl rfl rfl (by simp [World.setRow]) (fun q hq _ => setRow_other w g q _ hq) (setRow_heap w g _ _ t2 _ hs.get)
    have := r.out (a.put (some d) (.int .i64 (k : Int))) _ (he.put (Nat.le_of_ble_eq_true hd) _) s3
    simpa [goInt] using this
/-- The word behind the array. -/
theorem RunL.storeCrd {t t2 : TypeId} {x y : Operand} {b N : Nat} {k w : Int} {xs : List UInt8} {A1 : Asn} {zz : Value} {bb : Nat} (hz : TyI P t zz 1 bb) (hx : ev E x = some (.pointer (some ⟨b, 0 + N, none⟩))) (hy : ev E y = some (.int .i64 k))
    (hA : A = A1 * pts b (.cells (B xs ++ [Value.int .i64 w]).toArray t2 (0, 0))) (hl : xs.length = N) (r : RunL P n w0 ops l K E (A1 * pts b (.cells (B xs ++ [Value.int .i64 k]).toArray t2 (0, 0)))) :
    RunL P n w0 ops ({ dst := none, op := .store t x y, type := ty, pos := ps, after := af, guard := none } :: l) K E A := by
  have hb : (B xs).length = N := by rw [B_length, hl]
  refine RunL.store hz hx hy rfl hA (by simp; omega) (.inl rfl) ?_
  have e : (B xs ++ [Value.int .i64 w]).toArray.setIfInBounds (0 + N) (.int .i64 k) = (B xs ++ [Value.int .i64 k]).toArray := by
    rw [Nat.zero_add, List.setIfInBounds_toArray]
    congr 1
    rw [List.set_append_right _ _ (by omega), hb, Nat.sub_self]
    rfl
  rw [e]
  exact r
end
end Go.Proofs.Ytlmehpjcmdipmaa
