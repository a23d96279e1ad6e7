/- Keys of four numbers, and such a key with a text: how they compare. Words of our own. -/
import Derived.Test.YteopadjihklkmaaMp
namespace Go.Proofs.Yteopadjihklkmaa
open Go Go.Proofs
abbrev K4 := Int × Int × Int × Int
def k4 (p : K4) : Value := .agg #[.int .i64 p.1, .int .i64 p.2.1, .int .i64 p.2.2.1, .int .i64 p.2.2.2]
def km (p : K4 × List UInt8) : Value := .agg #[.int .i64 p.1.1, .int .i64 p.1.2.1, .int .i64 p.1.2.2.1, .int .i64 p.1.2.2.2, S p.2]
section
variable {P : Program} {w : World} {d : Nat} {f : Field} {fs : List Field} {xs ys : Array Value}
theorem step_int {a b : Int} (hn : (f.name == "_") = false) (h : P.underlying f.type = some (.int .i64)) (hx : xs[f.offset]? = some (.int .i64 a)) (hy : ys[f.offset]? = some (.int .i64 b)) :
    (Op.eqFields (d + 1) xs ys (f :: fs)).run P w = if a = b then (Op.eqFields (d + 1) xs ys fs).run P w else .ok false w := by
  have hn' : f.name ≠ "_" := by simpa using hn
  have p0 : (part f.type xs f.offset).run P w = .ok (.int .i64 a) w := run_part_int w h hx
  have p1 : (part f.type ys f.offset).run P w = .ok (.int .i64 b) w := run_part_int w h hy
  have q0 : (Op.equalIn (d + 1) f.type (.int .i64 a) (.int .i64 b)).run P w = .ok (a == b) w := run_equalIn_int _ d _ _ _ _ _ h
  simp only [Op.eqFields, if_pos hn', Sem.run_bind, p0, p1, q0, Result.andThen_ok]
  by_cases e : a = b
  · simp [e]
  · simp [e]
theorem run_equalIn_str {t : TypeId} (h : P.underlying t = some .string) (a b : List UInt8) : (Op.equalIn (d + 1) t (S a) (S b)).run P w = .ok (decide (a = b)) w := by
  have e : ((⟨a.toArray⟩ : ByteArray) == ⟨b.toArray⟩) = decide (a = b) := by
    rw [beq_toListBytes, toList_eq_iff]
    exact decide_eq_decide.2 (ba_eq a b)
  simp only [Op.equalIn, Sem.run_bind, run_underlying h, Result.andThen_ok, S, Sem.run_pure, e]
theorem run_part_str {t : TypeId} {off : Nat} {a : List UInt8} (h : P.underlying t = some .string) (hv : xs[off]? = some (S a)) : (part t xs off).run P w = .ok (S a) w := by
  simp only [part, Sem.run_bind, run_isAgg w h, aggD, Result.andThen_ok, Bool.false_eq_true, if_false, hv, Sem.run_pure]
theorem step_str {a b : List UInt8} (hn : (f.name == "_") = false) (h : P.underlying f.type = some .string) (hx : xs[f.offset]? = some (S a)) (hy : ys[f.offset]? = some (S b)) :
    (Op.eqFields (d + 1) xs ys (f :: fs)).run P w = if a = b then (Op.eqFields (d + 1) xs ys fs).run P w else .ok false w := by
  have hn' : f.name ≠ "_" := by simpa using hn
  simp only [Op.eqFields, if_pos hn', Sem.run_bind, run_part_str h hx, run_part_str h hy, run_equalIn_str h, Result.andThen_ok]
  by_cases e : a = b
  · simp [e]
  · simp [e]
end
structure Four (P : Program) (t : TypeId) : Prop where
  out : ∃ f0 f1 f2 f3 : Field, P.underlying t = some (.struct #[f0, f1, f2, f3]) ∧ P.stoodInHeld t = false ∧ P.eqGuardType P.depth t = false ∧ P.cellsOf t = 4 ∧
    ((f0.name == "_") = false ∧ (f1.name == "_") = false ∧ (f2.name == "_") = false ∧ (f3.name == "_") = false) ∧ (f0.offset = 0 ∧ f1.offset = 1 ∧ f2.offset = 2 ∧ f3.offset = 3) ∧
    P.underlying f0.type = some (.int .i64) ∧ P.underlying f1.type = some (.int .i64) ∧ P.underlying f2.type = some (.int .i64) ∧ P.underlying f3.type = some (.int .i64)
section
variable {P : Program} {n : Nat} {w0 w : World} {E : Env} {A : Asn} {ty t : TypeId}
theorem run_equal_four {d : Nat} (h : Four P t) (p q : K4) : (Op.equalIn (d + 2) t (k4 p) (k4 q)).run P w = .ok (decide (p = q)) w := by
  obtain ⟨f0, f1, f2, f3, hu, hp, _, _, ⟨n0, n1, n2, n3⟩, ⟨o0, o1, o2, o3⟩, h0, h1, h2, h3⟩ := h.out
  have hf : P.fieldsOf t = #[f0, f1, f2, f3] := by simp [Program.fieldsOf, hu]
  obtain ⟨a, b, c, e⟩ := p
  obtain ⟨a', b', c', e'⟩ := q
  unfold k4
  rw [run_equalIn_struct (P := P) w (d + 1) t _ _ (by rw [hf]; exact hu) hp, hf]
  show (Op.eqFields (d + 1) _ _ [f0, f1, f2, f3]).run P w = _
  rw [step_int (a := a) (b := a') n0 h0 (by rw [o0]; rfl) (by rw [o0]; rfl), step_int (a := b) (b := b') n1 h1 (by rw [o1]; rfl) (by rw [o1]; rfl), step_int (a := c) (b := c') n2 h2 (by rw [o2]; rfl) (by rw [o2]; rfl), step_int (a := e) (b := e') n3 h3 (by rw [o3]; rfl) (by rw [o3]; rfl)]
  by_cases e0 : a = a'
  · by_cases e1 : b = b'
    · by_cases e2 : c = c'
      · by_cases e3 : e = e'
        · simp [e0, e1, e2, e3, Op.eqFields]
        · simp [e0, e1, e2, e3]
      · simp [e0, e1, e2]
    · simp [e0, e1]
  · simp [e0]
theorem OpOk.eqlK4 {u : TypeId} {x y : Operand} {p q : K4} (h : Four P t) (hx : ev E x = some (k4 p)) (hy : ev E y = some (k4 q)) : OpOk P n w0 (.binOp .eql t x y u) ty E A (.bool (decide (p = q))) :=
  .pure fun w' w _ _ _ _ he => by
    obtain ⟨f0, f1, f2, f3, hu, hp, hg, _⟩ := h.out
    have e1 := run_equal_four (w := w) (d := 9998) h p q
    have e2 := run_eqGuard_agg (P := P) (w := w) .eql t x y #[.int .i64 p.1, .int .i64 p.2.1, .int .i64 p.2.2.1, .int .i64 p.2.2.2] #[.int .i64 q.1, .int .i64 q.2.1, .int .i64 q.2.2.1, .int .i64 q.2.2.2] hg
    have e3 := run_eql_struct (P := P) (w := w) t #[.int .i64 p.1, .int .i64 p.2.1, .int .i64 p.2.2.1, .int .i64 p.2.2.2] #[.int .i64 q.1, .int .i64 q.2.1, .int .i64 q.2.2.1, .int .i64 q.2.2.2]
    unfold k4 at e1 hx hy
    rw [e1] at e3
    simp only [execOp, he.eval hx, he.eval hy, Sem.run_bind, e2, e3, Result.andThen_ok]
    rfl
theorem OpOk.neqK4 {u : TypeId} {x y : Operand} {p q : K4} (h : Four P t) (hx : ev E x = some (k4 p)) (hy : ev E y = some (k4 q)) : OpOk P n w0 (.binOp .neq t x y u) ty E A (.bool (!decide (p = q))) :=
  .pure fun w' w _ _ _ _ he => by
    obtain ⟨f0, f1, f2, f3, hu, hp, hg, _⟩ := h.out
    have e1 := run_equal_four (w := w) (d := 9998) h p q
    have e2 := run_eqGuard_agg (P := P) (w := w) .neq t x y #[.int .i64 p.1, .int .i64 p.2.1, .int .i64 p.2.2.1, .int .i64 p.2.2.2] #[.int .i64 q.1, .int .i64 q.2.1, .int .i64 q.2.2.1, .int .i64 q.2.2.2] hg
    have e3 := run_neq_struct (P := P) (w := w) t #[.int .i64 p.1, .int .i64 p.2.1, .int .i64 p.2.2.1, .int .i64 p.2.2.2] #[.int .i64 q.1, .int .i64 q.2.1, .int .i64 q.2.2.1, .int .i64 q.2.2.2]
    unfold k4 at e1 hx hy
    rw [e1] at e3
    simp only [execOp, he.eval hx, he.eval hy, Sem.run_bind, e2, e3, Result.andThen_ok]
    rfl
theorem run_part_four {off : Nat} {cs : Array Value} (h : Four P t) : (part t cs off).run P w = .ok (.agg (cs.extract off (off + 4))) w := by
  obtain ⟨f0, f1, f2, f3, hu, _, _, hz, _⟩ := h.out
  obtain ⟨i, hi⟩ := info_of_underlying hu
  simp [part, isAgg, run_underlying hu, run_sizeOf w hi, hz]
theorem run_check_four {em : Bool} {d : Nat} (h : Four P t) (p : K4) : (Instr.checkKey em (d + 2) t (k4 p)).run P w = .ok () w := by
  obtain ⟨f0, f1, f2, f3, hu, _, _, _, _, ⟨o0, o1, o2, o3⟩, h0, h1, h2, h3⟩ := h.out
  refine run_checkKey_struct (d := d + 1) hu fun f hf => ?_
  simp only [List.mem_cons, List.not_mem_nil, or_false] at hf
  rcases hf with rfl | rfl | rfl | rfl
  · exact ⟨_, run_part_int w h0 (by rw [o0]; rfl), run_checkKey_int (d := d) h0⟩
  · exact ⟨_, run_part_int w h1 (by rw [o1]; rfl), run_checkKey_int (d := d) h1⟩
  · exact ⟨_, run_part_int w h2 (by rw [o2]; rfl), run_checkKey_int (d := d) h2⟩
  · exact ⟨_, run_part_int w h3 (by rw [o3]; rfl), run_checkKey_int (d := d) h3⟩
/-- A struct of such a key and a text. -/
structure KeyStr (P : Program) (t : TypeId) : Prop where
  out : ∃ f0 f1 : Field, P.underlying t = some (.struct #[f0, f1]) ∧ P.stoodInHeld t = false ∧ (f0.name == "_") = false ∧ (f1.name == "_") = false ∧ f0.offset = 0 ∧ f1.offset = 4 ∧ Four P f0.type ∧ P.underlying f1.type = some .string
theorem keyStr (h : KeyStr P t) : KeyT P t km := by
  obtain ⟨f0, f1, hu, hp, n0, n1, o0, o1, h0, h1⟩ := h.out
  refine ⟨⟨_, hu⟩, fun a => ⟨_, rfl⟩, fun w em a => ?_, fun w a b => ?_, fun a => by
    have e : ((⟨a.2.toArray⟩ : ByteArray) == ⟨a.2.toArray⟩) = true := by rw [beq_toListBytes]; simp
    simp [km, S, Instr.sameBits, e]⟩
  · refine run_checkKey_struct (d := 9999) hu fun f hf => ?_
    simp only [List.mem_cons, List.not_mem_nil, or_false] at hf
    rcases hf with rfl | rfl
    · exact ⟨_, run_part_four h0, by rw [o0]; exact run_check_four (d := 9997) h0 a.1⟩
    · refine ⟨_, run_part_str (a := a.2) h1 (by rw [o1]; rfl), ?_⟩
      rw [Instr.checkKey]
      simp [run_underlying h1, S]
  · have hf : P.fieldsOf t = #[f0, f1] := by simp [Program.fieldsOf, hu]
    obtain ⟨p, s⟩ := a
    obtain ⟨q, z⟩ := b
    unfold km
    show (Op.equalIn (9999 + 1) _ _ _).run P w = _
    rw [run_equalIn_struct (P := P) w 9999 t _ _ (by rw [hf]; exact hu) hp, hf]
    show (Op.eqFields 9999 _ _ [f0, f1]).run P w = _
    have hn' : f0.name ≠ "_" := by simpa using n0
    have e0 : ∀ (k : K4) (c : List UInt8), (part f0.type #[.int .i64 k.1, .int .i64 k.2.1, .int .i64 k.2.2.1, .int .i64 k.2.2.2, S c] f0.offset).run P w = .ok (k4 k) w := fun k c => by
      rw [run_part_four h0, o0]; rfl
    have e1 := run_equal_four (w := w) (d := 9997) h0 p q
    rw [Op.eqFields]
    simp only [if_pos hn', Sem.run_bind, e0, e1, Result.andThen_ok]
    by_cases e : p = q
    · simp only [e, decide_true, Bool.not_true, Bool.false_eq_true, if_false]
      rw [step_str (d := 9998) (a := s) (b := z) n1 h1 (by rw [o1]; rfl) (by rw [o1]; rfl)]
      by_cases e2 : s = z
      · simp [e2, Op.eqFields]
      · simp [e2]
    · simp [e]
end
end Go.Proofs.Yteopadjihklkmaa
