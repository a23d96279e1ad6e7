/- The law ShellFormats: Format writes what the document says, as far as power goes; a card that is formatted to the end says so. -/
import Derived.Test.YteopadjihklkmaaMShellFormats13
import Derived.Test.YteopadjihklkmaaRows
import Derived.ProofKit
import Derived.SizedLaws
import Derived.ChangeSlices
import Derived.OpenShut
section
namespace Go.Proofs.Yteopadjihklkmaa
open Go Go.ChangeShapes Go.WideShapes
theorem law_walk {P : Program} {W : World} {f : FuncId} {args : List Value} (h : Spec P W f args (old W) (fun v' A' => v' = .bool true ∧ Grew (old W) A')) :
    Calls P f args.toArray W fun e W' => e = .returned (.bool true) ∧ RowKit.Below W.heap.size W W' := by
  refine (h.out W (Sat.start W)).mono ?_
  rintro e W' ⟨v, A', ⟨rfl, ⟨J, rfl⟩⟩, rfl, hs⟩
  exact ⟨rfl, (hs.conv (sep_comm _ _)).below⟩
section
variable {H : Type} {enc : TypeId × Value → H} {P : Program} {W : World}
end
end Go.Proofs.Yteopadjihklkmaa
end

section
namespace Go.Proofs.Yteopadjihklkmaa
open Go Go.ChangeShapes Go.WideShapes
/-- A type's values: their cells, what holds of them in the first world, their sizes. -/
structure Cod where
  α : Type
  enc : α → List Value
  good : World → α → Prop
  sized : α → Prop
  bulk : α → Nat
structure Rep (P : Program) (W : World) (e : TypeId) (C : Cod) (n : Nat) : Prop where
  cells : P.cellsOf e = n
  len : ∀ a, (C.enc a).length = n
  out : ∀ {H : Type} {enc : TypeId × Value → H} (fuel : Nat) (cs : List Value) (x : DataW H × List MemPlace), DataW.trod enc P W 0 (fun _ => true) true fuel e cs = some x →
    ∃ a, cs = C.enc a ∧ C.good W a ∧ ((∀ q ∈ x.1.weights P e, q ≤ reachBytes) → C.sized a) ∧ C.bulk a ≤ Rows.uptoBulk x.1
def cI : Cod := ⟨Int, fun n => [.int .i64 n], fun _ n => -9223372036854775808 ≤ n ∧ n ≤ 9223372036854775807, fun _ => True, fun _ => 1⟩
def cU : Cod := ⟨UInt8, fun n => [.int .u8 (n.toNat : Int)], fun _ _ => True, fun _ => True, fun _ => 1⟩
/-- A slice: the value, and its elements. -/
def cV (C : Cod) (size bytes : Nat) : Cod := ⟨Value × List C.α, fun p => [p.1], fun W p => Rd W (old W) p.1 size p.2.length (Fl C.enc p.2) ∧ ∀ y ∈ p.2, C.good W y, fun p => p.2.length * bytes ≤ reachBytes ∧ ∀ y ∈ p.2, C.sized y,
  fun p => (p.2.map C.bulk).sum + 1⟩
def cP (C D : Cod) : Cod := ⟨C.α × D.α, fun p => C.enc p.1 ++ D.enc p.2, fun W p => C.good W p.1 ∧ D.good W p.2, fun p => C.sized p.1 ∧ D.sized p.2, fun p => C.bulk p.1 + D.bulk p.2⟩
theorem rep_i {P : Program} {W : World} {e : TypeId} (h : P.underlying e = some (.int .i64)) (hc : P.cellsOf e = 1) : Rep P W e cI 1 :=
  ⟨hc, fun _ => rfl, fun fuel cs x hx => by
    obtain ⟨n, rfl, rfl, hw⟩ := DataW.trod_int h hx
    have : -9223372036854775808 ≤ n ∧ n ≤ 9223372036854775807 := by simpa [Lit.wf, IntKind.min, IntKind.max, IntKind.signed, IntKind.bits] using hw
    exact ⟨n, rfl, this, fun _ => trivial, by simp [cI, Rows.uptoBulk]⟩⟩
theorem rep_u {P : Program} {W : World} {e : TypeId} (h : P.underlying e = some (.int .u8)) (hc : P.cellsOf e = 1) : Rep P W e cU 1 :=
  ⟨hc, fun _ => rfl, fun fuel cs x hx => by
    obtain ⟨n, rfl, rfl, hw⟩ := DataW.trod_int h hx
    have : 0 ≤ n ∧ n ≤ 255 := by simpa [Lit.wf, IntKind.min, IntKind.max, IntKind.signed, IntKind.bits] using hw
    refine ⟨UInt8.ofNat n.toNat, ?_, trivial, fun _ => trivial, by simp [cU, Rows.uptoBulk]⟩
    simp only [cU, UInt8.toNat_ofNat', List.cons.injEq, Value.int.injEq, true_and, and_true]
    omega⟩
theorem weights_all {H : Type} {P : Program} {e : TypeId} {l : List (DataW H)} {d : DataW H} (h : d ∈ l) : ∀ q ∈ d.weights P e, q ∈ DataW.weightsAll P e l := by
  induction l with
  | nil => cases h
  | cons x r ih =>
    intro q hq
    simp only [DataW.weightsAll, List.mem_append]
    rcases List.mem_cons.1 h with rfl | h
    · exact .inl hq
    · exact .inr (ih h q hq)
theorem Fl_at {α : Type} {enc : α → List Value} {s : Nat} (hl : ∀ x, (enc x).length = s) : ∀ {xs : List α} {j : Nat} {u : Value}, (Fl enc xs)[j]? = some u → ∃ i, i < xs.length ∧ ∃ a, xs[i]? = some a ∧ ∃ k, k < s ∧ j = i * s + k ∧ (enc a)[k]? = some u
  | [], j, u, h => by simp [Fl] at h
  | x :: r, j, u, h => by
    simp only [Fl, List.flatMap_cons] at h
    rw [List.getElem?_append] at h
    by_cases hj : j < (enc x).length
    · rw [if_pos hj] at h
      exact ⟨0, by simp, x, by simp, j, by rw [← hl x]; exact hj, by simp, h⟩
    · rw [if_neg hj] at h
      obtain ⟨i, hi, a, ha, k, hk, he, hu⟩ := Fl_at hl (xs := r) h
      refine ⟨i + 1, by simpa using hi, a, by simpa using ha, k, hk, ?_, hu⟩
      rw [hl] at he hj
      rw [Nat.succ_mul]
      omega
theorem rep_v {P : Program} {W : World} {t e : TypeId} {C : Cod} {size bytes : Nat} (h : P.underlying t = some (.slice e)) (hc : P.cellsOf t = 1) (hb : P.bytesOf e = bytes) (R : Rep P W e C size) : Rep P W t (cV C size bytes) 1 :=
  ⟨hc, fun _ => rfl, fun fuel cs x hx => by
    rcases Go.Deep.open_slice h hx with ⟨rfl, rfl⟩ | ⟨a, len, cap, m, n, D, Pl, rfl, _, hlc, hcm, hm, rfl, hel⟩
    · refine ⟨(.slice none 0 0, []), rfl, ⟨Rd.nil size, by simp⟩, fun _ => ⟨by simp, by simp⟩, by simp [cV, Rows.uptoBulk]⟩
    · simp only [if_true] at hm
      subst hm
      have key : ∀ i, i < len → ∃ y : C.α, W.cells? 0 (a.add (i * size)) size = some (C.enc y) ∧ C.good W y ∧ ((∀ q ∈ (D i).weights P e, q ≤ reachBytes) → C.sized y) ∧ C.bulk y ≤ Rows.uptoBulk (D i) := fun i hi => by
        obtain ⟨cs', h1, h2⟩ := hel i (by omega)
        obtain ⟨y, rfl, g1, g2, g3⟩ := R.out _ _ _ h2
        rw [R.cells] at h1
        exact ⟨y, h1, g1, g2, g3⟩
      have build : ∀ l, l ≤ len → ∃ ys : List C.α, ys.length = l ∧ ∀ i y, ys[i]? = some y → W.cells? 0 (a.add (i * size)) size = some (C.enc y) ∧ C.good W y ∧ ((∀ q ∈ (D i).weights P e, q ≤ reachBytes) → C.sized y) ∧ C.bulk y ≤ Rows.uptoBulk (D i) := by
        intro l
        induction l with
        | zero => intro _; exact ⟨[], rfl, by simp⟩
        | succ l ih =>
          intro hl
          obtain ⟨ys, h1, h2⟩ := ih (by omega)
          obtain ⟨y, hy⟩ := key l (by omega)
          refine ⟨ys ++ [y], by simp [h1], fun i z hz => ?_⟩
          rw [List.getElem?_append] at hz
          by_cases hi : i < ys.length
          · rw [if_pos hi] at hz; exact h2 i z hz
          · rw [if_neg hi] at hz
            have hi2 : i - ys.length < 1 := by
              have := (List.getElem?_eq_some_iff.1 hz).1
              simpa using this
            have hi3 : i = l := by omega
            subst hi3
            rw [h1, Nat.sub_self] at hz
            simp at hz
            subst hz
            exact hy
      obtain ⟨ys, hys, hall⟩ := build len (Nat.le_refl _)
      have hmem : ∀ y ∈ ys, ∃ i, i < len ∧ ys[i]? = some y := fun y hy => by
        obtain ⟨i, hi, he⟩ := List.mem_iff_getElem.1 hy
        exact ⟨i, by omega, by rw [List.getElem?_eq_getElem hi, he]⟩
      refine ⟨(.slice (some a) len m, ys), rfl, ⟨⟨by rw [Fl_length R.len], by simp only [hys]; omega, some a, m, by simp [hys], by simp only [hys]; omega, fun _ => ⟨a, rfl, fun j u hj => ?_⟩⟩, fun y hy => ?_⟩, fun hq => ⟨?_, fun y hy => ?_⟩, ?_⟩
      · obtain ⟨i, hi, y, hy, k, hk, rfl, hu⟩ := Fl_at R.len hj
        obtain ⟨hcells, _⟩ := hall i y hy
        obtain ⟨_, _, hcell⟩ := World.cells?_some hcells
        have := hcell k hk
        rw [hu, Go.Deep.add_add] at this
        exact Cell.base0 this
      · obtain ⟨i, _, he⟩ := hmem y hy
        exact (hall i y he).2.1
      · have := hq ((((List.range len).map D).length + ((List.range (m - len)).map fun j => D (len + j)).length) * P.bytesOf e) (by simp [DataW.weights, h])
        rw [hb] at this
        simp only [List.length_map, List.length_range] at this
        simp only [hys]
        exact Nat.le_trans (Nat.mul_le_mul_right _ (by omega)) this
      · obtain ⟨i, hi, he⟩ := hmem y hy
        refine (hall i y he).2.2.1 fun q hqi => hq q ?_
        simp only [DataW.weights, h, List.mem_cons, List.mem_append]
        exact .inr (.inl (weights_all (List.mem_map.2 ⟨i, List.mem_range.2 hi, rfl⟩) q hqi))
      · simp only [cV, Rows.uptoBulk]
        have hb2 : ∀ l, l ≤ len → ((ys.take l).map C.bulk).sum ≤ Rows.uptoBulkAll ((List.range l).map D) := by
          intro l
          induction l with
          | zero => intro _; simp [Rows.uptoBulkAll]
          | succ l ih =>
            intro hl
            have happ : ∀ {H' : Type} (u v : List (DataW H')), Rows.uptoBulkAll (u ++ v) = Rows.uptoBulkAll u + Rows.uptoBulkAll v := by
              intro H' u v
              induction u with
              | nil => simp [Rows.uptoBulkAll]
              | cons q r ih2 => simp only [List.cons_append, Rows.uptoBulkAll, ih2]; omega
            rw [List.range_succ, List.map_append, happ, List.take_succ_eq_append_getElem (by omega), List.map_append, List.sum_append]
            have h1 := ih (by omega)
            have h2 := (hall l ys[l] (by rw [List.getElem?_eq_getElem (by omega)])).2.2.2
            simp only [List.map_cons, List.map_nil, List.sum_cons, List.sum_nil, Rows.uptoBulkAll]
            omega
        have := hb2 len (Nat.le_refl _)
        rw [List.take_of_length_le (by omega)] at this
        omega⟩
/-- The fields of a struct, from a place on. -/
structure RepF (P : Program) (W : World) (fs : List Field) (o : Nat) (C : Cod) (n : Nat) : Prop where
  len : ∀ a, (C.enc a).length = n
  out : ∀ {H : Type} {enc : TypeId × Value → H} (fuel : Nat) (cs : List Value) (xs : List (DataW H × List MemPlace)), xs.length = fs.length → o + n ≤ cs.length →
    (∀ (i : Nat) (f : Field), fs[i]? = some f → DataW.trod enc P W 0 (fun _ => true) true fuel f.type ((cs.drop f.offset).take (P.cellsOf f.type)) = xs[i]?) →
    ∃ a, (cs.drop o).take n = C.enc a ∧ C.good W a ∧ ((∀ q ∈ DataW.weightsEach P (fs.map (·.type)) (xs.map (·.1)), q ≤ reachBytes) → C.sized a) ∧ C.bulk a ≤ Rows.uptoBulkAll (xs.map (·.1))
theorem repF_one {P : Program} {W : World} {f : Field} {o : Nat} {C : Cod} {n : Nat} (ho : f.offset = o) (R : Rep P W f.type C n) : RepF P W [f] o C n :=
  ⟨R.len, fun fuel cs xs hl hn h => by
    have h0 := h 0 f rfl
    match xs, hl with
    | [x], _ =>
      simp only [List.getElem?_cons_zero] at h0
      obtain ⟨a, h1, h2, h3, h4⟩ := R.out _ _ _ h0
      rw [ho, R.cells] at h1
      refine ⟨a, h1, h2, fun hq => h3 fun q hq' => hq q ?_, ?_⟩
      · simp [DataW.weightsEach, hq']
      · simpa [Rows.uptoBulkAll] using h4⟩
theorem repF_cons {P : Program} {W : World} {f : Field} {fs : List Field} {o : Nat} {C D : Cod} {n m : Nat} (ho : f.offset = o) (R : Rep P W f.type C n) (R2 : RepF P W fs (o + n) D m) : RepF P W (f :: fs) o (cP C D) (n + m) :=
  ⟨fun a => by simp [cP, R.len, R2.len], fun fuel cs xs hl hn h => by
    match xs, hl with
    | x :: xr, hl =>
      have h0 := h 0 f rfl
      simp only [List.getElem?_cons_zero] at h0
      obtain ⟨a, h1, h2, h3, h4⟩ := R.out _ _ _ h0
      rw [ho, R.cells] at h1
      obtain ⟨b, g1, g2, g3, g4⟩ := R2.out fuel cs xr (by simpa using hl) (by omega) (fun i f' hi => by simpa using h (i + 1) f' (by simpa using hi))
      refine ⟨(a, b), ?_, ⟨h2, g2⟩, fun hq => ⟨h3 fun q hq' => hq q ?_, g3 fun q hq' => hq q ?_⟩, ?_⟩
      · simp only [cP]
        rw [← h1, ← g1, ← List.drop_drop, List.take_add]
      · simp [DataW.weightsEach, hq']
      · simp [DataW.weightsEach]; exact .inr (by simpa using hq')
      · simp only [cP, List.map_cons, Rows.uptoBulkAll]; omega⟩
theorem rep_t {P : Program} {W : World} {t : TypeId} {fs : Array Field} {C : Cod} {n : Nat} (h : P.underlying t = some (.struct fs)) (hc : P.cellsOf t = n) (R : RepF P W fs.toList 0 C n) : Rep P W t C n :=
  ⟨hc, R.len, fun fuel cs x hx => by
    obtain ⟨xs, m, rfl, rfl, hcl, hxl, hf⟩ := DataW.trod_struct h hx
    rw [hc] at hcl
    obtain ⟨a, h1, h2, h3, h4⟩ := R.out m cs xs (by simpa using hxl) (by omega) (fun i f hi => hf i f (by simpa using hi))
    refine ⟨a, ?_, h2, fun hq => h3 fun q hq' => hq q ?_, ?_⟩
    · rw [← h1, List.drop_zero, List.take_of_length_le (by omega)]
    · simpa [DataW.weights, h] using hq'
    · simp only [Rows.uptoBulk]; omega⟩
/-- An argument that is a slice of such things. -/
theorem open_any {H : Type} {enc : TypeId × Value → H} {P : Program} {W : World} {t : TypeId} {C : Cod} {n : Nat} {v : Value} {d : DataW H} {ps : List MemPlace} (R : Rep P W t C n) (h : DataW.Trod enc P W 0 (fun _ => true) true t v d ps) :
    ∃ a, v.cells.toList = C.enc a ∧ C.good W a ∧ ((∀ q ∈ d.weights P t, q ≤ reachBytes) → C.sized a) ∧ C.bulk a ≤ Rows.uptoBulk d := by
  obtain ⟨fuel, hf⟩ := h
  exact R.out _ _ _ hf
theorem Fl_u : ∀ xs : List UInt8, Fl cU.enc xs = B xs
  | [] => rfl
  | x :: r => congrArg (Value.int .u8 (x.toNat : Int) :: ·) (Fl_u r)
theorem open_t {H : Type} {enc : TypeId × Value → H} {P : Program} {W : World} {t : TypeId} {fs : Array Field} {C : Cod} {n base : Nat} {v : Value} {d : DataW H} {ps : List MemPlace} (ht : P.underlying t = some (.struct fs)) (R : Rep P W t C n) (h : DataW.Trod enc P W 0 (fun _ => true) true t v d ps) (hv : Value.okWide P W .any base t v) :
    ∃ a, v = .agg (C.enc a).toArray ∧ C.good W a ∧ ((∀ q ∈ d.weights P t, q ≤ reachBytes) → C.sized a) ∧ C.bulk a ≤ Rows.uptoBulk d := by
  obtain ⟨a, h1, h2, h3, h4⟩ := open_any R h
  simp only [Value.okWide, ht] at hv
  obtain ⟨cs, rfl, _⟩ := hv
  exact ⟨a, by rw [← h1]; simp [Value.cells], h2, h3, h4⟩
end Go.Proofs.Yteopadjihklkmaa
end

section
namespace Go.Proofs.Yteopadjihklkmaa
open Go Go.ChangeShapes Go.WideShapes
def cW (C : Cod) (size bytes : Nat) : Cod := ⟨SV × List C.α, fun p => [p.1.1], fun W p => Rd W (old W) p.1.1 size p.2.length (Fl C.enc p.2) ∧ ∀ y ∈ p.2, C.good W y, fun p => p.2.length * bytes ≤ reachBytes ∧ ∀ y ∈ p.2, C.sized y,
  fun p => (p.2.map C.bulk).sum + 1⟩
theorem rep_w {P : Program} {W : World} {t e : TypeId} {C : Cod} {size bytes : Nat} (h : P.underlying t = some (.slice e)) (hc : P.cellsOf t = 1) (hb : P.bytesOf e = bytes) (R : Rep P W e C size) : Rep P W t (cW C size bytes) 1 :=
  ⟨hc, fun _ => rfl, fun fuel cs x hx => by
    obtain ⟨a, h1, h2, h3, h4⟩ := (rep_v h hc hb R).out fuel cs x hx
    exact ⟨(⟨a.1, Rd.one h2.1⟩, a.2), h1, h2, h3, h4⟩⟩
end Go.Proofs.Yteopadjihklkmaa
end

section
namespace Go.Proofs.Yteopadjihklkmaa
open Go Go.Proofs
set_option maxRecDepth 100000
set_option maxHeartbeats 4000000
theorem law_ex {P : Program} {w0 : World} {f : FuncId} {args : List Value} {A : Asn} (h : Spec P w0 f args A (fun v' A' => ∃ J, v' = .bool true ∧ A' = A * J)) : Spec P w0 f args A (fun v' A' => v' = .bool true ∧ Grew A A') := h.mono (by rintro v' A' ⟨J, h1, h2⟩; exact ⟨h1, ⟨J, h2⟩⟩)
abbrev cLo : Cod := cP (cW cU 1 1) (cP cI (cP cI cI))
theorem rep_lo (W : World) : Rep Try.prog W 100 cLo 4 := rep_t (n := 1 + (1 + (1 + 1))) Try.underlying100 (by rfl) (repF_cons rfl (rep_w (bytes := 1) Try.underlying63 (by rfl) (by rfl) (rep_u Try.underlying5 rfl)) (repF_cons rfl (rep_i Try.underlying3 rfl) (repF_cons rfl (rep_i Try.underlying3 rfl) (repF_one rfl (rep_i Try.underlying3 rfl)))))
set_option linter.unusedVariables false
theorem shellFormats_walk {H : Type} {enc : TypeId × Value → H} (W : World) (base : Nat) (v0 : Value) (d0 : DataW H) (p0 : List MemPlace) (h0 : DataW.Trod enc Try.prog W 0 (fun _ => true) true 100 v0 d0 p0) (o0 : Value.okWide Try.prog W .any base 100 v0)
    (hk : (DataW.weightsEach Try.prog [100] [d0]).all (· ≤ reachBytes) = true) : Calls Try.prog 11 #[v0] W fun e W' => e = .returned (.bool true) ∧ RowKit.Below W.heap.size W W' := by
  obtain ⟨⟨⟨v, bs⟩, a, b, n⟩, rfl, good, _, _⟩ := open_t Try.underlying100 (rep_lo W) h0 o0
  exact law_walk (law_ex (formats_spec (a := a) (b := b) (n := n) (Eq.mp (congrArg (Rd W (old W) v.1 1 (List.length bs)) (Fl_u bs)) good.1.1) good.2.2.2.2))
end Go.Proofs.Yteopadjihklkmaa
end
