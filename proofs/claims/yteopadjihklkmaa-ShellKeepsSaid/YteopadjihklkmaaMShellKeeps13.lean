/- The law ShellKeeps: a change of one product leaves all others as they were, entries and bodies; the changed one has the new body. -/
import Derived.Test.YteopadjihklkmaaMShellKeeps12
import Derived.Test.YteopadjihklkmaaRows
import Derived.ProofKit
import Derived.SizedLaws
import Derived.ChangeSlices
import Derived.OpenShut
section
namespace Go.Proofs.Yteopadjihklkmaa
open Go Go.ChangeShapes Go.WideShapes
theorem law_walk {P : Program} {W : World} {f : FuncId} {args : List Value} (h : Spec P W f args (old W) (fun v' A' => v' = .bool true ∧ Grew (old W) A')) :
    Calls P f args.toArray W fun e W' => e = .returned (.bool true) ∧ RowKit.Below W.heap.size W W' := by
  refine (h.out W (Sat.start W)).mono ?_
  rintro e W' ⟨v, A', ⟨rfl, ⟨J, rfl⟩⟩, rfl, hs⟩
  exact ⟨rfl, (hs.conv (sep_comm _ _)).below⟩
section
variable {H : Type} {enc : TypeId × Value → H} {P : Program} {W : World}
end
end Go.Proofs.Yteopadjihklkmaa
end

section
namespace Go.Proofs.Yteopadjihklkmaa
open Go Go.ChangeShapes Go.WideShapes
/-- A type's values: their cells, what holds of them in the first world, their sizes. -/
structure Cod where
  α : Type
  enc : α → List Value
  good : World → α → Prop
  sized : α → Prop
  bulk : α → Nat
structure Rep (P : Program) (W : World) (e : TypeId) (C : Cod) (n : Nat) : Prop where
  cells : P.cellsOf e = n
  len : ∀ a, (C.enc a).length = n
  out : ∀ {H : Type} {enc : TypeId × Value → H} (fuel : Nat) (cs : List Value) (x : DataW H × List MemPlace), DataW.trod enc P W 0 (fun _ => true) true fuel e cs = some x →
    ∃ a, cs = C.enc a ∧ C.good W a ∧ ((∀ q ∈ x.1.weights P e, q ≤ reachBytes) → C.sized a) ∧ C.bulk a ≤ Rows.uptoBulk x.1
def cI : Cod := ⟨Int, fun n => [.int .i64 n], fun _ n => -9223372036854775808 ≤ n ∧ n ≤ 9223372036854775807, fun _ => True, fun _ => 1⟩
def cU : Cod := ⟨UInt8, fun n => [.int .u8 (n.toNat : Int)], fun _ _ => True, fun _ => True, fun _ => 1⟩
def cB : Cod := ⟨Bool, fun b => [.bool b], fun _ _ => True, fun _ => True, fun _ => 1⟩
/-- A slice: the value, and its elements. -/
def cV (C : Cod) (size bytes : Nat) : Cod := ⟨Value × List C.α, fun p => [p.1], fun W p => Rd W (old W) p.1 size p.2.length (Fl C.enc p.2) ∧ ∀ y ∈ p.2, C.good W y, fun p => p.2.length * bytes ≤ reachBytes ∧ ∀ y ∈ p.2, C.sized y,
  fun p => (p.2.map C.bulk).sum + 1⟩
def cP (C D : Cod) : Cod := ⟨C.α × D.α, fun p => C.enc p.1 ++ D.enc p.2, fun W p => C.good W p.1 ∧ D.good W p.2, fun p => C.sized p.1 ∧ D.sized p.2, fun p => C.bulk p.1 + D.bulk p.2⟩
theorem rep_i {P : Program} {W : World} {e : TypeId} (h : P.underlying e = some (.int .i64)) (hc : P.cellsOf e = 1) : Rep P W e cI 1 :=
  ⟨hc, fun _ => rfl, fun fuel cs x hx => by
    obtain ⟨n, rfl, rfl, hw⟩ := DataW.trod_int h hx
    have : -9223372036854775808 ≤ n ∧ n ≤ 9223372036854775807 := by simpa [Lit.wf, IntKind.min, IntKind.max, IntKind.signed, IntKind.bits] using hw
    exact ⟨n, rfl, this, fun _ => trivial, by simp [cI, Rows.uptoBulk]⟩⟩
theorem rep_u {P : Program} {W : World} {e : TypeId} (h : P.underlying e = some (.int .u8)) (hc : P.cellsOf e = 1) : Rep P W e cU 1 :=
  ⟨hc, fun _ => rfl, fun fuel cs x hx => by
    obtain ⟨n, rfl, rfl, hw⟩ := DataW.trod_int h hx
    have : 0 ≤ n ∧ n ≤ 255 := by simpa [Lit.wf, IntKind.min, IntKind.max, IntKind.signed, IntKind.bits] using hw
    refine ⟨UInt8.ofNat n.toNat, ?_, trivial, fun _ => trivial, by simp [cU, Rows.uptoBulk]⟩
    simp only [cU, UInt8.toNat_ofNat', List.cons.injEq, Value.int.injEq, true_and, and_true]
    omega⟩
theorem rep_b {P : Program} {W : World} {e : TypeId} (h : P.underlying e = some .bool) (hc : P.cellsOf e = 1) : Rep P W e cB 1 :=
  ⟨hc, fun _ => rfl, fun fuel cs x hx => by
    obtain ⟨b, rfl, rfl⟩ := DataW.trod_bool h hx
    exact ⟨b, rfl, trivial, fun _ => trivial, by simp [cB, Rows.uptoBulk]⟩⟩
theorem weights_all {H : Type} {P : Program} {e : TypeId} {l : List (DataW H)} {d : DataW H} (h : d ∈ l) : ∀ q ∈ d.weights P e, q ∈ DataW.weightsAll P e l := by
  induction l with
  | nil => cases h
  | cons x r ih =>
    intro q hq
    simp only [DataW.weightsAll, List.mem_append]
    rcases List.mem_cons.1 h with rfl | h
    · exact .inl hq
    · exact .inr (ih h q hq)
theorem Fl_at {α : Type} {enc : α → List Value} {s : Nat} (hl : ∀ x, (enc x).length = s) : ∀ {xs : List α} {j : Nat} {u : Value}, (Fl enc xs)[j]? = some u → ∃ i, i < xs.length ∧ ∃ a, xs[i]? = some a ∧ ∃ k, k < s ∧ j = i * s + k ∧ (enc a)[k]? = some u
  | [], j, u, h => by simp [Fl] at h
  | x :: r, j, u, h => by
    simp only [Fl, List.flatMap_cons] at h
    rw [List.getElem?_append] at h
    by_cases hj : j < (enc x).length
    · rw [if_pos hj] at h
      exact ⟨0, by simp, x, by simp, j, by rw [← hl x]; exact hj, by simp, h⟩
    · rw [if_neg hj] at h
      obtain ⟨i, hi, a, ha, k, hk, he, hu⟩ := Fl_at hl (xs := r) h
      refine ⟨i + 1, by simpa using hi, a, by simpa using ha, k, hk, ?_, hu⟩
      rw [hl] at he hj
      rw [Nat.succ_mul]
      omega
theorem rep_v {P : Program} {W : World} {t e : TypeId} {C : Cod} {size bytes : Nat} (h : P.underlying t = some (.slice e)) (hc : P.cellsOf t = 1) (hb : P.bytesOf e = bytes) (R : Rep P W e C size) : Rep P W t (cV C size bytes) 1 :=
  ⟨hc, fun _ => rfl, fun fuel cs x hx => by
    rcases Go.Deep.open_slice h hx with ⟨rfl, rfl⟩ | ⟨a, len, cap, m, n, D, Pl, rfl, _, hlc, hcm, hm, rfl, hel⟩
    · refine ⟨(.slice none 0 0, []), rfl, ⟨Rd.nil size, by simp⟩, fun _ => ⟨by simp, by simp⟩, by simp [cV, Rows.uptoBulk]⟩
    · simp only [if_true] at hm
      subst hm
      have key : ∀ i, i < len → ∃ y : C.α, W.cells? 0 (a.add (i * size)) size = some (C.enc y) ∧ C.good W y ∧ ((∀ q ∈ (D i).weights P e, q ≤ reachBytes) → C.sized y) ∧ C.bulk y ≤ Rows.uptoBulk (D i) := fun i hi => by
        obtain ⟨cs', h1, h2⟩ := hel i (by omega)
        obtain ⟨y, rfl, g1, g2, g3⟩ := R.out _ _ _ h2
        rw [R.cells] at h1
        exact ⟨y, h1, g1, g2, g3⟩
      have build : ∀ l, l ≤ len → ∃ ys : List C.α, ys.length = l ∧ ∀ i y, ys[i]? = some y → W.cells? 0 (a.add (i * size)) size = some (C.enc y) ∧ C.good W y ∧ ((∀ q ∈ (D i).weights P e, q ≤ reachBytes) → C.sized y) ∧ C.bulk y ≤ Rows.uptoBulk (D i) := by
        intro l
        induction l with
        | zero => intro _; exact ⟨[], rfl, by simp⟩
        | succ l ih =>
          intro hl
          obtain ⟨ys, h1, h2⟩ := ih (by omega)
          obtain ⟨y, hy⟩ := key l (by omega)
          refine ⟨ys ++ [y], by simp [h1], fun i z hz => ?_⟩
          rw [List.getElem?_append] at hz
          by_cases hi : i < ys.length
          · rw [if_pos hi] at hz; exact h2 i z hz
          · rw [if_neg hi] at hz
            have hi2 : i - ys.length < 1 := by
              have := (List.getElem?_eq_some_iff.1 hz).1
              simpa using this
            have hi3 : i = l := by omega
            subst hi3
            rw [h1, Nat.sub_self] at hz
            simp at hz
            subst hz
            exact hy
      obtain ⟨ys, hys, hall⟩ := build len (Nat.le_refl _)
      have hmem : ∀ y ∈ ys, ∃ i, i < len ∧ ys[i]? = some y := fun y hy => by
        obtain ⟨i, hi, he⟩ := List.mem_iff_getElem.1 hy
        exact ⟨i, by omega, by rw [List.getElem?_eq_getElem hi, he]⟩
      refine ⟨(.slice (some a) len m, ys), rfl, ⟨⟨by rw [Fl_length R.len], by simp only [hys]; omega, some a, m, by simp [hys], by simp only [hys]; omega, fun _ => ⟨a, rfl, fun j u hj => ?_⟩⟩, fun y hy => ?_⟩, fun hq => ⟨?_, fun y hy => ?_⟩, ?_⟩
      · obtain ⟨i, hi, y, hy, k, hk, rfl, hu⟩ := Fl_at R.len hj
        obtain ⟨hcells, _⟩ := hall i y hy
        obtain ⟨_, _, hcell⟩ := World.cells?_some hcells
        have := hcell k hk
        rw [hu, Go.Deep.add_add] at this
        exact Cell.base0 this
      · obtain ⟨i, _, he⟩ := hmem y hy
        exact (hall i y he).2.1
      · have := hq ((((List.range len).map D).length + ((List.range (m - len)).map fun j => D (len + j)).length) * P.bytesOf e) (by simp [DataW.weights, h])
        rw [hb] at this
        simp only [List.length_map, List.length_range] at this
        simp only [hys]
        exact Nat.le_trans (Nat.mul_le_mul_right _ (by omega)) this
      · obtain ⟨i, hi, he⟩ := hmem y hy
        refine (hall i y he).2.2.1 fun q hqi => hq q ?_
        simp only [DataW.weights, h, List.mem_cons, List.mem_append]
        exact .inr (.inl (weights_all (List.mem_map.2 ⟨i, List.mem_range.2 hi, rfl⟩) q hqi))
      · simp only [cV, Rows.uptoBulk]
        have hb2 : ∀ l, l ≤ len → ((ys.take l).map C.bulk).sum ≤ Rows.uptoBulkAll ((List.range l).map D) := by
          intro l
          induction l with
          | zero => intro _; simp [Rows.uptoBulkAll]
          | succ l ih =>
            intro hl
            have happ : ∀ {H' : Type} (u v : List (DataW H')), Rows.uptoBulkAll (u ++ v) = Rows.uptoBulkAll u + Rows.uptoBulkAll v := by
              intro H' u v
              induction u with
              | nil => simp [Rows.uptoBulkAll]
              | cons q r ih2 => simp only [List.cons_append, Rows.uptoBulkAll, ih2]; omega
            rw [List.range_succ, List.map_append, happ, List.take_succ_eq_append_getElem (by omega), List.map_append, List.sum_append]
            have h1 := ih (by omega)
            have h2 := (hall l ys[l] (by rw [List.getElem?_eq_getElem (by omega)])).2.2.2
            simp only [List.map_cons, List.map_nil, List.sum_cons, List.sum_nil, Rows.uptoBulkAll]
            omega
        have := hb2 len (Nat.le_refl _)
        rw [List.take_of_length_le (by omega)] at this
        omega⟩
/-- The fields of a struct, from a place on. -/
structure RepF (P : Program) (W : World) (fs : List Field) (o : Nat) (C : Cod) (n : Nat) : Prop where
  len : ∀ a, (C.enc a).length = n
  out : ∀ {H : Type} {enc : TypeId × Value → H} (fuel : Nat) (cs : List Value) (xs : List (DataW H × List MemPlace)), xs.length = fs.length → o + n ≤ cs.length →
    (∀ (i : Nat) (f : Field), fs[i]? = some f → DataW.trod enc P W 0 (fun _ => true) true fuel f.type ((cs.drop f.offset).take (P.cellsOf f.type)) = xs[i]?) →
    ∃ a, (cs.drop o).take n = C.enc a ∧ C.good W a ∧ ((∀ q ∈ DataW.weightsEach P (fs.map (·.type)) (xs.map (·.1)), q ≤ reachBytes) → C.sized a) ∧ C.bulk a ≤ Rows.uptoBulkAll (xs.map (·.1))
theorem repF_one {P : Program} {W : World} {f : Field} {o : Nat} {C : Cod} {n : Nat} (ho : f.offset = o) (R : Rep P W f.type C n) : RepF P W [f] o C n :=
  ⟨R.len, fun fuel cs xs hl hn h => by
    have h0 := h 0 f rfl
    match xs, hl with
    | [x], _ =>
      simp only [List.getElem?_cons_zero] at h0
      obtain ⟨a, h1, h2, h3, h4⟩ := R.out _ _ _ h0
      rw [ho, R.cells] at h1
      refine ⟨a, h1, h2, fun hq => h3 fun q hq' => hq q ?_, ?_⟩
      · simp [DataW.weightsEach, hq']
      · simpa [Rows.uptoBulkAll] using h4⟩
theorem repF_cons {P : Program} {W : World} {f : Field} {fs : List Field} {o : Nat} {C D : Cod} {n m : Nat} (ho : f.offset = o) (R : Rep P W f.type C n) (R2 : RepF P W fs (o + n) D m) : RepF P W (f :: fs) o (cP C D) (n + m) :=
  ⟨fun a => by simp [cP, R.len, R2.len], fun fuel cs xs hl hn h => by
    match xs, hl with
    | x :: xr, hl =>
      have h0 := h 0 f rfl
      simp only [List.getElem?_cons_zero] at h0
      obtain ⟨a, h1, h2, h3, h4⟩ := R.out _ _ _ h0
      rw [ho, R.cells] at h1
      obtain ⟨b, g1, g2, g3, g4⟩ := R2.out fuel cs xr (by simpa using hl) (by omega) (fun i f' hi => by simpa using h (i + 1) f' (by simpa using hi))
      refine ⟨(a, b), ?_, ⟨h2, g2⟩, fun hq => ⟨h3 fun q hq' => hq q ?_, g3 fun q hq' => hq q ?_⟩, ?_⟩
      · simp only [cP]
        rw [← h1, ← g1, ← List.drop_drop, List.take_add]
      · simp [DataW.weightsEach, hq']
      · simp [DataW.weightsEach]; exact .inr (by simpa using hq')
      · simp only [cP, List.map_cons, Rows.uptoBulkAll]; omega⟩
theorem rep_t {P : Program} {W : World} {t : TypeId} {fs : Array Field} {C : Cod} {n : Nat} (h : P.underlying t = some (.struct fs)) (hc : P.cellsOf t = n) (R : RepF P W fs.toList 0 C n) : Rep P W t C n :=
  ⟨hc, R.len, fun fuel cs x hx => by
    obtain ⟨xs, m, rfl, rfl, hcl, hxl, hf⟩ := DataW.trod_struct h hx
    rw [hc] at hcl
    obtain ⟨a, h1, h2, h3, h4⟩ := R.out m cs xs (by simpa using hxl) (by omega) (fun i f hi => hf i f (by simpa using hi))
    refine ⟨a, ?_, h2, fun hq => h3 fun q hq' => hq q ?_, ?_⟩
    · rw [← h1, List.drop_zero, List.take_of_length_le (by omega)]
    · simpa [DataW.weights, h] using hq'
    · simp only [Rows.uptoBulk]; omega⟩
/-- An argument that is a slice of such things. -/
theorem open_any {H : Type} {enc : TypeId × Value → H} {P : Program} {W : World} {t : TypeId} {C : Cod} {n : Nat} {v : Value} {d : DataW H} {ps : List MemPlace} (R : Rep P W t C n) (h : DataW.Trod enc P W 0 (fun _ => true) true t v d ps) :
    ∃ a, v.cells.toList = C.enc a ∧ C.good W a ∧ ((∀ q ∈ d.weights P t, q ≤ reachBytes) → C.sized a) ∧ C.bulk a ≤ Rows.uptoBulk d := by
  obtain ⟨fuel, hf⟩ := h
  exact R.out _ _ _ hf
/-- A slice. -/
theorem open_v {H : Type} {enc : TypeId × Value → H} {P : Program} {W : World} {t e : TypeId} {C : Cod} {size bytes base : Nat} {v : Value} {d : DataW H} {ps : List MemPlace} (ht : P.underlying t = some (.slice e)) (hb : P.bytesOf e = bytes) (hc : P.cellsOf t = 1) (R : Rep P W e C size)
    (h : DataW.Trod enc P W 0 (fun _ => true) true t v d ps) (hv : Value.okWide P W .any base t v) :
    ∃ ys : List C.α, Rd W (old W) v size ys.length (Fl C.enc ys) ∧ (∀ y ∈ ys, C.good W y) ∧ ((∀ q ∈ d.weights P t, q ≤ reachBytes) → ys.length * bytes ≤ reachBytes ∧ ∀ y ∈ ys, C.sized y) ∧ (ys.map C.bulk).sum + 1 ≤ Rows.uptoBulk d := by
  obtain ⟨p, h1, h2, h3, h4⟩ := open_any (rep_v ht hc hb R) h
  obtain ⟨a, l, c, rfl⟩ := okWide_slice ht hv
  obtain ⟨v', ys⟩ := p
  simp only [cV, Value.cells, List.cons.injEq, and_true] at h1
  subst h1
  exact ⟨ys, h2.1, h2.2, h3, h4⟩
theorem sized_at {H : Type} {P : Program} {ts : List TypeId} {ds : List (DataW H)} (h : (DataW.weightsEach P ts ds).all (· ≤ reachBytes) = true) {j : Nat} {t : TypeId} {d : DataW H} (ht : ts[j]? = some t) (hd : ds[j]? = some d) : ∀ q ∈ d.weights P t, q ≤ reachBytes := fun q hq => by
  have := List.all_eq_true.1 h q (DataW.weights_mem_each ht hd q hq)
  simpa using this
theorem Fl_u : ∀ xs : List UInt8, Fl cU.enc xs = B xs
  | [] => rfl
  | x :: r => congrArg (Value.int .u8 (x.toNat : Int) :: ·) (Fl_u r)
theorem open_i {H : Type} {enc : TypeId × Value → H} {P : Program} {W : World} {t : TypeId} {v : Value} {d : DataW H} {ps : List MemPlace} {base : Nat} (ht : P.underlying t = some (.int .i64)) (h : DataW.Trod enc P W 0 (fun _ => true) true t v d ps) (hv : Value.okWide P W .any base t v) :
    ∃ n, v = .int .i64 n ∧ -9223372036854775808 ≤ n ∧ n ≤ 9223372036854775807 := by
  obtain ⟨n, rfl, _, _, hw⟩ := open_int ht hv h
  have : -9223372036854775808 ≤ n ∧ n ≤ 9223372036854775807 := by simpa [Lit.wf, IntKind.min, IntKind.max, IntKind.signed, IntKind.bits] using hw
  exact ⟨n, rfl, this⟩
end Go.Proofs.Yteopadjihklkmaa
end

section
namespace Go.Proofs.Yteopadjihklkmaa
open Go Go.ChangeShapes Go.WideShapes
def cW (C : Cod) (size bytes : Nat) : Cod := ⟨SV × List C.α, fun p => [p.1.1], fun W p => Rd W (old W) p.1.1 size p.2.length (Fl C.enc p.2) ∧ ∀ y ∈ p.2, C.good W y, fun p => p.2.length * bytes ≤ reachBytes ∧ ∀ y ∈ p.2, C.sized y,
  fun p => (p.2.map C.bulk).sum + 1⟩
theorem rep_w {P : Program} {W : World} {t e : TypeId} {C : Cod} {size bytes : Nat} (h : P.underlying t = some (.slice e)) (hc : P.cellsOf t = 1) (hb : P.bytesOf e = bytes) (R : Rep P W e C size) : Rep P W t (cW C size bytes) 1 :=
  ⟨hc, fun _ => rfl, fun fuel cs x hx => by
    obtain ⟨a, h1, h2, h3, h4⟩ := (rep_v h hc hb R).out fuel cs x hx
    exact ⟨(⟨a.1, Rd.one h2.1⟩, a.2), h1, h2, h3, h4⟩⟩
end Go.Proofs.Yteopadjihklkmaa
end

section
namespace Go.Proofs.Yteopadjihklkmaa
open Go Go.Proofs
set_option maxRecDepth 100000
set_option maxHeartbeats 4000000
abbrev cEn : Cod := cP cI (cP cI (cP cI cI))
abbrev cBy : Cod := cW cU 1 1
abbrev cCh : Cod := cP cEn (cP cBy (cP cB cI))
theorem rep_en (W : World) : Rep Try.prog W 111 cEn 4 := rep_t (n := 1 + (1 + (1 + 1))) Try.underlying111 (by rfl) (repF_cons rfl (rep_i Try.underlying45 rfl) (repF_cons rfl (rep_i Try.underlying3 rfl) (repF_cons rfl (rep_i Try.underlying3 rfl) (repF_one rfl (rep_i Try.underlying3 rfl)))))
theorem rep_by (W : World) : Rep Try.prog W 63 cBy 1 := rep_w (bytes := 1) Try.underlying63 (by rfl) (by rfl) (rep_u Try.underlying5 rfl)
theorem rep_ch (W : World) : Rep Try.prog W 113 cCh 7 := rep_t (n := 4 + (1 + (1 + 1))) Try.underlying113 (by rfl) (repF_cons rfl (rep_en W) (repF_cons rfl (rep_by W) (repF_cons rfl (rep_b Try.underlying4 rfl) (repF_one rfl (rep_i Try.underlying3 rfl)))))
def toCh : cCh.α → Ch := fun ((k, o, i, s), (v, b), f, n) => ((k, o, i, s), v, b, f, n)
theorem Fl_ch : ∀ xs : List cCh.α, Fl cCh.enc xs = Fl encT113 (xs.map toCh)
  | [] => rfl
  | x :: r => congrArg (cCh.enc x ++ ·) (Fl_ch r)
theorem good_ch {W : World} {xs : List cCh.α} (h : ∀ y ∈ xs, cCh.good W y) : Alls (GC W) (old W) (xs.map toCh) := ⟨fun c hc => by
  obtain ⟨y, hy, rfl⟩ := List.mem_map.1 hc
  obtain ⟨_, h2, _⟩ := h y hy
  exact Eq.mp (congrArg (Rd W (old W) y.2.1.1.1 1 y.2.1.2.length) (Fl_u y.2.1.2)) h2.1⟩
theorem sized_ch {W : World} {xs : List cCh.α} (hg : ∀ y ∈ xs, cCh.good W y) (h : ∀ y ∈ xs, cCh.sized y) : ∀ c ∈ xs.map toCh, c.2.2.1.length ≤ 140737488355328 ∧ c.2.2.2.2 ≤ 9223372036854775807 := fun c hc => by
  obtain ⟨y, hy, rfl⟩ := List.mem_map.1 hc
  obtain ⟨_, h2, _⟩ := h y hy
  obtain ⟨_, _, _, h3⟩ := hg y hy
  have e : reachBytes = 140737488351232 := by decide
  have h4 := h2.1
  rw [e] at h4
  refine ⟨?_, h3.2⟩
  show List.length y.2.1.2 ≤ _
  change List.length y.2.1.2 * 1 ≤ _ at h4
  generalize List.length y.2.1.2 = k at *
  omega
end Go.Proofs.Yteopadjihklkmaa
end

section
namespace Go.Proofs.Yteopadjihklkmaa
open Go Go.Proofs
set_option maxRecDepth 100000
set_option maxHeartbeats 4000000
set_option linter.unusedSimpArgs false
set_option linter.unusedVariables false
theorem mem_at {es : List En} (hv : validE es) {e : En} (he : e ∈ es) : ∃ j : Nat, atE e.2.1 e.2.2.1 es = (j : Int) ∧ j < es.length ∧ es.getD j default = e := by
  have h0 : 0 ≤ atE e.2.1 e.2.2.1 es := by
    rcases Int.lt_or_le (atE e.2.1 e.2.2.1 es) 0 with h | h
    · exact absurd ⟨rfl, rfl⟩ (atE_miss h e he)
    · exact h
  obtain ⟨j, hj⟩ := Int.eq_ofNat_of_zero_le h0
  obtain ⟨h1, h2, h3⟩ := atE_hit hj
  refine ⟨j, hj, h1, ?_⟩
  obtain ⟨i, hi, rfl⟩ := List.mem_iff_getElem.1 he
  rw [List.getD_eq_getElem?_getD, List.getElem?_eq_getElem h1, Option.getD_some] at h2 h3 ⊢
  by_cases hij : i = j
  · subst hij; rfl
  · have := pair_at hv.2 hi h1 hij
    rw [clash_false] at this
    exact absurd ⟨h2.symm, h3.symm⟩ this.2
theorem put_mem {es : List En} {x e : En} (he : e ∈ es) (hne : ¬ (e.2.1 = x.2.1 ∧ e.2.2.1 = x.2.2.1)) : e ∈ putE es x := by
  rw [putE]
  split
  · exact List.mem_append_left _ he
  · rename_i h
    have har := atE_range x.2.1 x.2.2.1 es
    obtain ⟨j, hj⟩ := Int.eq_ofNat_of_zero_le (by omega : 0 ≤ atE x.2.1 x.2.2.1 es)
    obtain ⟨h1, h2, h3⟩ := atE_hit hj
    rw [hj, Int.toNat_natCast]
    obtain ⟨i, hi, rfl⟩ := List.mem_iff_getElem.1 he
    rw [List.getD_eq_getElem?_getD, List.getElem?_eq_getElem h1, Option.getD_some] at h2 h3
    have hij : j ≠ i := fun h => by
      subst h
      exact hne ⟨h2, h3⟩
    refine List.mem_iff_getElem.2 ⟨i, by rw [List.length_set]; exact hi, ?_⟩
    rw [List.getElem_set_ne hij]
theorem put_self (es : List En) (x : En) : x ∈ putE es x := by
  rw [putE]
  split
  · exact List.mem_append_right _ (List.mem_singleton_self x)
  · rename_i h
    have har := atE_range x.2.1 x.2.2.1 es
    obtain ⟨j, hj⟩ := Int.eq_ofNat_of_zero_le (by omega : 0 ≤ atE x.2.1 x.2.2.1 es)
    obtain ⟨h1, h2, h3⟩ := atE_hit hj
    rw [hj, Int.toNat_natCast]
    exact List.mem_iff_getElem.2 ⟨j, by rw [List.length_set]; exact h1, by rw [List.getElem_set_self]⟩
theorem off_mem {es : List En} {o i : Int} {e : En} (h0 : 0 ≤ atE o i es) (he : e ∈ es) (hne : ¬ (e.2.1 = o ∧ e.2.2.1 = i)) : e ∈ offE es o i := by
  obtain ⟨j, hj⟩ := Int.eq_ofNat_of_zero_le h0
  obtain ⟨h1, h2, h3⟩ := atE_hit hj
  unfold offE
  rw [hj, Int.toNat_natCast]
  obtain ⟨k, hk, rfl⟩ := List.mem_iff_getElem.1 he
  rw [List.getD_eq_getElem?_getD, List.getElem?_eq_getElem h1, Option.getD_some] at h2 h3
  rcases Nat.lt_trichotomy k j with h | h | h
  · exact List.mem_append_left _ (List.mem_iff_getElem.2 ⟨k, by rw [List.length_take]; omega, by rw [List.getElem_take]⟩)
  · subst h
    exact absurd ⟨h2, h3⟩ hne
  · exact List.mem_append_right _ (List.mem_iff_getElem.2 ⟨k - (j + 1), by rw [List.length_drop]; omega, by rw [List.getElem_drop]; congr 1; omega⟩)
theorem off_len {es : List En} {o i : Int} (h0 : 0 ≤ atE o i es) : (offE es o i).length + 1 = es.length := by
  obtain ⟨j, hj⟩ := Int.eq_ofNat_of_zero_le h0
  obtain ⟨h1, _⟩ := atE_hit hj
  unfold offE
  rw [hj, Int.toNat_natCast, List.length_append, List.length_take, List.length_drop]
  omega
theorem off_not {es : List En} {o i : Int} (hv : validE es) (h0 : 0 ≤ atE o i es) : atE o i (offE es o i) < 0 := by
  rcases Int.lt_or_le (atE o i (offE es o i)) 0 with h | h
  · exact h
  · exfalso
    obtain ⟨m, hm⟩ := Int.eq_ofNat_of_zero_le h
    obtain ⟨m1, m2, m3⟩ := atE_hit hm
    obtain ⟨j, hj⟩ := Int.eq_ofNat_of_zero_le h0
    obtain ⟨h1, h2, h3⟩ := atE_hit hj
    have hmem : (offE es o i).getD m default ∈ offE es o i := getD_mem m1
    generalize (offE es o i).getD m default = e at m2 m3 hmem
    unfold offE at hmem
    rw [hj, Int.toNat_natCast] at hmem
    rw [List.getD_eq_getElem?_getD, List.getElem?_eq_getElem h1, Option.getD_some] at h2 h3
    have key : ∀ k (hk : k < es.length), k ≠ j → es[k] = e → False := fun k hk hkj he => by
      have := pair_at hv.2 hk h1 hkj
      rw [clash_false, he] at this
      exact this.2 ⟨by rw [m2, h2], by rw [m3, h3]⟩
    rcases List.mem_append.1 hmem with hx | hx
    · obtain ⟨k, hk, he⟩ := List.mem_iff_getElem.1 hx
      rw [List.length_take] at hk
      rw [List.getElem_take] at he
      exact key k (by omega) (by omega) he
    · obtain ⟨k, hk, he⟩ := List.mem_iff_getElem.1 hx
      rw [List.length_drop] at hk
      rw [List.getElem_drop] at he
      exact key _ (by omega) (by omega) he
/-- A slot's bytes. -/
def bodyS (xs : List UInt8) (s : Int) : List UInt8 := secOf xs (3 + 2 * s).toNat ++ secOf xs (3 + 2 * s + 1).toNat
theorem set_body {xs b : List UInt8} {u : Nat} {s : Int} (h : xs.length = 512) (hu : u ≤ 15) (hb : b.length = 32) (hs : 0 ≤ s) (hs6 : s < 6) (h1 : (u : Int) ≠ 3 + 2 * s) (h2 : (u : Int) ≠ 3 + 2 * s + 1) : bodyS (setSec xs u b) s = bodyS xs s := by
  unfold bodyS
  rw [sec_set_other h hu (by omega) hb (by omega), sec_set_other h hu (by omega) hb (by omega)]
theorem stores_keep {xs : List UInt8} {q : Int} {t : Nat} {es : List En} (h : Says xs q t es) (k o i : Int) (bs : List UInt8) (h0 : (storesP q t es k o i bs).2.1 = 0) :
    (∀ e ∈ es, ¬ (e.2.1 = o ∧ e.2.2.1 = i) → e ∈ (storesP q t es k o i bs).2.2 ∧ bodyS (doneF xs (storesP q t es k o i bs).1) e.2.2.2 = bodyS xs e.2.2.2) ∧
    ∃ f : Int, (k, o, i, f) ∈ (storesP q t es k o i bs).2.2 ∧ 0 ≤ f ∧ f < 6 ∧ bs.length ≤ 64 ∧ bodyS (doneF xs (storesP q t es k o i bs).1) f = full64 bs := by
  obtain ⟨f1, f2, f3, f4, _⟩ := h.facts
  have ht := h.copy
  have hfr := freeE_range es
  unfold storesP at h0 ⊢
  by_cases h1 : rightP (k, o, i, 0)
  · rw [if_neg (by simpa using h1)] at h0 ⊢
    by_cases h2 : 64 < bs.length
    · rw [if_pos h2] at h0
      exact absurd h0 (by decide)
    · rw [if_neg h2] at h0 ⊢
      by_cases h3 : atE o i es < 0 ∧ 5 ≤ es.length
      · rw [if_pos h3] at h0
        exact absurd h0 (by decide)
      · rw [if_neg h3] at h0 ⊢
        by_cases h4 : 65535 ≤ q
        · rw [if_pos h4] at h0
          exact absurd h0 (by decide)
        · rw [if_neg h4] at h0 ⊢
          by_cases h5 : freeE es < 0
          · rw [if_pos h5] at h0
            exact absurd h0 (by decide)
          · rw [if_neg h5] at h0 ⊢
            clear h0
            have hl := putE_len (k := k) (s := freeE es) f3 h3
            have hsl : (sectB (listB (q + 1) (putE es (k, o, i, freeE es)))).length = 32 := by rw [sectB, sealed_length, pad_len (by rw [listB_len]; omega)]
            have h64 : (full64 bs).length = 64 := full64_len (by omega)
            have ha : ((full64 bs).take 32).length = 32 := by rw [List.length_take]; omega
            have hb : ((full64 bs).drop 32).length = 32 := by rw [List.length_drop]; omega
            have hff := freeE_free (es := es) (by omega)
            obtain ⟨f, hf⟩ := Int.eq_ofNat_of_zero_le (by omega : 0 ≤ freeE es)
            have hmem := put_self es (k, o, i, freeE es)
            have hoth : ∀ e ∈ es, ¬ (e.2.1 = o ∧ e.2.2.1 = i) → e ∈ putE es (k, o, i, freeE es) := fun e he hne => put_mem he hne
            generalize putE es (k, o, i, freeE es) = es2 at hl hsl hmem hoth
            dsimp only
            rw [hf] at hff hmem ⊢
            rw [Int.toNat_natCast]
            have l1 : (setSec xs (3 + 2 * f) ((full64 bs).take 32)).length = 512 := setSec_len h.len (by omega) ha
            have l2 : (setSec (setSec xs (3 + 2 * f) ((full64 bs).take 32)) (4 + 2 * f) ((full64 bs).drop 32)).length = 512 := setSec_len l1 (by omega) hb
            have e3 : doneF xs [(3 + 2 * f, (full64 bs).take 32), (4 + 2 * f, (full64 bs).drop 32), (3 - t, sectB (listB (q + 1) es2))] = setSec (setSec (setSec xs (3 + 2 * f) ((full64 bs).take 32)) (4 + 2 * f) ((full64 bs).drop 32)) (3 - t) (sectB (listB (q + 1) es2)) := rfl
            rw [e3]
            refine ⟨fun e he hne => ⟨hoth e he hne, ?_⟩, (f : Int), hmem, by omega, by omega, by omega, ?_⟩
            · have hge := (f4.1 e he).2
              have hse := hff e he
              rw [set_body l2 (by omega) hsl (by omega) (by omega) (by omega) (by omega), set_body l1 (by omega) hb (by omega) (by omega) (by omega) (by omega), set_body h.len (by omega) ha (by omega) (by omega) (by omega) (by omega)]
            · rw [set_body l2 (by omega) hsl (by omega) (by omega) (by omega) (by omega), bodyS, show (3 + 2 * (f : Int)).toNat = 3 + 2 * f by omega, show (3 + 2 * (f : Int) + 1).toNat = 4 + 2 * f by omega, sec_set_same l1 (by omega) hb, sec_set_other l1 (by omega) (by omega) hb (by omega), sec_set_same h.len (by omega) ha, List.take_append_drop]
  · rw [if_pos h1] at h0
    exact absurd h0 (by decide)
theorem drops_keep {xs : List UInt8} {q : Int} {t : Nat} {es : List En} (h : Says xs q t es) (o i : Int) (h0 : (dropsP q t es o i).2.1 = 0) :
    (∀ e ∈ es, ¬ (e.2.1 = o ∧ e.2.2.1 = i) → e ∈ (dropsP q t es o i).2.2 ∧ bodyS (doneF xs (dropsP q t es o i).1) e.2.2.2 = bodyS xs e.2.2.2) ∧
    atE o i (dropsP q t es o i).2.2 < 0 ∧ (dropsP q t es o i).2.2.length + 1 = es.length := by
  obtain ⟨f1, f2, f3, f4, _⟩ := h.facts
  have ht := h.copy
  have har := atE_range o i es
  unfold dropsP at h0 ⊢
  by_cases h1 : atE o i es < 0
  · rw [if_pos h1] at h0
    exact absurd h0 (by decide)
  · rw [if_neg h1] at h0 ⊢
    by_cases h2 : 65535 ≤ q
    · rw [if_pos h2] at h0
      exact absurd h0 (by decide)
    · rw [if_neg h2] at h0 ⊢
      clear h0
      have hl : (offE es o i).length ≤ 5 := Nat.le_trans (off_sub es _).length_le f3
      have hsl : (sectB (listB (q + 1) (offE es o i))).length = 32 := by rw [sectB, sealed_length, pad_len (by rw [listB_len]; omega)]
      refine ⟨fun e he hne => ⟨off_mem (by omega) he hne, ?_⟩, off_not f4 (by omega), off_len (by omega)⟩
      have hge := (f4.1 e he).2
      show bodyS (setSec xs (3 - t) (sectB (listB (q + 1) (offE es o i)))) e.2.2.2 = _
      rw [set_body h.len (by omega) hsl (by omega) (by omega) (by omega) (by omega)]
end Go.Proofs.Yteopadjihklkmaa
end

section
namespace Go.Proofs.Yteopadjihklkmaa
open Go Go.Proofs
set_option maxRecDepth 100000
set_option maxHeartbeats 4000000
set_option linter.unusedSimpArgs false
set_option linter.unusedVariables false
section
variable {w0 : World} {A : Asn} {u : Value}
theorem keeps_spec {id : Int} {cs : List Ch} (rd : Rd w0 A u 7 cs.length (Fl encT113 cs)) (al : Alls (GC w0) A cs) (al2 : ∀ c ∈ cs, c.2.2.1.length ≤ 140737488355328 ∧ c.2.2.2.2 ≤ 9223372036854775807) :
    Spec Try.prog w0 12 [.int .i64 id, u] A (fun v' A' => ∃ J, v' = .bool true ∧ A' = A * J) := by
  have hmx := rd.max
  have hz0 : (List.replicate 512 (0 : UInt8)).length = 512 := by simp
  have hn := id_named id
  obtain ⟨g1, g2, g3, g4⟩ := id_facts id
  obtain ⟨hS, hc, hi⟩ := fmt_says hz0 hn
  generalize hys : fmtF (List.replicate 512 0) (1 + (id.tmod 65535 + 65535) % 65535) 1 = ys at hS hc hi
  refine Spec.of_run [(0, .int .i64 id), (1, u)] Try.func12 rfl (Nat.le_of_ble_eq_true rfl) (by repeat (first | exact trivial | refine ⟨rfl, ?_⟩)) ?_
  refine Run.seq ?_
  refine Run.region ?_
  refine RunL.ok (OpOk.assign rfl) rfl ?_
  refine RunL.nil ?_
  refine Run.seq ?_
  refine Run.seq ?_
  refine Run.region ?_
  refine RunL.call cal37 rfl (s37) rfl (fun vx1 Ax1 hx1 => ?_)
  obtain ⟨x2, ⟨rfl, rfl⟩⟩ := hx1
  refine RunL.ok (OpOk.not rfl) rfl ?_
  refine RunL.nil ?_
  refine Run.condF rfl ?_
  refine Run.skip ?_
  refine Run.seq ?_
  refine Run.region ?_
  refine RunL.call cal55 rfl (s55) rfl (fun vx3 Ax3 hx3 => ?_)
  obtain ⟨x4, ⟨rfl, rfl⟩⟩ := hx3
  refine RunL.ok (OpOk.assign rfl) rfl ?_
  refine RunL.nil ?_
  refine Run.seq ?_
  refine Run.seq ?_
  refine Run.region ?_
  refine RunL.ok (OpOk.move rfl) rfl ?_
  refine RunL.ok (OpOk.eqlPN rfl rfl) rfl ?_
  refine RunL.ok (OpOk.move rfl) rfl ?_
  refine RunL.on rfl rfl ?_
  refine RunL.ok (OpOk.move rfl) rfl ?_
  refine RunL.on rfl rfl ?_
  refine RunL.ok (OpOk.move rfl) rfl ?_
  refine RunL.on rfl rfl ?_
  refine RunL.ok (OpOk.rem rfl rfl (by decide) rfl) rfl ?_
  refine RunL.on rfl rfl ?_
  refine RunL.ok (OpOk.add rfl rfl (wrapI (by omega) (by omega))) rfl ?_
  refine RunL.on rfl rfl ?_
  refine RunL.ok (OpOk.rem rfl rfl (by decide) (tmodI (by omega))) rfl ?_
  refine RunL.on rfl rfl ?_
  refine RunL.ok (OpOk.add rfl rfl (wrapI (by omega) (by omega))) rfl ?_
  refine RunL.on rfl rfl ?_
  refine RunL.call cal51 rfl (s51d (by assumption) rfl (by omega)) rfl (fun vx8 Ax8 hx8 => ?_)
  obtain ⟨x9, ⟨rfl, rfl⟩⟩ := hx8
  refine RunL.on rfl rfl ?_
  refine RunL.ok (OpOk.as (c := false) (OpOk.neq rfl rfl) (by rw [decide_eq_true (by omega)]; rfl)) rfl ?_
  refine RunL.ok (OpOk.pickF rfl rfl) rfl ?_
  refine RunL.nil ?_
  refine Run.condF rfl ?_
  refine Run.skip ?_
  refine Run.seq ?_
  refine Run.seq ?_
  refine Run.region ?_
  refine RunL.ok (OpOk.assign rfl) rfl ?_
  refine RunL.nil ?_
  refine Run.block ?_
  rw [hys]
  refine Run.jump ((Run.loopJ (X := Nat × Asn × List UInt8 × Int × Nat × List En) (fun x => [(6, .int .i64 (x.1 : Int)), (5, .pointer (some ⟨x4, 0, none⟩)), (1, u)]) (fun x => A * x.2.1 * pts x4 (.cells (B (x.2.2.1) ++ [Value.int .i64 (-1)]).toArray 177 (0, 0))) (fun x => x.1 ≤ cs.length ∧ x.1 ≤ 60 ∧ Says x.2.2.1 x.2.2.2.1 x.2.2.2.2.1 x.2.2.2.2.2) (fun x => cs.length - x.1) (0, _, ys, 1, 1, []) ⟨Nat.zero_le _, Nat.zero_le _, hS⟩ (fun x hx ih => ?_))) ⟨rfl, rfl, rfl, trivial⟩ (Grew.of (congrArg (· * _) (asg as1)) (Grew.refl _))
  obtain ⟨i, J, xs, q, t, es⟩ := x
  simp only at hx ih ⊢
  obtain ⟨hil, hi60, hSx⟩ := hx
  clear hS hc hi hys hz0 hn
  rcases Nat.lt_or_ge i cs.length with hlt | hge
  rcases Nat.lt_or_ge i 60 with hl6 | hg6
  · obtain ⟨c, hoe⟩ : ∃ c, cs.getD i default = c := ⟨_, rfl⟩
    have rdb0 : Rd w0 A (cs.getD i default).2.1.1 1 (cs.getD i default).2.2.1.length (B (cs.getD i default).2.2.1) := al.get hlt
    have hbs := al2 _ (getD_mem hlt)
    rw [hoe] at rdb0 hbs
    obtain ⟨⟨k, o, i2, s⟩, v, bs, f, n⟩ := c
    dsimp only at rdb0 hbs
    obtain ⟨hbs, hnm⟩ := hbs
    obtain ⟨a, ha⟩ : ∃ a, cardB (secOf xs 0) = a := ⟨_, rfl⟩
    obtain ⟨b, hb⟩ : ∃ b, issB (secOf xs 0) = b := ⟨_, rfl⟩
    have rw_a := ha
    have rw_b := hb
    have hxl0 := hSx.len
    have hq5 := hSx.facts.2.2.1
    have hq5b : es.length ≤ 1048576 := by omega
    have hqr := hSx.facts.1
    have hqr2 := hSx.facts.2.1
    have hval := hSx.facts.2.2.2.1
    have hbl := rdb0.max
    refine Run.seq ?_
    refine Run.seq ?_
    refine Run.region ?_
    refine RunL.ok (OpOk.move rfl) rfl ?_
    refine RunL.ok (OpOk.move rfl) rfl ?_
    refine RunL.ok (OpOk.lenR rfl rfl rd.left.left rfl) rfl ?_
    refine RunL.ok (OpOk.asT (OpOk.lss rfl rfl) (by omega)) rfl ?_
    refine RunL.ok (OpOk.move rfl) rfl ?_
    refine RunL.on rfl rfl ?_
    refine RunL.ok (OpOk.move rfl) rfl ?_
    refine RunL.on rfl rfl ?_
    refine RunL.ok (OpOk.asT (OpOk.lss rfl rfl) (by omega)) rfl ?_
    refine RunL.ok (OpOk.pickT rfl rfl) rfl ?_
    refine RunL.nil ?_
    refine Run.condT rfl ?_
    refine Run.skip ?_
    refine Run.seq ?_
    refine Run.block ?_
    refine Run.seq ?_
    refine Run.region ?_
    refine RunL.ok (OpOk.move rfl) rfl ?_
    refine RunL.ok (OpOk.move rfl) rfl ?_
    refine RunL.ok (OpOk.idxN rfl ti113 rfl rd.left.left rfl (by omega)) rfl ?_
    refine RunL.ok (OpOk.loadFlE (by assumption) rfl rfl ti113 rfl rd.left.left (fun _ => rfl) rfl (by omega)) rfl ?_
    refine RunL.alloc ti113 rfl (fun bz1 => ?_)
    refine RunL.storeAll ti113 rfl rfl rfl (fun w hw => OneC.one (enc := encT113) (((k, o, i2, s), v, bs, f, n)) w hw) rfl rfl ?_
    refine RunL.nil ?_
    refine Run.seq ?_
    refine Run.region ?_
    refine RunL.ok (OpOk.move rfl) rfl ?_
    refine RunL.mem (frc (frl rfl) rfl) ?_
    refine RunL.call cal39 rfl (s39f (by assumption)) rfl (fun vz6 Az6 hz6 => ?_)
    obtain ⟨z7, ⟨z8, ⟨z9, ⟨rfl, rfl⟩⟩⟩⟩ := hz6
    refine RunL.ok (OpOk.move rfl) rfl ?_
    refine RunL.ok (OpOk.ext20 rfl) rfl ?_
    refine RunL.ok (OpOk.ext21 rfl) rfl ?_
    refine RunL.alloc ti86 rfl (fun bz10 => ?_)
    refine RunL.storeAll ti86 rfl rfl rfl (ones rfl) rfl rfl ?_
    refine RunL.ok (OpOk.assign rfl) rfl ?_
    refine RunL.nil ?_
    refine Run.seq ?_
    rw [rw_a]
    rw [rw_b]
    refine Run.region ?_
    refine RunL.ok (OpOk.assign rfl) rfl ?_
    refine RunL.nil ?_
    refine Run.seq ?_
    refine Run.seq ?_
    refine Run.region ?_
    refine RunL.ok (OpOk.assign rfl) rfl ?_
    refine RunL.nil ?_
    refine Run.block ?_
    refine Run.ent (Ent.ownNil' _ 9 1 (Fl encS ([] : List (List UInt8))) rfl) ?_
    refine Run.jump ((Run.loopJ (X := Nat × Asn × Value × List (List UInt8)) (fun x => [(11, .int .i64 (x.1 : Int)), (10, x.2.2.1), (8, .pointer (some ⟨bz10, 0, none⟩)), (7, .pointer (some ⟨bz1, 0, none⟩)), (6, .int .i64 (i : Int)), (5, .pointer (some ⟨x4, 0, none⟩)), (1, u)]) (fun x => A * J * z9 * x.2.1 * pts bz1 (.cells #[.int .i64 k, .int .i64 o, .int .i64 i2, .int .i64 s, v.1, .bool f, .int .i64 n] 113 (0, 0)) * own 111 4 (.slice z7 es.length z8) es.length (Fl encT111 es) * pts x4 (.cells (B (xs) ++ [Value.int .i64 (-1)]).toArray 177 (0, 0)) * pts bz10 (.cells #[.int .i64 a, .int .i64 b, .int .i64 q, .int .i64 (t : Int), .slice z7 es.length z8] 86 (0, 0)) * own 9 1 x.2.2.1 x.2.2.2.length (Fl encS x.2.2.2)) (fun x => x.1 ≤ es.length ∧ x.2.2.2 = (es.take x.1).map (fun e => bodyS xs e.2.2.2)) (fun x => es.length - x.1) (0, _, .slice none 0 0, []) ⟨Nat.zero_le _, rfl⟩ (fun x hx ih1 => ?_))) ⟨rfl, rfl, rfl, rfl, rfl, rfl, rfl, trivial⟩ (Grew.of (Eq.trans (frc rfl (frc rfl (frc rfl (frc rfl (frc (frl rfl) rfl))))) (congrArg (· * _) (congrArg (· * _) (congrArg (· * _) (congrArg (· * _) (congrArg (· * _) as0)))))) (Grew.refl _))
    obtain ⟨m, J1, bv, L⟩ := x
    simp only at hx ih1 ⊢
    obtain ⟨hm, hL⟩ := hx
    have hLl : L.length = m := by rw [hL, List.length_map, List.length_take]; omega
    rcases Nat.lt_or_ge m es.length with hlm | hgm
    · obtain ⟨e, hoe1⟩ : ∃ e, es.getD m default = e := ⟨_, rfl⟩
      have hge := (hval.1 _ (getD_mem hlm)).2
      have hnx : (es.take (m + 1)).map (fun e => bodyS xs e.2.2.2) = L ++ [bodyS xs (es.getD m default).2.2.2] := by
        rw [take_next hlm, List.map_append, hL]; rfl
      rw [hoe1] at hge hnx
      obtain ⟨ke, oe, ie, se⟩ := e
      dsimp only at hge hnx
      obtain ⟨hs0, hs6⟩ := hge
      have hbl1 : (secOf xs (3 + 2 * se).toNat).length = 32 := secOf_length hxl0 (by omega)
      have hbl2 : (secOf xs (3 + 2 * se + 1).toNat).length = 32 := secOf_length hxl0 (by omega)
      refine Run.seq ?_
      refine Run.seq ?_
      refine Run.region ?_
      refine RunL.ok (OpOk.move rfl) rfl ?_
      refine RunL.ok (OpOk.fieldAddr fld86_4 rfl) rfl ?_
      refine RunL.ok (OpOk.load rfl rfl rfl (Blk.out Blk.pts.left _ _ (by first | rfl | assumption))) rfl ?_
      refine RunL.ok (OpOk.lenV rfl rfl rfl) rfl ?_
      refine RunL.ok (OpOk.asT (OpOk.lss rfl rfl) (by omega)) rfl ?_
      refine RunL.nil ?_
      refine Run.condT rfl ?_
      refine Run.skip ?_
      refine Run.seq ?_
      refine Run.block ?_
      refine Run.seq ?_
      refine Run.region ?_
      refine RunL.ok (OpOk.move rfl) rfl ?_
      refine RunL.ok (OpOk.fieldAddr fld86_4 rfl) rfl ?_
      refine RunL.ok (OpOk.load rfl rfl rfl (Blk.out Blk.pts.left _ _ (by first | rfl | assumption))) rfl ?_
      refine RunL.ok (OpOk.move rfl) rfl ?_
      refine RunL.know (fun w s => (s.conv (frl (frl (frl rfl)))).ownRd0) (fun rdt1 => ?_)
      refine RunL.ok (OpOk.idxN rfl ti111 rfl (Rd.right rdt1).left.left.left rfl (by omega)) rfl ?_
      refine RunL.ok (OpOk.fieldAddrA fld111_3 rfl) rfl ?_
      refine RunL.ok (OpOk.loadFl1E hoe1 rfl rfl rfl (Rd.right rdt1).left.left.left (fun _ => rfl) rfl (by omega) rfl) rfl ?_
      refine RunL.mem (frc (frl (frl rfl)) rfl) ?_
      refine RunL.call cal42 rfl (s42b (by assumption) (by assumption) (by assumption)) rfl (fun vt3 At3 ht3 => ?_)
      obtain ⟨t4, ⟨t5, ⟨rfl, rfl⟩⟩⟩ := ht3
      refine RunL.ok (OpOk.move rfl) rfl ?_
      refine RunL.ok (OpOk.ext20 rfl) rfl ?_
      refine RunL.ok (OpOk.ext21 rfl) rfl ?_
      refine RunL.ok (OpOk.assign rfl) rfl ?_
      refine RunL.ok (OpOk.assign rfl) rfl ?_
      refine RunL.nil ?_
      refine Run.region ?_
      refine RunL.ok (OpOk.move rfl) rfl ?_
      refine RunL.ok (OpOk.move rfl) rfl ?_
      refine RunL.know (fun w s => (s.conv (frl rfl)).ownRd0) (fun rdt6 => ?_)
      refine RunL.ok (OpOk.strOf rfl rfl rfl rfl (Rd.right rdt6).left) rfl ?_
      refine RunL.litS (ss := [secOf xs (3 + 2 * se).toNat ++ secOf xs (3 + 2 * se + 1).toNat]) rfl ti9 rfl rfl rfl (by decide) rfl (fun vt7 rdt7 => ?_)
      refine RunL.know (fun w s => (s.conv rfl).ownRd0) (fun rdt9 => ?_)
      refine RunL.appendF rfl ti9 rfl rfl rfl (frl (frl (frl (frl rfl)))) (Rd.right rdt9) rfl (by decide) (by omega) (by simp only [maxLen]; omega) rfl (fun vt8 rdt8 => ?_)
      refine RunL.ok (OpOk.assign rfl) rfl ?_
      refine RunL.nil ?_
      refine Run.inBlock ?_
      refine Run.region ?_
      refine RunL.ok (OpOk.move rfl) rfl ?_
      refine RunL.ok (OpOk.addN _ 1 rfl rfl rfl rfl (by omega)) rfl ?_
      refine RunL.ok (OpOk.assign rfl) rfl ?_
      refine RunL.nil ?_
      rw [show L.length + 1 = (L ++ [secOf xs (3 + 2 * se).toNat ++ secOf xs (3 + 2 * se + 1).toNat]).length by simp]
      refine Run.jump ((ih1 (m + 1, _, vt8, L ++ [secOf xs (3 + 2 * se).toNat ++ secOf xs (3 + 2 * se + 1).toNat]) ⟨by dsimp only; omega, hnx.symm⟩ (by dsimp only; omega))) ⟨rfl, rfl, rfl, rfl, rfl, rfl, rfl, trivial⟩ (Grew.of (Eq.trans (frc rfl (frc (frl (frl (frl (frl rfl)))) (frc (frl rfl) (frc (frl (frl (frl rfl))) (frc (frl (frl (frl rfl))) rfl))))) (congrArg (· * _) (congrArg (· * _) (congrArg (· * _) (congrArg (· * _) (congrArg (· * _) (asg (asg (asg as1))))))))) (Grew.refl _))
    · obtain rfl : m = es.length := by omega
      clear ih1
      rw [List.take_length] at hL
      cases f with
      | true =>
        obtain ⟨kk, hkk⟩ : ∃ kk, (dropsP q t es o i2).1.length = kk := ⟨_, rfl⟩
        obtain ⟨ff, hff⟩ : ∃ ff, (dropsP q t es o i2).2.1 = ff := ⟨_, rfl⟩
        have hC := drops_is hSx o i2
        have hD : donN (dropsP q t es o i2) (-1) = kk := by rw [donN, hkk, if_neg (by omega)]
        have htk : (dropsP q t es o i2).1.take kk = (dropsP q t es o i2).1 := by rw [← hkk, List.take_length]
        by_cases hf0 : ff = 0
        · have hE : errN (dropsP q t es o i2) (-1) = 0 := by rw [errN, hkk, if_neg (by omega), hff, hf0]
          obtain ⟨zs, hzs⟩ : ∃ zs, doneF xs (dropsP q t es o i2).1 = zs := ⟨_, rfl⟩
          obtain ⟨es2, he2⟩ : ∃ es2, (dropsP q t es o i2).2.2 = es2 := ⟨_, rfl⟩
          have hct : 3 - (t : Int) = ((3 - t : Nat) : Int) := by have := hSx.copy; omega
          have hO : OutIs xs (dropsP q t es o i2) (-1) a b q t zs 0 a b (q + 1) ((3 - t : Nat) : Int) es2 := ⟨hE, by rw [vwN, hE, he2, hct]; rfl, by rw [hD, htk, hzs]⟩
          have hSz : Says zs (q + 1) (3 - t) es2 := by rw [← hzs, ← he2]; exact hC.good (by rw [hff, hf0])
          have hsm : secOf zs 0 = secOf xs 0 := by rw [← hzs, ← htk]; exact hC.same _
          have rw_a2 : cardB (secOf zs 0) = a := by rw [hsm, ha]
          have rw_b2 : issB (secOf zs 0) = b := by rw [hsm, hb]
          have hzl := hSz.len
          have hval2 := hSz.facts.2.2.2.1
          have h25 := hSz.facts.2.2.1
          have h25b : es2.length ≤ 1048576 := by omega
          have hkp := drops_keep hSx o i2 (by rw [hff, hf0])
          rw [he2, hzs] at hkp
          subst hf0
          refine Run.seq ?_
          refine Run.seq ?_
          refine Run.region ?_
          refine RunL.ok (OpOk.move rfl) rfl ?_
          refine RunL.ok (OpOk.fieldAddr fld86_4 rfl) rfl ?_
          refine RunL.ok (OpOk.load rfl rfl rfl (Blk.out Blk.pts.left _ _ (by first | rfl | assumption))) rfl ?_
          refine RunL.ok (OpOk.lenV rfl rfl rfl) rfl ?_
          refine RunL.ok (OpOk.asF (OpOk.lss rfl rfl) (by omega)) rfl ?_
          refine RunL.nil ?_
          refine Run.condF rfl ?_
          refine Run.exit rfl ?_
          refine Run.seq ?_
          refine Run.region ?_
          refine RunL.ok (OpOk.assign rfl) rfl ?_
          refine RunL.nil ?_
          refine Run.seq ?_
          refine Run.seq ?_
          refine Run.region ?_
          refine RunL.ok (OpOk.fieldAddr fld113_2 rfl) rfl ?_
          refine RunL.ok (OpOk.load rfl rfl rfl (Blk.out Blk.pts.left.left.left.left _ _ (by first | rfl | assumption))) rfl ?_
          refine RunL.nil ?_
          refine Run.condT rfl ?_
          refine Run.region ?_
          refine RunL.ok (OpOk.move rfl) rfl ?_
          refine RunL.ok (OpOk.loadS rfl rfl ti86 rfl Blk.pts.left rfl) rfl ?_
          refine RunL.ok (OpOk.fieldAddr fld113_0 rfl) rfl ?_
          refine RunL.ok (OpOk.fieldAddr fld111_1 rfl) rfl ?_
          refine RunL.ok (OpOk.load rfl rfl rfl (Blk.out Blk.pts.left.left.left.left _ _ (by first | rfl | assumption))) rfl ?_
          refine RunL.ok (OpOk.fieldAddr fld113_0 rfl) rfl ?_
          refine RunL.ok (OpOk.fieldAddr fld111_2 rfl) rfl ?_
          refine RunL.ok (OpOk.load rfl rfl rfl (Blk.out Blk.pts.left.left.left.left _ _ (by first | rfl | assumption))) rfl ?_
          refine RunL.know (fun w s => (s.conv (frl (frl (frl rfl)))).ownRd0) (fun rdr1 => ?_)
          refine RunL.mem (frc (frl (frl rfl)) rfl) ?_
          refine RunL.call cal56 rfl (s56e (Rd.right rdr1).left.left (by assumption) (by omega) (by assumption)) rfl (fun vr6 Ar6 hr6 => ?_)
          obtain ⟨r7, ⟨r8, ⟨r9, ⟨r10, ⟨rfl, ⟨r11, rfl⟩⟩⟩⟩⟩⟩ := hr6
          refine RunL.ok (OpOk.move rfl) rfl ?_
          refine RunL.ok (OpOk.ext20 rfl) rfl ?_
          refine RunL.ok (OpOk.ext21 rfl) rfl ?_
          refine RunL.ok (OpOk.assign rfl) rfl ?_
          refine RunL.nil ?_
          refine Run.seq ?_
          refine Run.region ?_
          refine RunL.ok (OpOk.move rfl) rfl ?_
          refine RunL.call cal39 rfl (s39f (by assumption)) rfl (fun vr16 Ar16 hr16 => ?_)
          obtain ⟨r17, ⟨r18, ⟨r19, ⟨rfl, rfl⟩⟩⟩⟩ := hr16
          refine RunL.ok (OpOk.move rfl) rfl ?_
          refine RunL.ok (OpOk.ext20 rfl) rfl ?_
          refine RunL.ok (OpOk.ext21 rfl) rfl ?_
          refine RunL.alloc ti86 rfl (fun br20 => ?_)
          refine RunL.storeAll ti86 rfl rfl rfl (ones rfl) rfl rfl ?_
          refine RunL.ok (OpOk.assign rfl) rfl ?_
          refine RunL.nil ?_
          refine Run.seq ?_
          refine Run.seq ?_
          rw [rw_a2]
          rw [rw_b2]
          refine Run.region ?_
          refine RunL.ok (OpOk.move rfl) rfl ?_
          refine RunL.ok (OpOk.as (c := false) (OpOk.neq rfl rfl) (by rw [decide_eq_true (by omega)]; rfl)) rfl ?_
          refine RunL.ok (OpOk.move rfl) rfl ?_
          refine RunL.on rfl rfl ?_
          refine RunL.ok (OpOk.fieldAddr fld86_0 rfl) rfl ?_
          refine RunL.on rfl rfl ?_
          refine RunL.ok (OpOk.load rfl rfl rfl (Blk.out Blk.pts _ _ (by first | rfl | assumption))) rfl ?_
          refine RunL.on rfl rfl ?_
          refine RunL.ok (OpOk.fieldAddr fld86_0 rfl) rfl ?_
          refine RunL.on rfl rfl ?_
          refine RunL.ok (OpOk.load rfl rfl rfl (Blk.out Blk.pts.left.left.left.left.left.left.left _ _ (by first | rfl | assumption))) rfl ?_
          refine RunL.on rfl rfl ?_
          refine RunL.ok (OpOk.as (c := false) (OpOk.neq rfl rfl) (by rw [decide_eq_true (by omega)]; rfl)) rfl ?_
          refine RunL.ok (OpOk.pickF rfl rfl) rfl ?_
          refine RunL.ok (OpOk.move rfl) rfl ?_
          refine RunL.on rfl rfl ?_
          refine RunL.ok (OpOk.move rfl) rfl ?_
          refine RunL.on rfl rfl ?_
          refine RunL.ok (OpOk.asT (OpOk.eql rfl rfl) (by omega)) rfl ?_
          refine RunL.on rfl rfl ?_
          refine RunL.ok (OpOk.move rfl) rfl ?_
          refine RunL.on rfl rfl ?_
          refine RunL.ok (OpOk.fieldAddr fld86_2 rfl) rfl ?_
          refine RunL.on rfl rfl ?_
          refine RunL.ok (OpOk.load rfl rfl rfl (Blk.out Blk.pts _ _ (by first | rfl | assumption))) rfl ?_
          refine RunL.on rfl rfl ?_
          refine RunL.ok (OpOk.fieldAddr fld86_2 rfl) rfl ?_
          refine RunL.on rfl rfl ?_
          refine RunL.ok (OpOk.load rfl rfl rfl (Blk.out Blk.pts.left.left.left.left.left.left.left _ _ (by first | rfl | assumption))) rfl ?_
          refine RunL.on rfl rfl ?_
          refine RunL.ok (OpOk.add rfl rfl (wrapI (by omega) (by omega))) rfl ?_
          refine RunL.on rfl rfl ?_
          refine RunL.ok (OpOk.as (c := false) (OpOk.neq rfl rfl) (by rw [decide_eq_true (by omega)]; rfl)) rfl ?_
          refine RunL.on rfl rfl ?_
          refine RunL.ok (OpOk.pickT rfl rfl) rfl ?_
          refine RunL.ok (OpOk.pickF rfl rfl) rfl ?_
          refine RunL.ok (OpOk.move rfl) rfl ?_
          refine RunL.on rfl rfl ?_
          refine RunL.ok (OpOk.move rfl) rfl ?_
          refine RunL.on rfl rfl ?_
          refine RunL.ok (OpOk.as (c := false) (OpOk.neq rfl rfl) (by rw [decide_eq_true (by omega)]; rfl)) rfl ?_
          refine RunL.on rfl rfl ?_
          refine RunL.ok (OpOk.move rfl) rfl ?_
          refine RunL.off rfl rfl rfl rfl ?_
          refine RunL.off rfl rfl rfl rfl ?_
          refine RunL.off rfl rfl rfl rfl ?_
          refine RunL.off rfl rfl rfl rfl ?_
          refine RunL.off rfl rfl rfl rfl ?_
          refine RunL.on rfl rfl ?_
          refine RunL.ok (OpOk.pickF rfl rfl) rfl ?_
          refine RunL.ok (OpOk.pickF rfl rfl) rfl ?_
          refine RunL.nil ?_
          refine Run.condF rfl ?_
          refine Run.skip ?_
          refine Run.seq ?_
          refine Run.seq ?_
          refine Run.region ?_
          refine RunL.ok (OpOk.assign rfl) rfl ?_
          refine RunL.nil ?_
          refine Run.block ?_
          obtain rfl := r11 (by decide)
          refine Run.jump ((Run.loopJ (X := Nat × Asn) (fun x => [(17, .int .i64 (x.1 : Int)), (15, .pointer (some ⟨br20, 0, none⟩)), (14, .int .i64 0), (10, bv), (8, .pointer (some ⟨bz10, 0, none⟩)), (7, .pointer (some ⟨bz1, 0, none⟩)), (6, .int .i64 (i : Int)), (5, .pointer (some ⟨x4, 0, none⟩)), (1, u)]) (fun x => A * J * z9 * J1 * x.2 * pts bz1 (.cells #[.int .i64 k, .int .i64 o, .int .i64 i2, .int .i64 s, v.1, .bool true, .int .i64 n] 113 (0, 0)) * own 111 4 (.slice z7 es.length z8) es.length (Fl encT111 es) * pts x4 (.cells (B (zs) ++ [Value.int .i64 (-1)]).toArray 177 (0, 0)) * pts bz10 (.cells #[.int .i64 a, .int .i64 b, .int .i64 q, .int .i64 (t : Int), .slice z7 es.length z8] 86 (0, 0)) * own 9 1 bv L.length (Fl encS L) * own 111 4 (.slice r17 es2.length r18) es2.length (Fl encT111 es2) * pts br20 (.cells #[.int .i64 a, .int .i64 b, .int .i64 (q + 1), .int .i64 ((3 - t : Nat) : Int), .slice r17 es2.length r18] 86 (0, 0))) (fun x => x.1 ≤ es.length) (fun x => es.length - x.1) (0, _) (Nat.zero_le _) (fun x hx ih2 => ?_))) ⟨rfl, rfl, rfl, rfl, rfl, rfl, rfl, rfl, rfl, trivial⟩ (Grew.of (Eq.trans (frc rfl (frc (frl rfl) (frc (frl (frl (frl (frl rfl)))) (frc (frl (frl (frl (frl rfl)))) (frc rfl (frc (frl (frl (frl rfl))) (frc (frl (frl (frl rfl))) rfl))))))) (congrArg (· * _) (congrArg (· * _) (congrArg (· * _) (congrArg (· * _) (congrArg (· * _) (congrArg (· * _) (congrArg (· * _) (asg (asg as1)))))))))) (Grew.refl _))
          obtain ⟨m, J2⟩ := x
          simp only at hx ih2 ⊢
          rcases Nat.lt_or_ge m es.length with hlm | hgm
          · obtain ⟨e, hoe3⟩ : ∃ e, es.getD m default = e := ⟨_, rfl⟩
            have hmem := getD_mem hlm
            have hge := (hval.1 _ (getD_mem hlm)).2
            have hLg : L.getD m default = bodyS xs (es.getD m default).2.2.2 := by
              rw [hL, List.getD_eq_getElem?_getD, List.getElem?_map, List.getElem?_eq_getElem hlm, List.getD_eq_getElem?_getD, List.getElem?_eq_getElem hlm]; rfl
            rw [hoe3] at hge hmem hLg
            obtain ⟨ke, oe, ie, se⟩ := e
            dsimp only at hge hLg
            obtain ⟨hs0, hs6⟩ := hge
            by_cases h1 : oe = o
            · by_cases h2 : ie = i2
              · refine Run.seq ?_
                refine Run.seq ?_
                refine Run.region ?_
                refine RunL.ok (OpOk.move rfl) rfl ?_
                refine RunL.ok (OpOk.fieldAddr fld86_4 rfl) rfl ?_
                refine RunL.ok (OpOk.load rfl rfl rfl (Blk.out Blk.pts.left.left.left _ _ (by first | rfl | assumption))) rfl ?_
                refine RunL.ok (OpOk.lenV rfl rfl rfl) rfl ?_
                refine RunL.ok (OpOk.asT (OpOk.lss rfl rfl) (by omega)) rfl ?_
                refine RunL.nil ?_
                refine Run.condT rfl ?_
                refine Run.skip ?_
                refine Run.seq ?_
                refine Run.block ?_
                refine Run.seq ?_
                refine Run.region ?_
                refine RunL.ok (OpOk.fieldAddr fld86_4 rfl) rfl ?_
                refine RunL.ok (OpOk.load rfl rfl rfl (Blk.out Blk.pts.left.left.left _ _ (by first | rfl | assumption))) rfl ?_
                refine RunL.ok (OpOk.move rfl) rfl ?_
                refine RunL.ok (OpOk.idxN rfl ti111 rfl (Rd.right rdr1).left.left.left.left.left rfl (by omega)) rfl ?_
                refine RunL.ok (OpOk.loadFlE (by assumption) rfl rfl ti111 rfl (Rd.right rdr1).left.left.left.left.left (fun _ => rfl) rfl (by omega)) rfl ?_
                refine RunL.alloc ti111 rfl (fun bp1 => ?_)
                refine RunL.storeAll ti111 rfl rfl rfl (fun w hw => OneC.one (enc := encT111) ((ke, oe, ie, se)) w hw) rfl rfl ?_
                refine RunL.nil ?_
                refine Run.seq ?_
                refine Run.seq ?_
                refine Run.region ?_
                refine RunL.ok (OpOk.move rfl) rfl ?_
                refine RunL.ok (OpOk.asT (OpOk.eql rfl rfl) (by omega)) rfl ?_
                refine RunL.ok (OpOk.move rfl) rfl ?_
                refine RunL.on rfl rfl ?_
                refine RunL.ok (OpOk.fieldAddr fld111_1 rfl) rfl ?_
                refine RunL.on rfl rfl ?_
                refine RunL.ok (OpOk.load rfl rfl rfl (Blk.out Blk.pts _ _ (by first | rfl | assumption))) rfl ?_
                refine RunL.on rfl rfl ?_
                refine RunL.ok (OpOk.fieldAddr fld113_0 rfl) rfl ?_
                refine RunL.on rfl rfl ?_
                refine RunL.ok (OpOk.fieldAddr fld111_1 rfl) rfl ?_
                refine RunL.on rfl rfl ?_
                refine RunL.ok (OpOk.load rfl rfl rfl (Blk.out Blk.pts.left.left.left.left.left.left.left _ _ (by first | rfl | assumption))) rfl ?_
                refine RunL.on rfl rfl ?_
                refine RunL.ok (OpOk.asT (OpOk.eql rfl rfl) (by omega)) rfl ?_
                refine RunL.ok (OpOk.pickT rfl rfl) rfl ?_
                refine RunL.ok (OpOk.move rfl) rfl ?_
                refine RunL.on rfl rfl ?_
                refine RunL.ok (OpOk.fieldAddr fld111_2 rfl) rfl ?_
                refine RunL.on rfl rfl ?_
                refine RunL.ok (OpOk.load rfl rfl rfl (Blk.out Blk.pts _ _ (by first | rfl | assumption))) rfl ?_
                refine RunL.on rfl rfl ?_
                refine RunL.ok (OpOk.fieldAddr fld113_0 rfl) rfl ?_
                refine RunL.on rfl rfl ?_
                refine RunL.ok (OpOk.fieldAddr fld111_2 rfl) rfl ?_
                refine RunL.on rfl rfl ?_
                refine RunL.ok (OpOk.load rfl rfl rfl (Blk.out Blk.pts.left.left.left.left.left.left.left _ _ (by first | rfl | assumption))) rfl ?_
                refine RunL.on rfl rfl ?_
                refine RunL.ok (OpOk.asT (OpOk.eql rfl rfl) (by omega)) rfl ?_
                refine RunL.ok (OpOk.pickT rfl rfl) rfl ?_
                refine RunL.nil ?_
                refine Run.condT rfl ?_
                refine Run.exit rfl ?_
                refine Run.region ?_
                refine RunL.ok (OpOk.move rfl) rfl ?_
                refine RunL.ok (OpOk.addN _ 1 rfl rfl rfl rfl (by omega)) rfl ?_
                refine RunL.ok (OpOk.assign rfl) rfl ?_
                refine RunL.nil ?_
                refine Run.jump ((ih2 (m + 1, _) (by dsimp only; omega) (by dsimp only; omega))) ⟨rfl, rfl, rfl, rfl, rfl, rfl, rfl, rfl, rfl, trivial⟩ (Grew.of (Eq.trans (frc (frl rfl) (frc (frl rfl) (frc (frl rfl) (frc (frl rfl) (frc (frl rfl) (frc (frl rfl) (frc (frl rfl) rfl))))))) (congrArg (· * _) (congrArg (· * _) (congrArg (· * _) (congrArg (· * _) (congrArg (· * _) (congrArg (· * _) (congrArg (· * _) (asg as1))))))))) (Grew.refl _))
              · have hkm := hkp.1 _ hmem (fun h => h2 h.2)
                obtain ⟨j, hat, hjl, hoe4⟩ := mem_at hval2 hkm.1
                dsimp only at hat
                have rw_at := hat
                have hbe : secOf zs (3 + 2 * se).toNat ++ secOf zs (3 + 2 * se + 1).toNat = L.getD m default := by rw [hLg]; exact hkm.2
                refine Run.seq ?_
                refine Run.seq ?_
                refine Run.region ?_
                refine RunL.ok (OpOk.move rfl) rfl ?_
                refine RunL.ok (OpOk.fieldAddr fld86_4 rfl) rfl ?_
                refine RunL.ok (OpOk.load rfl rfl rfl (Blk.out Blk.pts.left.left.left _ _ (by first | rfl | assumption))) rfl ?_
                refine RunL.ok (OpOk.lenV rfl rfl rfl) rfl ?_
                refine RunL.ok (OpOk.asT (OpOk.lss rfl rfl) (by omega)) rfl ?_
                refine RunL.nil ?_
                refine Run.condT rfl ?_
                refine Run.skip ?_
                refine Run.seq ?_
                refine Run.block ?_
                refine Run.seq ?_
                refine Run.region ?_
                refine RunL.ok (OpOk.fieldAddr fld86_4 rfl) rfl ?_
                refine RunL.ok (OpOk.load rfl rfl rfl (Blk.out Blk.pts.left.left.left _ _ (by first | rfl | assumption))) rfl ?_
                refine RunL.ok (OpOk.move rfl) rfl ?_
                refine RunL.ok (OpOk.idxN rfl ti111 rfl (Rd.right rdr1).left.left.left.left.left rfl (by omega)) rfl ?_
                refine RunL.ok (OpOk.loadFlE (by assumption) rfl rfl ti111 rfl (Rd.right rdr1).left.left.left.left.left (fun _ => rfl) rfl (by omega)) rfl ?_
                refine RunL.alloc ti111 rfl (fun bp1 => ?_)
                refine RunL.storeAll ti111 rfl rfl rfl (fun w hw => OneC.one (enc := encT111) ((ke, oe, ie, se)) w hw) rfl rfl ?_
                refine RunL.nil ?_
                refine Run.seq ?_
                refine Run.seq ?_
                refine Run.region ?_
                refine RunL.ok (OpOk.move rfl) rfl ?_
                refine RunL.ok (OpOk.asT (OpOk.eql rfl rfl) (by omega)) rfl ?_
                refine RunL.ok (OpOk.move rfl) rfl ?_
                refine RunL.on rfl rfl ?_
                refine RunL.ok (OpOk.fieldAddr fld111_1 rfl) rfl ?_
                refine RunL.on rfl rfl ?_
                refine RunL.ok (OpOk.load rfl rfl rfl (Blk.out Blk.pts _ _ (by first | rfl | assumption))) rfl ?_
                refine RunL.on rfl rfl ?_
                refine RunL.ok (OpOk.fieldAddr fld113_0 rfl) rfl ?_
                refine RunL.on rfl rfl ?_
                refine RunL.ok (OpOk.fieldAddr fld111_1 rfl) rfl ?_
                refine RunL.on rfl rfl ?_
                refine RunL.ok (OpOk.load rfl rfl rfl (Blk.out Blk.pts.left.left.left.left.left.left.left _ _ (by first | rfl | assumption))) rfl ?_
                refine RunL.on rfl rfl ?_
                refine RunL.ok (OpOk.asT (OpOk.eql rfl rfl) (by omega)) rfl ?_
                refine RunL.ok (OpOk.pickT rfl rfl) rfl ?_
                refine RunL.ok (OpOk.move rfl) rfl ?_
                refine RunL.on rfl rfl ?_
                refine RunL.ok (OpOk.fieldAddr fld111_2 rfl) rfl ?_
                refine RunL.on rfl rfl ?_
                refine RunL.ok (OpOk.load rfl rfl rfl (Blk.out Blk.pts _ _ (by first | rfl | assumption))) rfl ?_
                refine RunL.on rfl rfl ?_
                refine RunL.ok (OpOk.fieldAddr fld113_0 rfl) rfl ?_
                refine RunL.on rfl rfl ?_
                refine RunL.ok (OpOk.fieldAddr fld111_2 rfl) rfl ?_
                refine RunL.on rfl rfl ?_
                refine RunL.ok (OpOk.load rfl rfl rfl (Blk.out Blk.pts.left.left.left.left.left.left.left _ _ (by first | rfl | assumption))) rfl ?_
                refine RunL.on rfl rfl ?_
                refine RunL.ok (OpOk.asF (OpOk.eql rfl rfl) (by omega)) rfl ?_
                refine RunL.ok (OpOk.pickT rfl rfl) rfl ?_
                refine RunL.nil ?_
                refine Run.condF rfl ?_
                refine Run.skip ?_
                refine Run.seq ?_
                refine Run.region ?_
                refine RunL.ok (OpOk.loadS rfl rfl ti86 rfl Blk.pts.left rfl) rfl ?_
                refine RunL.ok (OpOk.fieldAddr fld111_1 rfl) rfl ?_
                refine RunL.ok (OpOk.load rfl rfl rfl (Blk.out Blk.pts _ _ (by first | rfl | assumption))) rfl ?_
                refine RunL.ok (OpOk.fieldAddr fld111_2 rfl) rfl ?_
                refine RunL.ok (OpOk.load rfl rfl rfl (Blk.out Blk.pts _ _ (by first | rfl | assumption))) rfl ?_
                refine RunL.know (fun w s => (s.conv (frl (frl rfl))).ownRd0) (fun rdp2 => ?_)
                refine RunL.call cal45 rfl (s45 (Rd.right rdp2).left.left) rfl (fun vp3 Ap3 hp3 => ?_)
                obtain ⟨p4, ⟨rfl, rfl⟩⟩ := hp3
                refine RunL.ok (OpOk.assign rfl) rfl ?_
                refine RunL.nil ?_
                refine Run.seq ?_
                refine Run.seq ?_
                rw [rw_at]
                refine Run.know (fun w s => (s.conv (frl (frl (frl (frl rfl))))).ownRd0) (fun rdp5 => ?_)
                (apply Run.drawD [] (by rfl) (sep_emp _).symm; case hchk => kernel_rfl)
                refine Sd.quiet 0 _ _ rfl rfl rfl rfl rfl (QOp.ok (fun X => OpOk.move rfl)) ?_
                refine Sd.quiet 1 _ _ rfl rfl rfl rfl rfl (QOp.ok (fun X => OpOk.asF (OpOk.lss rfl rfl) (by omega))) ?_
                refine Sd.quiet 2 _ _ rfl rfl rfl rfl rfl (QOp.ok (fun X => OpOk.move rfl)) ?_
                refine Sd.quiet 3 _ _ rfl rfl rfl rfl rfl (QOp.ok (fun X => OpOk.fieldAddr fld86_4 rfl)) ?_
                refine Sd.quiet 4 _ _ rfl rfl rfl rfl rfl (QOp.ok (fun X => OpOk.load rfl rfl rfl (Blk.out Blk.pts.left.left.left.left _ _ (by first | rfl | assumption)))) ?_
                refine Sd.quiet 5 _ _ rfl rfl rfl rfl rfl (QOp.ok (fun X => OpOk.move rfl)) ?_
                refine Sd.quiet 6 _ _ rfl rfl rfl rfl rfl (QOp.ok (fun X => OpOk.idxN rfl ti111 rfl (Rd.right rdp2).left.left.left.left.left rfl (by omega))) ?_
                refine Sd.quiet 7 _ _ rfl rfl rfl rfl rfl (QOp.ok (fun X => OpOk.loadFlE (by assumption) rfl rfl ti111 rfl (Rd.right rdp2).left.left.left.left.left (fun _ => rfl) rfl (by omega))) ?_
                refine Sd.quiet 8 _ _ rfl rfl rfl rfl rfl (QOp.ok (fun X => OpOk.loadS rfl rfl ti111 rfl Blk.pts.left.left.left rfl)) ?_
                refine Sd.quiet 9 _ _ rfl rfl rfl rfl rfl (QOp.ok (fun X => OpOk.neqK4 (p := (ke, oe, ie, se)) (q := (ke, oe, ie, se)) four111 rfl rfl)) ?_
                refine Sd.quiet 10 _ _ rfl rfl rfl rfl rfl (QOp.ok (fun X => OpOk.pickF rfl rfl)) ?_
                (apply Sd.tail; case hall => kernel_rfl)
                refine RunL.mem (fl2 (sep_emp _) (sep_emp _)) ?_
                refine RunL.nil ?_
                refine Run.condNF rfl (by first | omega | with_reducible rfl | assumption) ?_
                refine Run.skip ?_
                refine Run.seq ?_
                refine Run.region ?_
                refine RunL.ok (OpOk.move rfl) rfl ?_
                refine RunL.ok (OpOk.fieldAddr fld111_3 rfl) rfl ?_
                refine RunL.ok (OpOk.load rfl rfl rfl (Blk.out Blk.pts.left _ _ (by first | rfl | assumption))) rfl ?_
                refine RunL.mem (frc (frl (frl (frl (frl (frl (frl rfl)))))) rfl) ?_
                refine RunL.call cal42 rfl (s42b (by assumption) (by assumption) (by assumption)) rfl (fun vp7 Ap7 hp7 => ?_)
                obtain ⟨p8, ⟨p9, ⟨rfl, rfl⟩⟩⟩ := hp7
                refine RunL.ok (OpOk.move rfl) rfl ?_
                refine RunL.ok (OpOk.ext20 rfl) rfl ?_
                refine RunL.ok (OpOk.ext21 rfl) rfl ?_
                refine RunL.ok (OpOk.assign rfl) rfl ?_
                refine RunL.ok (OpOk.assign rfl) rfl ?_
                refine RunL.nil ?_
                refine Run.seq ?_
                refine Run.know (fun w s => (s.conv (frl rfl)).ownRd0) (fun rdp10 => ?_)
                (apply Run.drawD [] (by rfl) (sep_emp _).symm; case hchk => kernel_rfl)
                refine Sd.quiet 0 _ _ rfl rfl rfl rfl rfl (QOp.ok (fun X => OpOk.move rfl)) ?_
                refine Sd.quiet 1 _ _ rfl rfl rfl rfl rfl (QOp.ok (fun X => OpOk.strOf rfl rfl rfl rfl (Rd.right rdp10).left.left.left)) ?_
                refine Sd.quiet 2 _ _ rfl rfl rfl rfl rfl (QOp.ok (fun X => OpOk.move rfl)) ?_
                refine Sd.quiet 3 _ _ rfl rfl rfl rfl rfl (QOp.ok (fun X => OpOk.move rfl)) ?_
                refine Sd.quiet 4 _ _ rfl rfl rfl rfl rfl (QOp.ok (fun X => OpOk.idx1N rfl ti9 rfl (Rd.right rdp5).left.left.left.left.left.left.left.left.left rfl (by omega))) ?_
                refine Sd.quiet 5 _ _ rfl rfl rfl rfl rfl (QOp.ok (fun X => OpOk.loadStr rfl rfl rfl (Rd.right rdp5).left.left.left.left.left.left.left.left.left (by omega))) ?_
                refine Sd.quiet 6 _ _ rfl rfl rfl rfl rfl (QOp.ok (fun X => OpOk.as (c := false) (OpOk.neqSS rfl rfl) (by rw [decide_eq_true (by omega)]; rfl))) ?_
                (apply Sd.tail; case hall => kernel_rfl)
                refine RunL.mem (fl2 (sep_emp _) (sep_emp _)) ?_
                refine RunL.nil ?_
                refine Run.condF rfl ?_
                refine Run.skip ?_
                refine Run.inBlock ?_
                refine Run.region ?_
                refine RunL.ok (OpOk.move rfl) rfl ?_
                refine RunL.ok (OpOk.addN _ 1 rfl rfl rfl rfl (by omega)) rfl ?_
                refine RunL.ok (OpOk.assign rfl) rfl ?_
                refine RunL.nil ?_
                refine Run.jump ((ih2 (m + 1, _) (by dsimp only; omega) (by dsimp only; omega))) ⟨rfl, rfl, rfl, rfl, rfl, rfl, rfl, rfl, rfl, trivial⟩ (Grew.of (Eq.trans (frc (frl (frl (frl (frl (frl rfl))))) (frc (frl (frl (frl (frl (frl rfl))))) (frc (frl (frl (frl (frl (frl rfl))))) (frc (frl (frl (frl (frl (frl rfl))))) (frc rfl (frc (frl (frl (frl (frl rfl)))) (frc (frl (frl (frl (frl rfl)))) rfl))))))) (congrArg (· * _) (congrArg (· * _) (congrArg (· * _) (congrArg (· * _) (congrArg (· * _) (congrArg (· * _) (congrArg (· * _) (asg (asg (asg (asg as1)))))))))))) (Grew.refl _))
            · have hkm := hkp.1 _ hmem (fun h => h1 h.1)
              obtain ⟨j, hat, hjl, hoe4⟩ := mem_at hval2 hkm.1
              dsimp only at hat
              have rw_at := hat
              have hbe : secOf zs (3 + 2 * se).toNat ++ secOf zs (3 + 2 * se + 1).toNat = L.getD m default := by rw [hLg]; exact hkm.2
              refine Run.seq ?_
              refine Run.seq ?_
              refine Run.region ?_
              refine RunL.ok (OpOk.move rfl) rfl ?_
              refine RunL.ok (OpOk.fieldAddr fld86_4 rfl) rfl ?_
              refine RunL.ok (OpOk.load rfl rfl rfl (Blk.out Blk.pts.left.left.left _ _ (by first | rfl | assumption))) rfl ?_
              refine RunL.ok (OpOk.lenV rfl rfl rfl) rfl ?_
              refine RunL.ok (OpOk.asT (OpOk.lss rfl rfl) (by omega)) rfl ?_
              refine RunL.nil ?_
              refine Run.condT rfl ?_
              refine Run.skip ?_
              refine Run.seq ?_
              refine Run.block ?_
              refine Run.seq ?_
              refine Run.region ?_
              refine RunL.ok (OpOk.fieldAddr fld86_4 rfl) rfl ?_
              refine RunL.ok (OpOk.load rfl rfl rfl (Blk.out Blk.pts.left.left.left _ _ (by first | rfl | assumption))) rfl ?_
              refine RunL.ok (OpOk.move rfl) rfl ?_
              refine RunL.ok (OpOk.idxN rfl ti111 rfl (Rd.right rdr1).left.left.left.left.left rfl (by omega)) rfl ?_
              refine RunL.ok (OpOk.loadFlE (by assumption) rfl rfl ti111 rfl (Rd.right rdr1).left.left.left.left.left (fun _ => rfl) rfl (by omega)) rfl ?_
              refine RunL.alloc ti111 rfl (fun bp1 => ?_)
              refine RunL.storeAll ti111 rfl rfl rfl (fun w hw => OneC.one (enc := encT111) ((ke, oe, ie, se)) w hw) rfl rfl ?_
              refine RunL.nil ?_
              refine Run.seq ?_
              refine Run.seq ?_
              refine Run.region ?_
              refine RunL.ok (OpOk.move rfl) rfl ?_
              refine RunL.ok (OpOk.asT (OpOk.eql rfl rfl) (by omega)) rfl ?_
              refine RunL.ok (OpOk.move rfl) rfl ?_
              refine RunL.on rfl rfl ?_
              refine RunL.ok (OpOk.fieldAddr fld111_1 rfl) rfl ?_
              refine RunL.on rfl rfl ?_
              refine RunL.ok (OpOk.load rfl rfl rfl (Blk.out Blk.pts _ _ (by first | rfl | assumption))) rfl ?_
              refine RunL.on rfl rfl ?_
              refine RunL.ok (OpOk.fieldAddr fld113_0 rfl) rfl ?_
              refine RunL.on rfl rfl ?_
              refine RunL.ok (OpOk.fieldAddr fld111_1 rfl) rfl ?_
              refine RunL.on rfl rfl ?_
              refine RunL.ok (OpOk.load rfl rfl rfl (Blk.out Blk.pts.left.left.left.left.left.left.left _ _ (by first | rfl | assumption))) rfl ?_
              refine RunL.on rfl rfl ?_
              refine RunL.ok (OpOk.asF (OpOk.eql rfl rfl) (by omega)) rfl ?_
              refine RunL.ok (OpOk.pickT rfl rfl) rfl ?_
              refine RunL.ok (OpOk.move rfl) rfl ?_
              refine RunL.off rfl rfl rfl rfl ?_
              refine RunL.off rfl rfl rfl rfl ?_
              refine RunL.off rfl rfl rfl rfl ?_
              refine RunL.off rfl rfl rfl rfl ?_
              refine RunL.off rfl rfl rfl rfl ?_
              refine RunL.off rfl rfl rfl rfl ?_
              refine RunL.ok (OpOk.pickF rfl rfl) rfl ?_
              refine RunL.nil ?_
              refine Run.condF rfl ?_
              refine Run.skip ?_
              refine Run.seq ?_
              refine Run.region ?_
              refine RunL.ok (OpOk.loadS rfl rfl ti86 rfl Blk.pts.left rfl) rfl ?_
              refine RunL.ok (OpOk.fieldAddr fld111_1 rfl) rfl ?_
              refine RunL.ok (OpOk.load rfl rfl rfl (Blk.out Blk.pts _ _ (by first | rfl | assumption))) rfl ?_
              refine RunL.ok (OpOk.fieldAddr fld111_2 rfl) rfl ?_
              refine RunL.ok (OpOk.load rfl rfl rfl (Blk.out Blk.pts _ _ (by first | rfl | assumption))) rfl ?_
              refine RunL.know (fun w s => (s.conv (frl (frl rfl))).ownRd0) (fun rdp2 => ?_)
              refine RunL.call cal45 rfl (s45 (Rd.right rdp2).left.left) rfl (fun vp3 Ap3 hp3 => ?_)
              obtain ⟨p4, ⟨rfl, rfl⟩⟩ := hp3
              refine RunL.ok (OpOk.assign rfl) rfl ?_
              refine RunL.nil ?_
              refine Run.seq ?_
              refine Run.seq ?_
              rw [rw_at]
              refine Run.know (fun w s => (s.conv (frl (frl (frl (frl rfl))))).ownRd0) (fun rdp5 => ?_)
              (apply Run.drawD [] (by rfl) (sep_emp _).symm; case hchk => kernel_rfl)
              refine Sd.quiet 0 _ _ rfl rfl rfl rfl rfl (QOp.ok (fun X => OpOk.move rfl)) ?_
              refine Sd.quiet 1 _ _ rfl rfl rfl rfl rfl (QOp.ok (fun X => OpOk.asF (OpOk.lss rfl rfl) (by omega))) ?_
              refine Sd.quiet 2 _ _ rfl rfl rfl rfl rfl (QOp.ok (fun X => OpOk.move rfl)) ?_
              refine Sd.quiet 3 _ _ rfl rfl rfl rfl rfl (QOp.ok (fun X => OpOk.fieldAddr fld86_4 rfl)) ?_
              refine Sd.quiet 4 _ _ rfl rfl rfl rfl rfl (QOp.ok (fun X => OpOk.load rfl rfl rfl (Blk.out Blk.pts.left.left.left.left _ _ (by first | rfl | assumption)))) ?_
              refine Sd.quiet 5 _ _ rfl rfl rfl rfl rfl (QOp.ok (fun X => OpOk.move rfl)) ?_
              refine Sd.quiet 6 _ _ rfl rfl rfl rfl rfl (QOp.ok (fun X => OpOk.idxN rfl ti111 rfl (Rd.right rdp2).left.left.left.left.left rfl (by omega))) ?_
              refine Sd.quiet 7 _ _ rfl rfl rfl rfl rfl (QOp.ok (fun X => OpOk.loadFlE (by assumption) rfl rfl ti111 rfl (Rd.right rdp2).left.left.left.left.left (fun _ => rfl) rfl (by omega))) ?_
              refine Sd.quiet 8 _ _ rfl rfl rfl rfl rfl (QOp.ok (fun X => OpOk.loadS rfl rfl ti111 rfl Blk.pts.left.left.left rfl)) ?_
              refine Sd.quiet 9 _ _ rfl rfl rfl rfl rfl (QOp.ok (fun X => OpOk.neqK4 (p := (ke, oe, ie, se)) (q := (ke, oe, ie, se)) four111 rfl rfl)) ?_
              refine Sd.quiet 10 _ _ rfl rfl rfl rfl rfl (QOp.ok (fun X => OpOk.pickF rfl rfl)) ?_
              (apply Sd.tail; case hall => kernel_rfl)
              refine RunL.mem (fl2 (sep_emp _) (sep_emp _)) ?_
              refine RunL.nil ?_
              refine Run.condNF rfl (by first | omega | with_reducible rfl | assumption) ?_
              refine Run.skip ?_
              refine Run.seq ?_
              refine Run.region ?_
              refine RunL.ok (OpOk.move rfl) rfl ?_
              refine RunL.ok (OpOk.fieldAddr fld111_3 rfl) rfl ?_
              refine RunL.ok (OpOk.load rfl rfl rfl (Blk.out Blk.pts.left _ _ (by first | rfl | assumption))) rfl ?_
              refine RunL.mem (frc (frl (frl (frl (frl (frl (frl rfl)))))) rfl) ?_
              refine RunL.call cal42 rfl (s42b (by assumption) (by assumption) (by assumption)) rfl (fun vp7 Ap7 hp7 => ?_)
              obtain ⟨p8, ⟨p9, ⟨rfl, rfl⟩⟩⟩ := hp7
              refine RunL.ok (OpOk.move rfl) rfl ?_
              refine RunL.ok (OpOk.ext20 rfl) rfl ?_
              refine RunL.ok (OpOk.ext21 rfl) rfl ?_
              refine RunL.ok (OpOk.assign rfl) rfl ?_
              refine RunL.ok (OpOk.assign rfl) rfl ?_
              refine RunL.nil ?_
              refine Run.seq ?_
              refine Run.know (fun w s => (s.conv (frl rfl)).ownRd0) (fun rdp10 => ?_)
              (apply Run.drawD [] (by rfl) (sep_emp _).symm; case hchk => kernel_rfl)
              refine Sd.quiet 0 _ _ rfl rfl rfl rfl rfl (QOp.ok (fun X => OpOk.move rfl)) ?_
              refine Sd.quiet 1 _ _ rfl rfl rfl rfl rfl (QOp.ok (fun X => OpOk.strOf rfl rfl rfl rfl (Rd.right rdp10).left.left.left)) ?_
              refine Sd.quiet 2 _ _ rfl rfl rfl rfl rfl (QOp.ok (fun X => OpOk.move rfl)) ?_
              refine Sd.quiet 3 _ _ rfl rfl rfl rfl rfl (QOp.ok (fun X => OpOk.move rfl)) ?_
              refine Sd.quiet 4 _ _ rfl rfl rfl rfl rfl (QOp.ok (fun X => OpOk.idx1N rfl ti9 rfl (Rd.right rdp5).left.left.left.left.left.left.left.left.left rfl (by omega))) ?_
              refine Sd.quiet 5 _ _ rfl rfl rfl rfl rfl (QOp.ok (fun X => OpOk.loadStr rfl rfl rfl (Rd.right rdp5).left.left.left.left.left.left.left.left.left (by omega))) ?_
              refine Sd.quiet 6 _ _ rfl rfl rfl rfl rfl (QOp.ok (fun X => OpOk.as (c := false) (OpOk.neqSS rfl rfl) (by rw [decide_eq_true (by omega)]; rfl))) ?_
              (apply Sd.tail; case hall => kernel_rfl)
              refine RunL.mem (fl2 (sep_emp _) (sep_emp _)) ?_
              refine RunL.nil ?_
              refine Run.condF rfl ?_
              refine Run.skip ?_
              refine Run.inBlock ?_
              refine Run.region ?_
              refine RunL.ok (OpOk.move rfl) rfl ?_
              refine RunL.ok (OpOk.addN _ 1 rfl rfl rfl rfl (by omega)) rfl ?_
              refine RunL.ok (OpOk.assign rfl) rfl ?_
              refine RunL.nil ?_
              refine Run.jump ((ih2 (m + 1, _) (by dsimp only; omega) (by dsimp only; omega))) ⟨rfl, rfl, rfl, rfl, rfl, rfl, rfl, rfl, rfl, trivial⟩ (Grew.of (Eq.trans (frc (frl (frl (frl (frl (frl rfl))))) (frc (frl (frl (frl (frl (frl rfl))))) (frc (frl (frl (frl (frl (frl rfl))))) (frc (frl (frl (frl (frl (frl rfl))))) (frc rfl (frc (frl (frl (frl (frl rfl)))) (frc (frl (frl (frl (frl rfl)))) rfl))))))) (congrArg (· * _) (congrArg (· * _) (congrArg (· * _) (congrArg (· * _) (congrArg (· * _) (congrArg (· * _) (congrArg (· * _) (asg (asg (asg (asg as1)))))))))))) (Grew.refl _))
          · obtain rfl : m = es.length := by omega
            clear ih2
            obtain ⟨_, hat, hln⟩ := hkp
            refine Run.seq ?_
            refine Run.seq ?_
            refine Run.region ?_
            refine RunL.ok (OpOk.move rfl) rfl ?_
            refine RunL.ok (OpOk.fieldAddr fld86_4 rfl) rfl ?_
            refine RunL.ok (OpOk.load rfl rfl rfl (Blk.out Blk.pts.left.left.left _ _ (by first | rfl | assumption))) rfl ?_
            refine RunL.ok (OpOk.lenV rfl rfl rfl) rfl ?_
            refine RunL.ok (OpOk.asF (OpOk.lss rfl rfl) (by omega)) rfl ?_
            refine RunL.nil ?_
            refine Run.condF rfl ?_
            refine Run.exit rfl ?_
            refine Run.seq ?_
            refine Run.region ?_
            refine RunL.ok (OpOk.loadS rfl rfl ti86 rfl Blk.pts rfl) rfl ?_
            refine RunL.ok (OpOk.fieldAddr fld113_0 rfl) rfl ?_
            refine RunL.ok (OpOk.fieldAddr fld111_1 rfl) rfl ?_
            refine RunL.ok (OpOk.load rfl rfl rfl (Blk.out Blk.pts.left.left.left.left.left.left _ _ (by first | rfl | assumption))) rfl ?_
            refine RunL.ok (OpOk.fieldAddr fld113_0 rfl) rfl ?_
            refine RunL.ok (OpOk.fieldAddr fld111_2 rfl) rfl ?_
            refine RunL.ok (OpOk.load rfl rfl rfl (Blk.out Blk.pts.left.left.left.left.left.left _ _ (by first | rfl | assumption))) rfl ?_
            refine RunL.know (fun w s => (s.conv (frl rfl)).ownRd0) (fun rdp1 => ?_)
            refine RunL.call cal45 rfl (s45 (Rd.right rdp1).left) rfl (fun vp2 Ap2 hp2 => ?_)
            obtain ⟨p3, ⟨rfl, rfl⟩⟩ := hp2
            refine RunL.ok (OpOk.assign rfl) rfl ?_
            refine RunL.nil ?_
            refine Run.seq ?_
            refine Run.seq ?_
            refine Run.region ?_
            refine RunL.ok (OpOk.move rfl) rfl ?_
            refine RunL.ok (OpOk.as (c := false) (OpOk.neq rfl rfl) (by rw [decide_eq_true (by omega)]; rfl)) rfl ?_
            refine RunL.nil ?_
            refine Run.condF rfl ?_
            refine Run.skip ?_
            refine Run.seq ?_
            refine Run.seq ?_
            refine Run.region ?_
            refine RunL.ok (OpOk.fieldAddr fld113_2 rfl) rfl ?_
            refine RunL.ok (OpOk.load rfl rfl rfl (Blk.out Blk.pts.left.left.left.left.left.left.left _ _ (by first | rfl | assumption))) rfl ?_
            refine RunL.nil ?_
            refine Run.condT rfl ?_
            refine Run.seq ?_
            refine Run.seq ?_
            refine Run.region ?_
            refine RunL.ok (OpOk.move rfl) rfl ?_
            refine RunL.ok (OpOk.asF (OpOk.geq rfl rfl) (by omega)) rfl ?_
            refine RunL.ok (OpOk.move rfl) rfl ?_
            refine RunL.on rfl rfl ?_
            refine RunL.ok (OpOk.fieldAddr fld86_4 rfl) rfl ?_
            refine RunL.on rfl rfl ?_
            refine RunL.ok (OpOk.load rfl rfl rfl (Blk.out Blk.pts.left _ _ (by first | rfl | assumption))) rfl ?_
            refine RunL.on rfl rfl ?_
            refine RunL.ok (OpOk.lenV rfl rfl rfl) rfl ?_
            refine RunL.on rfl rfl ?_
            refine RunL.ok (OpOk.fieldAddr fld86_4 rfl) rfl ?_
            refine RunL.on rfl rfl ?_
            refine RunL.ok (OpOk.load rfl rfl rfl (Blk.out Blk.pts.left.left.left.left _ _ (by first | rfl | assumption))) rfl ?_
            refine RunL.on rfl rfl ?_
            refine RunL.ok (OpOk.lenV rfl rfl rfl) rfl ?_
            refine RunL.on rfl rfl ?_
            refine RunL.ok (OpOk.subN _ 1 rfl rfl rfl rfl (by omega) (by omega)) rfl ?_
            refine RunL.on rfl rfl ?_
            refine RunL.ok (OpOk.as (c := false) (OpOk.neq rfl rfl) (by rw [decide_eq_true (by omega)]; rfl)) rfl ?_
            refine RunL.ok (OpOk.pickF rfl rfl) rfl ?_
            refine RunL.nil ?_
            refine Run.condF rfl ?_
            refine Run.skip ?_
            refine Run.exit rfl ?_
            refine Run.region ?_
            refine RunL.ok (OpOk.move rfl) rfl ?_
            refine RunL.ok (OpOk.addN _ 1 rfl rfl rfl rfl (by omega)) rfl ?_
            refine RunL.ok (OpOk.assign rfl) rfl ?_
            refine RunL.nil ?_
            refine Run.jump ((ih (i + 1, _, zs, q + 1, 3 - t, es2) ⟨by dsimp only; omega, by dsimp only; omega, hSz⟩ (by dsimp only; omega))) ⟨rfl, rfl, rfl, trivial⟩ (Grew.of (Eq.trans (frc (frl (frl (frl (frl (frl rfl))))) rfl) (congrArg (· * _) (asg (asg (asg (asg (asg (asg (asg (asg (asg (asg as1)))))))))))) (Grew.refl _))
        · have hR0 : (dropsP q t es o i2).1 = [] := hC.bad (by rw [hff]; exact hf0)
          have hE : errN (dropsP q t es o i2) (-1) = ff := by rw [errN, hkk, if_neg (by omega), hff]
          have hO : OutIs xs (dropsP q t es o i2) (-1) a b q t xs ff 0 0 0 0 [] := ⟨hE, by rw [vwN, hE, if_neg hf0], by rw [hR0, List.take_nil]; rfl⟩
          have hxl := hSx.len
          refine Run.seq ?_
          refine Run.seq ?_
          refine Run.region ?_
          refine RunL.ok (OpOk.move rfl) rfl ?_
          refine RunL.ok (OpOk.fieldAddr fld86_4 rfl) rfl ?_
          refine RunL.ok (OpOk.load rfl rfl rfl (Blk.out Blk.pts.left _ _ (by first | rfl | assumption))) rfl ?_
          refine RunL.ok (OpOk.lenV rfl rfl rfl) rfl ?_
          refine RunL.ok (OpOk.asF (OpOk.lss rfl rfl) (by omega)) rfl ?_
          refine RunL.nil ?_
          refine Run.condF rfl ?_
          refine Run.exit rfl ?_
          refine Run.seq ?_
          refine Run.region ?_
          refine RunL.ok (OpOk.assign rfl) rfl ?_
          refine RunL.nil ?_
          refine Run.seq ?_
          refine Run.seq ?_
          refine Run.region ?_
          refine RunL.ok (OpOk.fieldAddr fld113_2 rfl) rfl ?_
          refine RunL.ok (OpOk.load rfl rfl rfl (Blk.out Blk.pts.left.left.left.left _ _ (by first | rfl | assumption))) rfl ?_
          refine RunL.nil ?_
          refine Run.condT rfl ?_
          refine Run.region ?_
          refine RunL.ok (OpOk.move rfl) rfl ?_
          refine RunL.ok (OpOk.loadS rfl rfl ti86 rfl Blk.pts.left rfl) rfl ?_
          refine RunL.ok (OpOk.fieldAddr fld113_0 rfl) rfl ?_
          refine RunL.ok (OpOk.fieldAddr fld111_1 rfl) rfl ?_
          refine RunL.ok (OpOk.load rfl rfl rfl (Blk.out Blk.pts.left.left.left.left _ _ (by first | rfl | assumption))) rfl ?_
          refine RunL.ok (OpOk.fieldAddr fld113_0 rfl) rfl ?_
          refine RunL.ok (OpOk.fieldAddr fld111_2 rfl) rfl ?_
          refine RunL.ok (OpOk.load rfl rfl rfl (Blk.out Blk.pts.left.left.left.left _ _ (by first | rfl | assumption))) rfl ?_
          refine RunL.know (fun w s => (s.conv (frl (frl (frl rfl)))).ownRd0) (fun rdr1 => ?_)
          refine RunL.mem (frc (frl (frl rfl)) rfl) ?_
          refine RunL.call cal56 rfl (s56e (Rd.right rdr1).left.left (by assumption) (by omega) (by assumption)) rfl (fun vr6 Ar6 hr6 => ?_)
          obtain ⟨r7, ⟨r8, ⟨r9, ⟨r10, ⟨rfl, ⟨r11, rfl⟩⟩⟩⟩⟩⟩ := hr6
          refine RunL.ok (OpOk.move rfl) rfl ?_
          refine RunL.ok (OpOk.ext20 rfl) rfl ?_
          refine RunL.ok (OpOk.ext21 rfl) rfl ?_
          refine RunL.ok (OpOk.assign rfl) rfl ?_
          refine RunL.nil ?_
          refine Run.seq ?_
          refine Run.region ?_
          refine RunL.ok (OpOk.move rfl) rfl ?_
          refine RunL.call cal39 rfl (s39f (by assumption)) rfl (fun vr16 Ar16 hr16 => ?_)
          obtain ⟨r17, ⟨r18, ⟨r19, ⟨rfl, rfl⟩⟩⟩⟩ := hr16
          refine RunL.ok (OpOk.move rfl) rfl ?_
          refine RunL.ok (OpOk.ext20 rfl) rfl ?_
          refine RunL.ok (OpOk.ext21 rfl) rfl ?_
          refine RunL.alloc ti86 rfl (fun br20 => ?_)
          refine RunL.storeAll ti86 rfl rfl rfl (ones rfl) rfl rfl ?_
          refine RunL.ok (OpOk.assign rfl) rfl ?_
          refine RunL.nil ?_
          refine Run.seq ?_
          refine Run.seq ?_
          rw [rw_a]
          rw [rw_b]
          refine Run.region ?_
          refine RunL.ok (OpOk.move rfl) rfl ?_
          refine RunL.ok (OpOk.as (c := false) (OpOk.neq rfl rfl) (by rw [decide_eq_true (by omega)]; rfl)) rfl ?_
          refine RunL.ok (OpOk.move rfl) rfl ?_
          refine RunL.on rfl rfl ?_
          refine RunL.ok (OpOk.fieldAddr fld86_0 rfl) rfl ?_
          refine RunL.on rfl rfl ?_
          refine RunL.ok (OpOk.load rfl rfl rfl (Blk.out Blk.pts _ _ (by first | rfl | assumption))) rfl ?_
          refine RunL.on rfl rfl ?_
          refine RunL.ok (OpOk.fieldAddr fld86_0 rfl) rfl ?_
          refine RunL.on rfl rfl ?_
          refine RunL.ok (OpOk.load rfl rfl rfl (Blk.out Blk.pts.left.left.left.left.left.left.left _ _ (by first | rfl | assumption))) rfl ?_
          refine RunL.on rfl rfl ?_
          refine RunL.ok (OpOk.as (c := false) (OpOk.neq rfl rfl) (by rw [decide_eq_true (by omega)]; rfl)) rfl ?_
          refine RunL.ok (OpOk.pickF rfl rfl) rfl ?_
          refine RunL.ok (OpOk.move rfl) rfl ?_
          refine RunL.on rfl rfl ?_
          refine RunL.ok (OpOk.move rfl) rfl ?_
          refine RunL.on rfl rfl ?_
          refine RunL.ok (OpOk.asF (OpOk.eql rfl rfl) (by omega)) rfl ?_
          refine RunL.on rfl rfl ?_
          refine RunL.ok (OpOk.move rfl) rfl ?_
          refine RunL.off rfl rfl rfl rfl ?_
          refine RunL.off rfl rfl rfl rfl ?_
          refine RunL.off rfl rfl rfl rfl ?_
          refine RunL.off rfl rfl rfl rfl ?_
          refine RunL.off rfl rfl rfl rfl ?_
          refine RunL.off rfl rfl rfl rfl ?_
          refine RunL.on rfl rfl ?_
          refine RunL.ok (OpOk.pickF rfl rfl) rfl ?_
          refine RunL.ok (OpOk.pickF rfl rfl) rfl ?_
          refine RunL.ok (OpOk.move rfl) rfl ?_
          refine RunL.on rfl rfl ?_
          refine RunL.ok (OpOk.move rfl) rfl ?_
          refine RunL.on rfl rfl ?_
          refine RunL.ok (OpOk.as (c := true) (OpOk.neq rfl rfl) (by rw [decide_eq_false (by omega)]; rfl)) rfl ?_
          refine RunL.on rfl rfl ?_
          refine RunL.ok (OpOk.move rfl) rfl ?_
          refine RunL.on rfl rfl ?_
          refine RunL.ok (OpOk.fieldAddr fld86_2 rfl) rfl ?_
          refine RunL.on rfl rfl ?_
          refine RunL.ok (OpOk.load rfl rfl rfl (Blk.out Blk.pts _ _ (by first | rfl | assumption))) rfl ?_
          refine RunL.on rfl rfl ?_
          refine RunL.ok (OpOk.fieldAddr fld86_2 rfl) rfl ?_
          refine RunL.on rfl rfl ?_
          refine RunL.ok (OpOk.load rfl rfl rfl (Blk.out Blk.pts.left.left.left.left.left.left.left _ _ (by first | rfl | assumption))) rfl ?_
          refine RunL.on rfl rfl ?_
          refine RunL.ok (OpOk.as (c := false) (OpOk.neq rfl rfl) (by rw [decide_eq_true (by omega)]; rfl)) rfl ?_
          refine RunL.on rfl rfl ?_
          refine RunL.ok (OpOk.pickT rfl rfl) rfl ?_
          refine RunL.ok (OpOk.pickF rfl rfl) rfl ?_
          refine RunL.nil ?_
          refine Run.condF rfl ?_
          refine Run.skip ?_
          refine Run.seq ?_
          refine Run.seq ?_
          refine Run.region ?_
          refine RunL.ok (OpOk.assign rfl) rfl ?_
          refine RunL.nil ?_
          refine Run.block ?_
          obtain rfl := r11 (by decide)
          refine Run.jump ((Run.loopJ (X := Nat × Asn) (fun x => [(17, .int .i64 (x.1 : Int)), (15, .pointer (some ⟨br20, 0, none⟩)), (14, .int .i64 ff), (10, bv), (8, .pointer (some ⟨bz10, 0, none⟩)), (7, .pointer (some ⟨bz1, 0, none⟩)), (6, .int .i64 (i : Int)), (5, .pointer (some ⟨x4, 0, none⟩)), (1, u)]) (fun x => A * J * z9 * J1 * x.2 * pts bz1 (.cells #[.int .i64 k, .int .i64 o, .int .i64 i2, .int .i64 s, v.1, .bool true, .int .i64 n] 113 (0, 0)) * own 111 4 (.slice z7 es.length z8) es.length (Fl encT111 es) * pts x4 (.cells (B (xs) ++ [Value.int .i64 (-1)]).toArray 177 (0, 0)) * pts bz10 (.cells #[.int .i64 a, .int .i64 b, .int .i64 q, .int .i64 (t : Int), .slice z7 es.length z8] 86 (0, 0)) * own 9 1 bv L.length (Fl encS L) * own 111 4 (.slice r17 es.length r18) es.length (Fl encT111 es) * pts br20 (.cells #[.int .i64 a, .int .i64 b, .int .i64 q, .int .i64 (t : Int), .slice r17 es.length r18] 86 (0, 0))) (fun x => x.1 ≤ es.length) (fun x => es.length - x.1) (0, _) (Nat.zero_le _) (fun x hx ih2 => ?_))) ⟨rfl, rfl, rfl, rfl, rfl, rfl, rfl, rfl, rfl, trivial⟩ (Grew.of (Eq.trans (frc rfl (frc (frl rfl) (frc (frl (frl (frl (frl rfl)))) (frc (frl (frl (frl (frl rfl)))) (frc rfl (frc (frl (frl (frl rfl))) (frc (frl (frl (frl rfl))) rfl))))))) (congrArg (· * _) (congrArg (· * _) (congrArg (· * _) (congrArg (· * _) (congrArg (· * _) (congrArg (· * _) (congrArg (· * _) (asg (asg as1)))))))))) (Grew.refl _))
          obtain ⟨m, J2⟩ := x
          simp only at hx ih2 ⊢
          rcases Nat.lt_or_ge m es.length with hlm | hgm
          · obtain ⟨e, hoe3⟩ : ∃ e, es.getD m default = e := ⟨_, rfl⟩
            have hmem := getD_mem hlm
            have hge := (hval.1 _ (getD_mem hlm)).2
            have hLg : L.getD m default = bodyS xs (es.getD m default).2.2.2 := by
              rw [hL, List.getD_eq_getElem?_getD, List.getElem?_map, List.getElem?_eq_getElem hlm, List.getD_eq_getElem?_getD, List.getElem?_eq_getElem hlm]; rfl
            rw [hoe3] at hge hmem hLg
            obtain ⟨ke, oe, ie, se⟩ := e
            dsimp only at hge hLg
            obtain ⟨hs0, hs6⟩ := hge
            obtain ⟨j, hat, hjl, hoe4⟩ := mem_at hval hmem
            dsimp only at hat
            have rw_at := hat
            have hbe : secOf xs (3 + 2 * se).toNat ++ secOf xs (3 + 2 * se + 1).toNat = L.getD m default := by rw [hLg]; exact rfl
            refine Run.seq ?_
            refine Run.seq ?_
            refine Run.region ?_
            refine RunL.ok (OpOk.move rfl) rfl ?_
            refine RunL.ok (OpOk.fieldAddr fld86_4 rfl) rfl ?_
            refine RunL.ok (OpOk.load rfl rfl rfl (Blk.out Blk.pts.left.left.left _ _ (by first | rfl | assumption))) rfl ?_
            refine RunL.ok (OpOk.lenV rfl rfl rfl) rfl ?_
            refine RunL.ok (OpOk.asT (OpOk.lss rfl rfl) (by omega)) rfl ?_
            refine RunL.nil ?_
            refine Run.condT rfl ?_
            refine Run.skip ?_
            refine Run.seq ?_
            refine Run.block ?_
            refine Run.seq ?_
            refine Run.region ?_
            refine RunL.ok (OpOk.fieldAddr fld86_4 rfl) rfl ?_
            refine RunL.ok (OpOk.load rfl rfl rfl (Blk.out Blk.pts.left.left.left _ _ (by first | rfl | assumption))) rfl ?_
            refine RunL.ok (OpOk.move rfl) rfl ?_
            refine RunL.ok (OpOk.idxN rfl ti111 rfl (Rd.right rdr1).left.left.left.left.left rfl (by omega)) rfl ?_
            refine RunL.ok (OpOk.loadFlE (by assumption) rfl rfl ti111 rfl (Rd.right rdr1).left.left.left.left.left (fun _ => rfl) rfl (by omega)) rfl ?_
            refine RunL.alloc ti111 rfl (fun bp1 => ?_)
            refine RunL.storeAll ti111 rfl rfl rfl (fun w hw => OneC.one (enc := encT111) ((ke, oe, ie, se)) w hw) rfl rfl ?_
            refine RunL.nil ?_
            refine Run.seq ?_
            refine Run.seq ?_
            refine Run.region ?_
            refine RunL.ok (OpOk.move rfl) rfl ?_
            refine RunL.ok (OpOk.asF (OpOk.eql rfl rfl) (by omega)) rfl ?_
            refine RunL.ok (OpOk.move rfl) rfl ?_
            refine RunL.off rfl rfl rfl rfl ?_
            refine RunL.off rfl rfl rfl rfl ?_
            refine RunL.off rfl rfl rfl rfl ?_
            refine RunL.off rfl rfl rfl rfl ?_
            refine RunL.off rfl rfl rfl rfl ?_
            refine RunL.off rfl rfl rfl rfl ?_
            refine RunL.ok (OpOk.pickF rfl rfl) rfl ?_
            refine RunL.ok (OpOk.move rfl) rfl ?_
            refine RunL.off rfl rfl rfl rfl ?_
            refine RunL.off rfl rfl rfl rfl ?_
            refine RunL.off rfl rfl rfl rfl ?_
            refine RunL.off rfl rfl rfl rfl ?_
            refine RunL.off rfl rfl rfl rfl ?_
            refine RunL.off rfl rfl rfl rfl ?_
            refine RunL.ok (OpOk.pickF rfl rfl) rfl ?_
            refine RunL.nil ?_
            refine Run.condF rfl ?_
            refine Run.skip ?_
            refine Run.seq ?_
            refine Run.region ?_
            refine RunL.ok (OpOk.loadS rfl rfl ti86 rfl Blk.pts.left rfl) rfl ?_
            refine RunL.ok (OpOk.fieldAddr fld111_1 rfl) rfl ?_
            refine RunL.ok (OpOk.load rfl rfl rfl (Blk.out Blk.pts _ _ (by first | rfl | assumption))) rfl ?_
            refine RunL.ok (OpOk.fieldAddr fld111_2 rfl) rfl ?_
            refine RunL.ok (OpOk.load rfl rfl rfl (Blk.out Blk.pts _ _ (by first | rfl | assumption))) rfl ?_
            refine RunL.know (fun w s => (s.conv (frl (frl rfl))).ownRd0) (fun rdp2 => ?_)
            refine RunL.call cal45 rfl (s45 (Rd.right rdp2).left.left) rfl (fun vp3 Ap3 hp3 => ?_)
            obtain ⟨p4, ⟨rfl, rfl⟩⟩ := hp3
            refine RunL.ok (OpOk.assign rfl) rfl ?_
            refine RunL.nil ?_
            refine Run.seq ?_
            refine Run.seq ?_
            rw [rw_at]
            refine Run.know (fun w s => (s.conv (frl (frl (frl (frl rfl))))).ownRd0) (fun rdp5 => ?_)
            (apply Run.drawD [] (by rfl) (sep_emp _).symm; case hchk => kernel_rfl)
            refine Sd.quiet 0 _ _ rfl rfl rfl rfl rfl (QOp.ok (fun X => OpOk.move rfl)) ?_
            refine Sd.quiet 1 _ _ rfl rfl rfl rfl rfl (QOp.ok (fun X => OpOk.asF (OpOk.lss rfl rfl) (by omega))) ?_
            refine Sd.quiet 2 _ _ rfl rfl rfl rfl rfl (QOp.ok (fun X => OpOk.move rfl)) ?_
            refine Sd.quiet 3 _ _ rfl rfl rfl rfl rfl (QOp.ok (fun X => OpOk.fieldAddr fld86_4 rfl)) ?_
            refine Sd.quiet 4 _ _ rfl rfl rfl rfl rfl (QOp.ok (fun X => OpOk.load rfl rfl rfl (Blk.out Blk.pts.left.left.left.left _ _ (by first | rfl | assumption)))) ?_
            refine Sd.quiet 5 _ _ rfl rfl rfl rfl rfl (QOp.ok (fun X => OpOk.move rfl)) ?_
            refine Sd.quiet 6 _ _ rfl rfl rfl rfl rfl (QOp.ok (fun X => OpOk.idxN rfl ti111 rfl (Rd.right rdp2).left.left.left.left.left rfl (by omega))) ?_
            refine Sd.quiet 7 _ _ rfl rfl rfl rfl rfl (QOp.ok (fun X => OpOk.loadFlE (by assumption) rfl rfl ti111 rfl (Rd.right rdp2).left.left.left.left.left (fun _ => rfl) rfl (by omega))) ?_
            refine Sd.quiet 8 _ _ rfl rfl rfl rfl rfl (QOp.ok (fun X => OpOk.loadS rfl rfl ti111 rfl Blk.pts.left.left.left rfl)) ?_
            refine Sd.quiet 9 _ _ rfl rfl rfl rfl rfl (QOp.ok (fun X => OpOk.neqK4 (p := (ke, oe, ie, se)) (q := (ke, oe, ie, se)) four111 rfl rfl)) ?_
            refine Sd.quiet 10 _ _ rfl rfl rfl rfl rfl (QOp.ok (fun X => OpOk.pickF rfl rfl)) ?_
            (apply Sd.tail; case hall => kernel_rfl)
            refine RunL.mem (fl2 (sep_emp _) (sep_emp _)) ?_
            refine RunL.nil ?_
            refine Run.condNF rfl (by first | omega | with_reducible rfl | assumption) ?_
            refine Run.skip ?_
            refine Run.seq ?_
            refine Run.region ?_
            refine RunL.ok (OpOk.move rfl) rfl ?_
            refine RunL.ok (OpOk.fieldAddr fld111_3 rfl) rfl ?_
            refine RunL.ok (OpOk.load rfl rfl rfl (Blk.out Blk.pts.left _ _ (by first | rfl | assumption))) rfl ?_
            refine RunL.mem (frc (frl (frl (frl (frl (frl (frl rfl)))))) rfl) ?_
            refine RunL.call cal42 rfl (s42b (by assumption) (by assumption) (by assumption)) rfl (fun vp7 Ap7 hp7 => ?_)
            obtain ⟨p8, ⟨p9, ⟨rfl, rfl⟩⟩⟩ := hp7
            refine RunL.ok (OpOk.move rfl) rfl ?_
            refine RunL.ok (OpOk.ext20 rfl) rfl ?_
            refine RunL.ok (OpOk.ext21 rfl) rfl ?_
            refine RunL.ok (OpOk.assign rfl) rfl ?_
            refine RunL.ok (OpOk.assign rfl) rfl ?_
            refine RunL.nil ?_
            refine Run.seq ?_
            refine Run.know (fun w s => (s.conv (frl rfl)).ownRd0) (fun rdp10 => ?_)
            (apply Run.drawD [] (by rfl) (sep_emp _).symm; case hchk => kernel_rfl)
            refine Sd.quiet 0 _ _ rfl rfl rfl rfl rfl (QOp.ok (fun X => OpOk.move rfl)) ?_
            refine Sd.quiet 1 _ _ rfl rfl rfl rfl rfl (QOp.ok (fun X => OpOk.strOf rfl rfl rfl rfl (Rd.right rdp10).left.left.left)) ?_
            refine Sd.quiet 2 _ _ rfl rfl rfl rfl rfl (QOp.ok (fun X => OpOk.move rfl)) ?_
            refine Sd.quiet 3 _ _ rfl rfl rfl rfl rfl (QOp.ok (fun X => OpOk.move rfl)) ?_
            refine Sd.quiet 4 _ _ rfl rfl rfl rfl rfl (QOp.ok (fun X => OpOk.idx1N rfl ti9 rfl (Rd.right rdp5).left.left.left.left.left.left.left.left.left rfl (by omega))) ?_
            refine Sd.quiet 5 _ _ rfl rfl rfl rfl rfl (QOp.ok (fun X => OpOk.loadStr rfl rfl rfl (Rd.right rdp5).left.left.left.left.left.left.left.left.left (by omega))) ?_
            refine Sd.quiet 6 _ _ rfl rfl rfl rfl rfl (QOp.ok (fun X => OpOk.as (c := false) (OpOk.neqSS rfl rfl) (by rw [decide_eq_true (by omega)]; rfl))) ?_
            (apply Sd.tail; case hall => kernel_rfl)
            refine RunL.mem (fl2 (sep_emp _) (sep_emp _)) ?_
            refine RunL.nil ?_
            refine Run.condF rfl ?_
            refine Run.skip ?_
            refine Run.inBlock ?_
            refine Run.region ?_
            refine RunL.ok (OpOk.move rfl) rfl ?_
            refine RunL.ok (OpOk.addN _ 1 rfl rfl rfl rfl (by omega)) rfl ?_
            refine RunL.ok (OpOk.assign rfl) rfl ?_
            refine RunL.nil ?_
            refine Run.jump ((ih2 (m + 1, _) (by dsimp only; omega) (by dsimp only; omega))) ⟨rfl, rfl, rfl, rfl, rfl, rfl, rfl, rfl, rfl, trivial⟩ (Grew.of (Eq.trans (frc (frl (frl (frl (frl (frl rfl))))) (frc (frl (frl (frl (frl (frl rfl))))) (frc (frl (frl (frl (frl (frl rfl))))) (frc (frl (frl (frl (frl (frl rfl))))) (frc rfl (frc (frl (frl (frl (frl rfl)))) (frc (frl (frl (frl (frl rfl)))) rfl))))))) (congrArg (· * _) (congrArg (· * _) (congrArg (· * _) (congrArg (· * _) (congrArg (· * _) (congrArg (· * _) (congrArg (· * _) (asg (asg (asg (asg as1)))))))))))) (Grew.refl _))
          · obtain rfl : m = es.length := by omega
            clear ih2
            refine Run.seq ?_
            refine Run.seq ?_
            refine Run.region ?_
            refine RunL.ok (OpOk.move rfl) rfl ?_
            refine RunL.ok (OpOk.fieldAddr fld86_4 rfl) rfl ?_
            refine RunL.ok (OpOk.load rfl rfl rfl (Blk.out Blk.pts.left.left.left _ _ (by first | rfl | assumption))) rfl ?_
            refine RunL.ok (OpOk.lenV rfl rfl rfl) rfl ?_
            refine RunL.ok (OpOk.asF (OpOk.lss rfl rfl) (by omega)) rfl ?_
            refine RunL.nil ?_
            refine Run.condF rfl ?_
            refine Run.exit rfl ?_
            refine Run.seq ?_
            refine Run.region ?_
            refine RunL.ok (OpOk.loadS rfl rfl ti86 rfl Blk.pts rfl) rfl ?_
            refine RunL.ok (OpOk.fieldAddr fld113_0 rfl) rfl ?_
            refine RunL.ok (OpOk.fieldAddr fld111_1 rfl) rfl ?_
            refine RunL.ok (OpOk.load rfl rfl rfl (Blk.out Blk.pts.left.left.left.left.left.left _ _ (by first | rfl | assumption))) rfl ?_
            refine RunL.ok (OpOk.fieldAddr fld113_0 rfl) rfl ?_
            refine RunL.ok (OpOk.fieldAddr fld111_2 rfl) rfl ?_
            refine RunL.ok (OpOk.load rfl rfl rfl (Blk.out Blk.pts.left.left.left.left.left.left _ _ (by first | rfl | assumption))) rfl ?_
            refine RunL.know (fun w s => (s.conv (frl rfl)).ownRd0) (fun rdp1 => ?_)
            refine RunL.call cal45 rfl (s45 (Rd.right rdp1).left) rfl (fun vp2 Ap2 hp2 => ?_)
            obtain ⟨p3, ⟨rfl, rfl⟩⟩ := hp2
            refine RunL.ok (OpOk.assign rfl) rfl ?_
            refine RunL.nil ?_
            refine Run.seq ?_
            refine Run.seq ?_
            refine Run.region ?_
            refine RunL.ok (OpOk.move rfl) rfl ?_
            refine RunL.ok (OpOk.as (c := true) (OpOk.neq rfl rfl) (by rw [decide_eq_false (by omega)]; rfl)) rfl ?_
            refine RunL.nil ?_
            refine Run.condT rfl ?_
            refine Run.exit rfl ?_
            refine Run.region ?_
            refine RunL.ok (OpOk.move rfl) rfl ?_
            refine RunL.ok (OpOk.addN _ 1 rfl rfl rfl rfl (by omega)) rfl ?_
            refine RunL.ok (OpOk.assign rfl) rfl ?_
            refine RunL.nil ?_
            refine Run.jump ((ih (i + 1, _, xs, q, t, es) ⟨by dsimp only; omega, by dsimp only; omega, hSx⟩ (by dsimp only; omega))) ⟨rfl, rfl, rfl, trivial⟩ (Grew.of (Eq.trans (frc (frl (frl (frl (frl (frl rfl))))) rfl) (congrArg (· * _) (asg (asg (asg (asg (asg (asg (asg (asg (asg (asg as1)))))))))))) (Grew.refl _))
      | false =>
        obtain ⟨kk, hkk⟩ : ∃ kk, (storesP q t es k o i2 bs).1.length = kk := ⟨_, rfl⟩
        obtain ⟨ff, hff⟩ : ∃ ff, (storesP q t es k o i2 bs).2.1 = ff := ⟨_, rfl⟩
        have hC := stores_ok hSx k o i2 bs
        have hD : donN (storesP q t es k o i2 bs) (-1) = kk := by rw [donN, hkk, if_neg (by omega)]
        have htk : (storesP q t es k o i2 bs).1.take kk = (storesP q t es k o i2 bs).1 := by rw [← hkk, List.take_length]
        by_cases hf0 : ff = 0
        · have hE : errN (storesP q t es k o i2 bs) (-1) = 0 := by rw [errN, hkk, if_neg (by omega), hff, hf0]
          obtain ⟨zs, hzs⟩ : ∃ zs, doneF xs (storesP q t es k o i2 bs).1 = zs := ⟨_, rfl⟩
          obtain ⟨es2, he2⟩ : ∃ es2, (storesP q t es k o i2 bs).2.2 = es2 := ⟨_, rfl⟩
          have hct : 3 - (t : Int) = ((3 - t : Nat) : Int) := by have := hSx.copy; omega
          have hO : OutIs xs (storesP q t es k o i2 bs) (-1) a b q t zs 0 a b (q + 1) ((3 - t : Nat) : Int) es2 := ⟨hE, by rw [vwN, hE, he2, hct]; rfl, by rw [hD, htk, hzs]⟩
          have hSz : Says zs (q + 1) (3 - t) es2 := by rw [← hzs, ← he2]; exact hC.good (by rw [hff, hf0])
          have hsm : secOf zs 0 = secOf xs 0 := by rw [← hzs, ← htk]; exact hC.same _
          have rw_a2 : cardB (secOf zs 0) = a := by rw [hsm, ha]
          have rw_b2 : issB (secOf zs 0) = b := by rw [hsm, hb]
          have hzl := hSz.len
          have hval2 := hSz.facts.2.2.2.1
          have h25 := hSz.facts.2.2.1
          have h25b : es2.length ≤ 1048576 := by omega
          have hkp := stores_keep hSx k o i2 bs (by rw [hff, hf0])
          rw [he2, hzs] at hkp
          subst hf0
          refine Run.seq ?_
          refine Run.seq ?_
          refine Run.region ?_
          refine RunL.ok (OpOk.move rfl) rfl ?_
          refine RunL.ok (OpOk.fieldAddr fld86_4 rfl) rfl ?_
          refine RunL.ok (OpOk.load rfl rfl rfl (Blk.out Blk.pts.left _ _ (by first | rfl | assumption))) rfl ?_
          refine RunL.ok (OpOk.lenV rfl rfl rfl) rfl ?_
          refine RunL.ok (OpOk.asF (OpOk.lss rfl rfl) (by omega)) rfl ?_
          refine RunL.nil ?_
          refine Run.condF rfl ?_
          refine Run.exit rfl ?_
          refine Run.seq ?_
          refine Run.region ?_
          refine RunL.ok (OpOk.assign rfl) rfl ?_
          refine RunL.nil ?_
          refine Run.seq ?_
          refine Run.seq ?_
          refine Run.region ?_
          refine RunL.ok (OpOk.fieldAddr fld113_2 rfl) rfl ?_
          refine RunL.ok (OpOk.load rfl rfl rfl (Blk.out Blk.pts.left.left.left.left _ _ (by first | rfl | assumption))) rfl ?_
          refine RunL.nil ?_
          refine Run.condF rfl ?_
          refine Run.know (fun w s => (s.conv (frl (frl (frl rfl)))).ownRd0) (fun rdr1 => ?_)
          refine Run.know (fun w s => (s.conv rfl).ownRd0) (fun rdr2 => ?_)
          refine Run.drop [14] ?_
          (apply Run.drawD [] (by rfl) (Eq.trans (frc (frl (frl rfl)) rfl) rfl); case hchk => kernel_rfl)
          refine Sd.quiet 0 _ _ rfl rfl rfl rfl rfl (QOp.ok (fun X => OpOk.move rfl)) ?_
          refine Sd.quiet 1 _ _ rfl rfl rfl rfl rfl (QOp.ok (fun X => OpOk.loadS rfl rfl ti86 rfl Blk.pts.left.left.left rfl)) ?_
          refine Sd.quiet 2 _ _ rfl rfl rfl rfl rfl (QOp.ok (fun X => OpOk.fieldAddr fld113_0 rfl)) ?_
          refine Sd.quiet 3 _ _ rfl rfl rfl rfl rfl (QOp.ok (fun X => OpOk.loadSub rfl rfl ti111 rfl Blk.pts.left.left.left.left.left rfl rfl)) ?_
          refine Sd.quiet 5 _ _ rfl rfl rfl rfl rfl (QOp.ok (fun X => OpOk.fieldAddr fld113_1 rfl)) ?_
          refine Sd.quiet 6 _ _ rfl rfl rfl rfl rfl (QOp.ok (fun X => OpOk.load rfl rfl rfl (Blk.out Blk.pts.left.left.left.left.left _ _ (by first | rfl | assumption)))) ?_
          (refine Sd.exec 4 rfl rfl rfl rfl rfl ?hrest (by rfl) (fun Xr3 Kr3 hKr3 => ?_); case hrest => kernel_rfl)
          refine RunL.mem (fl2 (sep_emp _) rfl) ?_
          refine RunL.lit0B rfl ti5 rfl (fun vr4 rdr4 => ?_)
          refine RunL.know (fun w s => (s.conv rfl).ownRd0) (fun rdr5 => ?_)
          refine Sd.ret hKr3 (Eq.trans (frc (frl rfl) rfl) (gp2 (asg rfl) (sep_emp _).symm)) ⟨emp, (sep_emp _).symm⟩ ?_
          (refine Sd.exec 7 rfl rfl rfl rfl rfl ?hrest (by rfl) (fun Xr6 Kr6 hKr6 => ?_); case hrest => kernel_rfl)
          refine RunL.mem (fl2 (sep_emp _) (flS rfl)) ?_
          refine RunL.appendB0 rfl ti5 rfl rfl rfl (frl rfl) rdb0.left.left.left.left.left.left.left.left.left.left (by omega) rfl (fun vr7 rdr7 => ?_)
          refine RunL.know (fun w s => (s.conv rfl).ownRd0) (fun rdr8 => ?_)
          refine Sd.ret hKr6 (Eq.trans (frc (frl rfl) rfl) (gp2 rfl rfl)) ⟨_, (emp_sep _).symm⟩ ?_
          (refine Sd.exec 8 rfl rfl rfl rfl rfl ?hrest (by rfl) (fun Xr9 Kr9 hKr9 => ?_); case hrest => kernel_rfl)
          refine RunL.mem (fl2 rfl rfl) ?_
          refine RunL.call cal57 rfl (s57k (Rd.right rdr1).left.left.left.left (Rd.right rdr8) (by assumption) (by omega) (by assumption)) rfl (fun vr10 Ar10 hr10 => ?_)
          obtain ⟨r11, ⟨r12, ⟨r13, ⟨r14, ⟨rfl, ⟨r15, rfl⟩⟩⟩⟩⟩⟩ := hr10
          refine RunL.know (fun w s => (s.conv (frl rfl)).ownRd0) (fun rdr16 => ?_)
          refine Sd.ret hKr9 (Eq.trans rfl (gp2 (sep_emp _).symm (asg (asg (asg rfl))))) ⟨_, (asg (asg rfl))⟩ ?_
          refine Sd.quiet 9 _ _ rfl rfl rfl rfl rfl (QOp.ok (fun X => OpOk.move rfl)) ?_
          refine Sd.quiet 10 _ _ rfl rfl rfl rfl rfl (QOp.ok (fun X => OpOk.ext20 rfl)) ?_
          refine Sd.quiet 11 _ _ rfl rfl rfl rfl rfl (QOp.ok (fun X => OpOk.ext21 rfl)) ?_
          refine Sd.quiet 12 _ _ rfl rfl rfl rfl rfl (QOp.ok (fun X => OpOk.assign rfl)) ?_
          (apply Sd.tail; case hall => kernel_rfl)
          refine RunL.mem (fl2 (flS (flS (flS rfl))) (sep_emp _)) ?_
          refine RunL.nil ?_
          refine Run.seq ?_
          refine Run.region ?_
          refine RunL.ok (OpOk.move rfl) rfl ?_
          refine RunL.call cal39 rfl (s39f (by assumption)) rfl (fun vr21 Ar21 hr21 => ?_)
          obtain ⟨r22, ⟨r23, ⟨r24, ⟨rfl, rfl⟩⟩⟩⟩ := hr21
          refine RunL.ok (OpOk.move rfl) rfl ?_
          refine RunL.ok (OpOk.ext20 rfl) rfl ?_
          refine RunL.ok (OpOk.ext21 rfl) rfl ?_
          refine RunL.alloc ti86 rfl (fun br25 => ?_)
          refine RunL.storeAll ti86 rfl rfl rfl (ones rfl) rfl rfl ?_
          refine RunL.ok (OpOk.assign rfl) rfl ?_
          refine RunL.nil ?_
          refine Run.seq ?_
          refine Run.seq ?_
          rw [rw_a2]
          rw [rw_b2]
          refine Run.region ?_
          refine RunL.ok (OpOk.move rfl) rfl ?_
          refine RunL.ok (OpOk.as (c := false) (OpOk.neq rfl rfl) (by rw [decide_eq_true (by omega)]; rfl)) rfl ?_
          refine RunL.ok (OpOk.move rfl) rfl ?_
          refine RunL.on rfl rfl ?_
          refine RunL.ok (OpOk.fieldAddr fld86_0 rfl) rfl ?_
          refine RunL.on rfl rfl ?_
          refine RunL.ok (OpOk.load rfl rfl rfl (Blk.out Blk.pts _ _ (by first | rfl | assumption))) rfl ?_
          refine RunL.on rfl rfl ?_
          refine RunL.ok (OpOk.fieldAddr fld86_0 rfl) rfl ?_
          refine RunL.on rfl rfl ?_
          refine RunL.ok (OpOk.load rfl rfl rfl (Blk.out Blk.pts.left.left.left.left.left.left.left.left _ _ (by first | rfl | assumption))) rfl ?_
          refine RunL.on rfl rfl ?_
          refine RunL.ok (OpOk.as (c := false) (OpOk.neq rfl rfl) (by rw [decide_eq_true (by omega)]; rfl)) rfl ?_
          refine RunL.ok (OpOk.pickF rfl rfl) rfl ?_
          refine RunL.ok (OpOk.move rfl) rfl ?_
          refine RunL.on rfl rfl ?_
          refine RunL.ok (OpOk.move rfl) rfl ?_
          refine RunL.on rfl rfl ?_
          refine RunL.ok (OpOk.asT (OpOk.eql rfl rfl) (by omega)) rfl ?_
          refine RunL.on rfl rfl ?_
          refine RunL.ok (OpOk.move rfl) rfl ?_
          refine RunL.on rfl rfl ?_
          refine RunL.ok (OpOk.fieldAddr fld86_2 rfl) rfl ?_
          refine RunL.on rfl rfl ?_
          refine RunL.ok (OpOk.load rfl rfl rfl (Blk.out Blk.pts _ _ (by first | rfl | assumption))) rfl ?_
          refine RunL.on rfl rfl ?_
          refine RunL.ok (OpOk.fieldAddr fld86_2 rfl) rfl ?_
          refine RunL.on rfl rfl ?_
          refine RunL.ok (OpOk.load rfl rfl rfl (Blk.out Blk.pts.left.left.left.left.left.left.left.left _ _ (by first | rfl | assumption))) rfl ?_
          refine RunL.on rfl rfl ?_
          refine RunL.ok (OpOk.add rfl rfl (wrapI (by omega) (by omega))) rfl ?_
          refine RunL.on rfl rfl ?_
          refine RunL.ok (OpOk.as (c := false) (OpOk.neq rfl rfl) (by rw [decide_eq_true (by omega)]; rfl)) rfl ?_
          refine RunL.on rfl rfl ?_
          refine RunL.ok (OpOk.pickT rfl rfl) rfl ?_
          refine RunL.ok (OpOk.pickF rfl rfl) rfl ?_
          refine RunL.ok (OpOk.move rfl) rfl ?_
          refine RunL.on rfl rfl ?_
          refine RunL.ok (OpOk.move rfl) rfl ?_
          refine RunL.on rfl rfl ?_
          refine RunL.ok (OpOk.as (c := false) (OpOk.neq rfl rfl) (by rw [decide_eq_true (by omega)]; rfl)) rfl ?_
          refine RunL.on rfl rfl ?_
          refine RunL.ok (OpOk.move rfl) rfl ?_
          refine RunL.off rfl rfl rfl rfl ?_
          refine RunL.off rfl rfl rfl rfl ?_
          refine RunL.off rfl rfl rfl rfl ?_
          refine RunL.off rfl rfl rfl rfl ?_
          refine RunL.off rfl rfl rfl rfl ?_
          refine RunL.on rfl rfl ?_
          refine RunL.ok (OpOk.pickF rfl rfl) rfl ?_
          refine RunL.ok (OpOk.pickF rfl rfl) rfl ?_
          refine RunL.nil ?_
          refine Run.condF rfl ?_
          refine Run.skip ?_
          refine Run.seq ?_
          refine Run.seq ?_
          refine Run.region ?_
          refine RunL.ok (OpOk.assign rfl) rfl ?_
          refine RunL.nil ?_
          refine Run.block ?_
          obtain rfl := r15 (by decide)
          refine Run.jump ((Run.loopJ (X := Nat × Asn) (fun x => [(17, .int .i64 (x.1 : Int)), (15, .pointer (some ⟨br25, 0, none⟩)), (14, .int .i64 0), (10, bv), (8, .pointer (some ⟨bz10, 0, none⟩)), (7, .pointer (some ⟨bz1, 0, none⟩)), (6, .int .i64 (i : Int)), (5, .pointer (some ⟨x4, 0, none⟩)), (1, u)]) (fun x => A * J * z9 * J1 * x.2 * pts bz1 (.cells #[.int .i64 k, .int .i64 o, .int .i64 i2, .int .i64 s, v.1, .bool false, .int .i64 n] 113 (0, 0)) * own 111 4 (.slice z7 es.length z8) es.length (Fl encT111 es) * pts x4 (.cells (B (zs) ++ [Value.int .i64 (-1)]).toArray 177 (0, 0)) * pts bz10 (.cells #[.int .i64 a, .int .i64 b, .int .i64 q, .int .i64 (t : Int), .slice z7 es.length z8] 86 (0, 0)) * own 9 1 bv L.length (Fl encS L) * own 111 4 (.slice r22 es2.length r23) es2.length (Fl encT111 es2) * pts br25 (.cells #[.int .i64 a, .int .i64 b, .int .i64 (q + 1), .int .i64 ((3 - t : Nat) : Int), .slice r22 es2.length r23] 86 (0, 0))) (fun x => x.1 ≤ es.length) (fun x => es.length - x.1) (0, _) (Nat.zero_le _) (fun x hx ih2 => ?_))) ⟨rfl, rfl, rfl, rfl, rfl, rfl, rfl, rfl, rfl, trivial⟩ (Grew.of (Eq.trans (frc rfl (frc (frl rfl) (frc (frl (frl (frl (frl (frl rfl))))) (frc (frl (frl (frl (frl (frl rfl))))) (frc rfl (frc (frl (frl (frl (frl rfl)))) (frc (frl (frl (frl (frl rfl)))) rfl))))))) (congrArg (· * _) (congrArg (· * _) (congrArg (· * _) (congrArg (· * _) (congrArg (· * _) (congrArg (· * _) (congrArg (· * _) (asg (asg (asg as1))))))))))) (Grew.refl _))
          obtain ⟨m, J2⟩ := x
          simp only at hx ih2 ⊢
          rcases Nat.lt_or_ge m es.length with hlm | hgm
          · obtain ⟨e, hoe3⟩ : ∃ e, es.getD m default = e := ⟨_, rfl⟩
            have hmem := getD_mem hlm
            have hge := (hval.1 _ (getD_mem hlm)).2
            have hLg : L.getD m default = bodyS xs (es.getD m default).2.2.2 := by
              rw [hL, List.getD_eq_getElem?_getD, List.getElem?_map, List.getElem?_eq_getElem hlm, List.getD_eq_getElem?_getD, List.getElem?_eq_getElem hlm]; rfl
            rw [hoe3] at hge hmem hLg
            obtain ⟨ke, oe, ie, se⟩ := e
            dsimp only at hge hLg
            obtain ⟨hs0, hs6⟩ := hge
            by_cases h1 : oe = o
            · by_cases h2 : ie = i2
              · refine Run.seq ?_
                refine Run.seq ?_
                refine Run.region ?_
                refine RunL.ok (OpOk.move rfl) rfl ?_
                refine RunL.ok (OpOk.fieldAddr fld86_4 rfl) rfl ?_
                refine RunL.ok (OpOk.load rfl rfl rfl (Blk.out Blk.pts.left.left.left _ _ (by first | rfl | assumption))) rfl ?_
                refine RunL.ok (OpOk.lenV rfl rfl rfl) rfl ?_
                refine RunL.ok (OpOk.asT (OpOk.lss rfl rfl) (by omega)) rfl ?_
                refine RunL.nil ?_
                refine Run.condT rfl ?_
                refine Run.skip ?_
                refine Run.seq ?_
                refine Run.block ?_
                refine Run.seq ?_
                refine Run.region ?_
                refine RunL.ok (OpOk.fieldAddr fld86_4 rfl) rfl ?_
                refine RunL.ok (OpOk.load rfl rfl rfl (Blk.out Blk.pts.left.left.left _ _ (by first | rfl | assumption))) rfl ?_
                refine RunL.ok (OpOk.move rfl) rfl ?_
                refine RunL.ok (OpOk.idxN rfl ti111 rfl (Rd.right rdr1).left.left.left.left.left rfl (by omega)) rfl ?_
                refine RunL.ok (OpOk.loadFlE (by assumption) rfl rfl ti111 rfl (Rd.right rdr1).left.left.left.left.left (fun _ => rfl) rfl (by omega)) rfl ?_
                refine RunL.alloc ti111 rfl (fun bp1 => ?_)
                refine RunL.storeAll ti111 rfl rfl rfl (fun w hw => OneC.one (enc := encT111) ((ke, oe, ie, se)) w hw) rfl rfl ?_
                refine RunL.nil ?_
                refine Run.seq ?_
                refine Run.seq ?_
                refine Run.region ?_
                refine RunL.ok (OpOk.move rfl) rfl ?_
                refine RunL.ok (OpOk.asT (OpOk.eql rfl rfl) (by omega)) rfl ?_
                refine RunL.ok (OpOk.move rfl) rfl ?_
                refine RunL.on rfl rfl ?_
                refine RunL.ok (OpOk.fieldAddr fld111_1 rfl) rfl ?_
                refine RunL.on rfl rfl ?_
                refine RunL.ok (OpOk.load rfl rfl rfl (Blk.out Blk.pts _ _ (by first | rfl | assumption))) rfl ?_
                refine RunL.on rfl rfl ?_
                refine RunL.ok (OpOk.fieldAddr fld113_0 rfl) rfl ?_
                refine RunL.on rfl rfl ?_
                refine RunL.ok (OpOk.fieldAddr fld111_1 rfl) rfl ?_
                refine RunL.on rfl rfl ?_
                refine RunL.ok (OpOk.load rfl rfl rfl (Blk.out Blk.pts.left.left.left.left.left.left.left _ _ (by first | rfl | assumption))) rfl ?_
                refine RunL.on rfl rfl ?_
                refine RunL.ok (OpOk.asT (OpOk.eql rfl rfl) (by omega)) rfl ?_
                refine RunL.ok (OpOk.pickT rfl rfl) rfl ?_
                refine RunL.ok (OpOk.move rfl) rfl ?_
                refine RunL.on rfl rfl ?_
                refine RunL.ok (OpOk.fieldAddr fld111_2 rfl) rfl ?_
                refine RunL.on rfl rfl ?_
                refine RunL.ok (OpOk.load rfl rfl rfl (Blk.out Blk.pts _ _ (by first | rfl | assumption))) rfl ?_
                refine RunL.on rfl rfl ?_
                refine RunL.ok (OpOk.fieldAddr fld113_0 rfl) rfl ?_
                refine RunL.on rfl rfl ?_
                refine RunL.ok (OpOk.fieldAddr fld111_2 rfl) rfl ?_
                refine RunL.on rfl rfl ?_
                refine RunL.ok (OpOk.load rfl rfl rfl (Blk.out Blk.pts.left.left.left.left.left.left.left _ _ (by first | rfl | assumption))) rfl ?_
                refine RunL.on rfl rfl ?_
                refine RunL.ok (OpOk.asT (OpOk.eql rfl rfl) (by omega)) rfl ?_
                refine RunL.ok (OpOk.pickT rfl rfl) rfl ?_
                refine RunL.nil ?_
                refine Run.condT rfl ?_
                refine Run.exit rfl ?_
                refine Run.region ?_
                refine RunL.ok (OpOk.move rfl) rfl ?_
                refine RunL.ok (OpOk.addN _ 1 rfl rfl rfl rfl (by omega)) rfl ?_
                refine RunL.ok (OpOk.assign rfl) rfl ?_
                refine RunL.nil ?_
                refine Run.jump ((ih2 (m + 1, _) (by dsimp only; omega) (by dsimp only; omega))) ⟨rfl, rfl, rfl, rfl, rfl, rfl, rfl, rfl, rfl, trivial⟩ (Grew.of (Eq.trans (frc (frl rfl) (frc (frl rfl) (frc (frl rfl) (frc (frl rfl) (frc (frl rfl) (frc (frl rfl) (frc (frl rfl) rfl))))))) (congrArg (· * _) (congrArg (· * _) (congrArg (· * _) (congrArg (· * _) (congrArg (· * _) (congrArg (· * _) (congrArg (· * _) (asg as1))))))))) (Grew.refl _))
              · have hkm := hkp.1 _ hmem (fun h => h2 h.2)
                obtain ⟨j, hat, hjl, hoe4⟩ := mem_at hval2 hkm.1
                dsimp only at hat
                have rw_at := hat
                have hbe : secOf zs (3 + 2 * se).toNat ++ secOf zs (3 + 2 * se + 1).toNat = L.getD m default := by rw [hLg]; exact hkm.2
                refine Run.seq ?_
                refine Run.seq ?_
                refine Run.region ?_
                refine RunL.ok (OpOk.move rfl) rfl ?_
                refine RunL.ok (OpOk.fieldAddr fld86_4 rfl) rfl ?_
                refine RunL.ok (OpOk.load rfl rfl rfl (Blk.out Blk.pts.left.left.left _ _ (by first | rfl | assumption))) rfl ?_
                refine RunL.ok (OpOk.lenV rfl rfl rfl) rfl ?_
                refine RunL.ok (OpOk.asT (OpOk.lss rfl rfl) (by omega)) rfl ?_
                refine RunL.nil ?_
                refine Run.condT rfl ?_
                refine Run.skip ?_
                refine Run.seq ?_
                refine Run.block ?_
                refine Run.seq ?_
                refine Run.region ?_
                refine RunL.ok (OpOk.fieldAddr fld86_4 rfl) rfl ?_
                refine RunL.ok (OpOk.load rfl rfl rfl (Blk.out Blk.pts.left.left.left _ _ (by first | rfl | assumption))) rfl ?_
                refine RunL.ok (OpOk.move rfl) rfl ?_
                refine RunL.ok (OpOk.idxN rfl ti111 rfl (Rd.right rdr1).left.left.left.left.left rfl (by omega)) rfl ?_
                refine RunL.ok (OpOk.loadFlE (by assumption) rfl rfl ti111 rfl (Rd.right rdr1).left.left.left.left.left (fun _ => rfl) rfl (by omega)) rfl ?_
                refine RunL.alloc ti111 rfl (fun bp1 => ?_)
                refine RunL.storeAll ti111 rfl rfl rfl (fun w hw => OneC.one (enc := encT111) ((ke, oe, ie, se)) w hw) rfl rfl ?_
                refine RunL.nil ?_
                refine Run.seq ?_
                refine Run.seq ?_
                refine Run.region ?_
                refine RunL.ok (OpOk.move rfl) rfl ?_
                refine RunL.ok (OpOk.asT (OpOk.eql rfl rfl) (by omega)) rfl ?_
                refine RunL.ok (OpOk.move rfl) rfl ?_
                refine RunL.on rfl rfl ?_
                refine RunL.ok (OpOk.fieldAddr fld111_1 rfl) rfl ?_
                refine RunL.on rfl rfl ?_
                refine RunL.ok (OpOk.load rfl rfl rfl (Blk.out Blk.pts _ _ (by first | rfl | assumption))) rfl ?_
                refine RunL.on rfl rfl ?_
                refine RunL.ok (OpOk.fieldAddr fld113_0 rfl) rfl ?_
                refine RunL.on rfl rfl ?_
                refine RunL.ok (OpOk.fieldAddr fld111_1 rfl) rfl ?_
                refine RunL.on rfl rfl ?_
                refine RunL.ok (OpOk.load rfl rfl rfl (Blk.out Blk.pts.left.left.left.left.left.left.left _ _ (by first | rfl | assumption))) rfl ?_
                refine RunL.on rfl rfl ?_
                refine RunL.ok (OpOk.asT (OpOk.eql rfl rfl) (by omega)) rfl ?_
                refine RunL.ok (OpOk.pickT rfl rfl) rfl ?_
                refine RunL.ok (OpOk.move rfl) rfl ?_
                refine RunL.on rfl rfl ?_
                refine RunL.ok (OpOk.fieldAddr fld111_2 rfl) rfl ?_
                refine RunL.on rfl rfl ?_
                refine RunL.ok (OpOk.load rfl rfl rfl (Blk.out Blk.pts _ _ (by first | rfl | assumption))) rfl ?_
                refine RunL.on rfl rfl ?_
                refine RunL.ok (OpOk.fieldAddr fld113_0 rfl) rfl ?_
                refine RunL.on rfl rfl ?_
                refine RunL.ok (OpOk.fieldAddr fld111_2 rfl) rfl ?_
                refine RunL.on rfl rfl ?_
                refine RunL.ok (OpOk.load rfl rfl rfl (Blk.out Blk.pts.left.left.left.left.left.left.left _ _ (by first | rfl | assumption))) rfl ?_
                refine RunL.on rfl rfl ?_
                refine RunL.ok (OpOk.asF (OpOk.eql rfl rfl) (by omega)) rfl ?_
                refine RunL.ok (OpOk.pickT rfl rfl) rfl ?_
                refine RunL.nil ?_
                refine Run.condF rfl ?_
                refine Run.skip ?_
                refine Run.seq ?_
                refine Run.region ?_
                refine RunL.ok (OpOk.loadS rfl rfl ti86 rfl Blk.pts.left rfl) rfl ?_
                refine RunL.ok (OpOk.fieldAddr fld111_1 rfl) rfl ?_
                refine RunL.ok (OpOk.load rfl rfl rfl (Blk.out Blk.pts _ _ (by first | rfl | assumption))) rfl ?_
                refine RunL.ok (OpOk.fieldAddr fld111_2 rfl) rfl ?_
                refine RunL.ok (OpOk.load rfl rfl rfl (Blk.out Blk.pts _ _ (by first | rfl | assumption))) rfl ?_
                refine RunL.know (fun w s => (s.conv (frl (frl rfl))).ownRd0) (fun rdp2 => ?_)
                refine RunL.call cal45 rfl (s45 (Rd.right rdp2).left.left) rfl (fun vp3 Ap3 hp3 => ?_)
                obtain ⟨p4, ⟨rfl, rfl⟩⟩ := hp3
                refine RunL.ok (OpOk.assign rfl) rfl ?_
                refine RunL.nil ?_
                refine Run.seq ?_
                refine Run.seq ?_
                rw [rw_at]
                (apply Run.drawD [] (by rfl) (sep_emp _).symm; case hchk => kernel_rfl)
                refine Sd.quiet 0 _ _ rfl rfl rfl rfl rfl (QOp.ok (fun X => OpOk.move rfl)) ?_
                refine Sd.quiet 1 _ _ rfl rfl rfl rfl rfl (QOp.ok (fun X => OpOk.asF (OpOk.lss rfl rfl) (by omega))) ?_
                refine Sd.quiet 2 _ _ rfl rfl rfl rfl rfl (QOp.ok (fun X => OpOk.move rfl)) ?_
                refine Sd.quiet 3 _ _ rfl rfl rfl rfl rfl (QOp.ok (fun X => OpOk.fieldAddr fld86_4 rfl)) ?_
                refine Sd.quiet 4 _ _ rfl rfl rfl rfl rfl (QOp.ok (fun X => OpOk.load rfl rfl rfl (Blk.out Blk.pts.left.left.left.left _ _ (by first | rfl | assumption)))) ?_
                refine Sd.quiet 5 _ _ rfl rfl rfl rfl rfl (QOp.ok (fun X => OpOk.move rfl)) ?_
                refine Sd.quiet 6 _ _ rfl rfl rfl rfl rfl (QOp.ok (fun X => OpOk.idxN rfl ti111 rfl (Rd.right rdp2).left.left.left.left.left rfl (by omega))) ?_
                refine Sd.quiet 7 _ _ rfl rfl rfl rfl rfl (QOp.ok (fun X => OpOk.loadFlE (by assumption) rfl rfl ti111 rfl (Rd.right rdp2).left.left.left.left.left (fun _ => rfl) rfl (by omega))) ?_
                refine Sd.quiet 8 _ _ rfl rfl rfl rfl rfl (QOp.ok (fun X => OpOk.loadS rfl rfl ti111 rfl Blk.pts.left.left.left rfl)) ?_
                refine Sd.quiet 9 _ _ rfl rfl rfl rfl rfl (QOp.ok (fun X => OpOk.neqK4 (p := (ke, oe, ie, se)) (q := (ke, oe, ie, se)) four111 rfl rfl)) ?_
                refine Sd.quiet 10 _ _ rfl rfl rfl rfl rfl (QOp.ok (fun X => OpOk.pickF rfl rfl)) ?_
                (apply Sd.tail; case hall => kernel_rfl)
                refine RunL.mem (fl2 (sep_emp _) (sep_emp _)) ?_
                refine RunL.nil ?_
                refine Run.condNF rfl (by first | omega | with_reducible rfl | assumption) ?_
                refine Run.skip ?_
                refine Run.seq ?_
                refine Run.region ?_
                refine RunL.ok (OpOk.move rfl) rfl ?_
                refine RunL.ok (OpOk.fieldAddr fld111_3 rfl) rfl ?_
                refine RunL.ok (OpOk.load rfl rfl rfl (Blk.out Blk.pts.left _ _ (by first | rfl | assumption))) rfl ?_
                refine RunL.mem (frc (frl (frl (frl (frl (frl (frl rfl)))))) rfl) ?_
                refine RunL.call cal42 rfl (s42b (by assumption) (by assumption) (by assumption)) rfl (fun vp6 Ap6 hp6 => ?_)
                obtain ⟨p7, ⟨p8, ⟨rfl, rfl⟩⟩⟩ := hp6
                refine RunL.ok (OpOk.move rfl) rfl ?_
                refine RunL.ok (OpOk.ext20 rfl) rfl ?_
                refine RunL.ok (OpOk.ext21 rfl) rfl ?_
                refine RunL.ok (OpOk.assign rfl) rfl ?_
                refine RunL.ok (OpOk.assign rfl) rfl ?_
                refine RunL.nil ?_
                refine Run.seq ?_
                refine Run.know (fun w s => (s.conv (frl rfl)).ownRd0) (fun rdp9 => ?_)
                (apply Run.drawD [] (by rfl) (sep_emp _).symm; case hchk => kernel_rfl)
                refine Sd.quiet 0 _ _ rfl rfl rfl rfl rfl (QOp.ok (fun X => OpOk.move rfl)) ?_
                refine Sd.quiet 1 _ _ rfl rfl rfl rfl rfl (QOp.ok (fun X => OpOk.strOf rfl rfl rfl rfl (Rd.right rdp9).left.left.left)) ?_
                refine Sd.quiet 2 _ _ rfl rfl rfl rfl rfl (QOp.ok (fun X => OpOk.move rfl)) ?_
                refine Sd.quiet 3 _ _ rfl rfl rfl rfl rfl (QOp.ok (fun X => OpOk.move rfl)) ?_
                refine Sd.quiet 4 _ _ rfl rfl rfl rfl rfl (QOp.ok (fun X => OpOk.idx1N rfl ti9 rfl (Rd.right rdr2).left.left.left.left.left.left.left.left.left rfl (by omega))) ?_
                refine Sd.quiet 5 _ _ rfl rfl rfl rfl rfl (QOp.ok (fun X => OpOk.loadStr rfl rfl rfl (Rd.right rdr2).left.left.left.left.left.left.left.left.left (by omega))) ?_
                refine Sd.quiet 6 _ _ rfl rfl rfl rfl rfl (QOp.ok (fun X => OpOk.as (c := false) (OpOk.neqSS rfl rfl) (by rw [decide_eq_true (by omega)]; rfl))) ?_
                (apply Sd.tail; case hall => kernel_rfl)
                refine RunL.mem (fl2 (sep_emp _) (sep_emp _)) ?_
                refine RunL.nil ?_
                refine Run.condF rfl ?_
                refine Run.skip ?_
                refine Run.inBlock ?_
                refine Run.region ?_
                refine RunL.ok (OpOk.move rfl) rfl ?_
                refine RunL.ok (OpOk.addN _ 1 rfl rfl rfl rfl (by omega)) rfl ?_
                refine RunL.ok (OpOk.assign rfl) rfl ?_
                refine RunL.nil ?_
                refine Run.jump ((ih2 (m + 1, _) (by dsimp only; omega) (by dsimp only; omega))) ⟨rfl, rfl, rfl, rfl, rfl, rfl, rfl, rfl, rfl, trivial⟩ (Grew.of (Eq.trans (frc (frl (frl (frl (frl (frl rfl))))) (frc (frl (frl (frl (frl (frl rfl))))) (frc (frl (frl (frl (frl (frl rfl))))) (frc (frl (frl (frl (frl (frl rfl))))) (frc rfl (frc (frl (frl (frl (frl rfl)))) (frc (frl (frl (frl (frl rfl)))) rfl))))))) (congrArg (· * _) (congrArg (· * _) (congrArg (· * _) (congrArg (· * _) (congrArg (· * _) (congrArg (· * _) (congrArg (· * _) (asg (asg (asg (asg as1)))))))))))) (Grew.refl _))
            · have hkm := hkp.1 _ hmem (fun h => h1 h.1)
              obtain ⟨j, hat, hjl, hoe4⟩ := mem_at hval2 hkm.1
              dsimp only at hat
              have rw_at := hat
              have hbe : secOf zs (3 + 2 * se).toNat ++ secOf zs (3 + 2 * se + 1).toNat = L.getD m default := by rw [hLg]; exact hkm.2
              refine Run.seq ?_
              refine Run.seq ?_
              refine Run.region ?_
              refine RunL.ok (OpOk.move rfl) rfl ?_
              refine RunL.ok (OpOk.fieldAddr fld86_4 rfl) rfl ?_
              refine RunL.ok (OpOk.load rfl rfl rfl (Blk.out Blk.pts.left.left.left _ _ (by first | rfl | assumption))) rfl ?_
              refine RunL.ok (OpOk.lenV rfl rfl rfl) rfl ?_
              refine RunL.ok (OpOk.asT (OpOk.lss rfl rfl) (by omega)) rfl ?_
              refine RunL.nil ?_
              refine Run.condT rfl ?_
              refine Run.skip ?_
              refine Run.seq ?_
              refine Run.block ?_
              refine Run.seq ?_
              refine Run.region ?_
              refine RunL.ok (OpOk.fieldAddr fld86_4 rfl) rfl ?_
              refine RunL.ok (OpOk.load rfl rfl rfl (Blk.out Blk.pts.left.left.left _ _ (by first | rfl | assumption))) rfl ?_
              refine RunL.ok (OpOk.move rfl) rfl ?_
              refine RunL.ok (OpOk.idxN rfl ti111 rfl (Rd.right rdr1).left.left.left.left.left rfl (by omega)) rfl ?_
              refine RunL.ok (OpOk.loadFlE (by assumption) rfl rfl ti111 rfl (Rd.right rdr1).left.left.left.left.left (fun _ => rfl) rfl (by omega)) rfl ?_
              refine RunL.alloc ti111 rfl (fun bp1 => ?_)
              refine RunL.storeAll ti111 rfl rfl rfl (fun w hw => OneC.one (enc := encT111) ((ke, oe, ie, se)) w hw) rfl rfl ?_
              refine RunL.nil ?_
              refine Run.seq ?_
              refine Run.seq ?_
              refine Run.region ?_
              refine RunL.ok (OpOk.move rfl) rfl ?_
              refine RunL.ok (OpOk.asT (OpOk.eql rfl rfl) (by omega)) rfl ?_
              refine RunL.ok (OpOk.move rfl) rfl ?_
              refine RunL.on rfl rfl ?_
              refine RunL.ok (OpOk.fieldAddr fld111_1 rfl) rfl ?_
              refine RunL.on rfl rfl ?_
              refine RunL.ok (OpOk.load rfl rfl rfl (Blk.out Blk.pts _ _ (by first | rfl | assumption))) rfl ?_
              refine RunL.on rfl rfl ?_
              refine RunL.ok (OpOk.fieldAddr fld113_0 rfl) rfl ?_
              refine RunL.on rfl rfl ?_
              refine RunL.ok (OpOk.fieldAddr fld111_1 rfl) rfl ?_
              refine RunL.on rfl rfl ?_
              refine RunL.ok (OpOk.load rfl rfl rfl (Blk.out Blk.pts.left.left.left.left.left.left.left _ _ (by first | rfl | assumption))) rfl ?_
              refine RunL.on rfl rfl ?_
              refine RunL.ok (OpOk.asF (OpOk.eql rfl rfl) (by omega)) rfl ?_
              refine RunL.ok (OpOk.pickT rfl rfl) rfl ?_
              refine RunL.ok (OpOk.move rfl) rfl ?_
              refine RunL.off rfl rfl rfl rfl ?_
              refine RunL.off rfl rfl rfl rfl ?_
              refine RunL.off rfl rfl rfl rfl ?_
              refine RunL.off rfl rfl rfl rfl ?_
              refine RunL.off rfl rfl rfl rfl ?_
              refine RunL.off rfl rfl rfl rfl ?_
              refine RunL.ok (OpOk.pickF rfl rfl) rfl ?_
              refine RunL.nil ?_
              refine Run.condF rfl ?_
              refine Run.skip ?_
              refine Run.seq ?_
              refine Run.region ?_
              refine RunL.ok (OpOk.loadS rfl rfl ti86 rfl Blk.pts.left rfl) rfl ?_
              refine RunL.ok (OpOk.fieldAddr fld111_1 rfl) rfl ?_
              refine RunL.ok (OpOk.load rfl rfl rfl (Blk.out Blk.pts _ _ (by first | rfl | assumption))) rfl ?_
              refine RunL.ok (OpOk.fieldAddr fld111_2 rfl) rfl ?_
              refine RunL.ok (OpOk.load rfl rfl rfl (Blk.out Blk.pts _ _ (by first | rfl | assumption))) rfl ?_
              refine RunL.know (fun w s => (s.conv (frl (frl rfl))).ownRd0) (fun rdp2 => ?_)
              refine RunL.call cal45 rfl (s45 (Rd.right rdp2).left.left) rfl (fun vp3 Ap3 hp3 => ?_)
              obtain ⟨p4, ⟨rfl, rfl⟩⟩ := hp3
              refine RunL.ok (OpOk.assign rfl) rfl ?_
              refine RunL.nil ?_
              refine Run.seq ?_
              refine Run.seq ?_
              rw [rw_at]
              (apply Run.drawD [] (by rfl) (sep_emp _).symm; case hchk => kernel_rfl)
              refine Sd.quiet 0 _ _ rfl rfl rfl rfl rfl (QOp.ok (fun X => OpOk.move rfl)) ?_
              refine Sd.quiet 1 _ _ rfl rfl rfl rfl rfl (QOp.ok (fun X => OpOk.asF (OpOk.lss rfl rfl) (by omega))) ?_
              refine Sd.quiet 2 _ _ rfl rfl rfl rfl rfl (QOp.ok (fun X => OpOk.move rfl)) ?_
              refine Sd.quiet 3 _ _ rfl rfl rfl rfl rfl (QOp.ok (fun X => OpOk.fieldAddr fld86_4 rfl)) ?_
              refine Sd.quiet 4 _ _ rfl rfl rfl rfl rfl (QOp.ok (fun X => OpOk.load rfl rfl rfl (Blk.out Blk.pts.left.left.left.left _ _ (by first | rfl | assumption)))) ?_
              refine Sd.quiet 5 _ _ rfl rfl rfl rfl rfl (QOp.ok (fun X => OpOk.move rfl)) ?_
              refine Sd.quiet 6 _ _ rfl rfl rfl rfl rfl (QOp.ok (fun X => OpOk.idxN rfl ti111 rfl (Rd.right rdp2).left.left.left.left.left rfl (by omega))) ?_
              refine Sd.quiet 7 _ _ rfl rfl rfl rfl rfl (QOp.ok (fun X => OpOk.loadFlE (by assumption) rfl rfl ti111 rfl (Rd.right rdp2).left.left.left.left.left (fun _ => rfl) rfl (by omega))) ?_
              refine Sd.quiet 8 _ _ rfl rfl rfl rfl rfl (QOp.ok (fun X => OpOk.loadS rfl rfl ti111 rfl Blk.pts.left.left.left rfl)) ?_
              refine Sd.quiet 9 _ _ rfl rfl rfl rfl rfl (QOp.ok (fun X => OpOk.neqK4 (p := (ke, oe, ie, se)) (q := (ke, oe, ie, se)) four111 rfl rfl)) ?_
              refine Sd.quiet 10 _ _ rfl rfl rfl rfl rfl (QOp.ok (fun X => OpOk.pickF rfl rfl)) ?_
              (apply Sd.tail; case hall => kernel_rfl)
              refine RunL.mem (fl2 (sep_emp _) (sep_emp _)) ?_
              refine RunL.nil ?_
              refine Run.condNF rfl (by first | omega | with_reducible rfl | assumption) ?_
              refine Run.skip ?_
              refine Run.seq ?_
              refine Run.region ?_
              refine RunL.ok (OpOk.move rfl) rfl ?_
              refine RunL.ok (OpOk.fieldAddr fld111_3 rfl) rfl ?_
              refine RunL.ok (OpOk.load rfl rfl rfl (Blk.out Blk.pts.left _ _ (by first | rfl | assumption))) rfl ?_
              refine RunL.mem (frc (frl (frl (frl (frl (frl (frl rfl)))))) rfl) ?_
              refine RunL.call cal42 rfl (s42b (by assumption) (by assumption) (by assumption)) rfl (fun vp6 Ap6 hp6 => ?_)
              obtain ⟨p7, ⟨p8, ⟨rfl, rfl⟩⟩⟩ := hp6
              refine RunL.ok (OpOk.move rfl) rfl ?_
              refine RunL.ok (OpOk.ext20 rfl) rfl ?_
              refine RunL.ok (OpOk.ext21 rfl) rfl ?_
              refine RunL.ok (OpOk.assign rfl) rfl ?_
              refine RunL.ok (OpOk.assign rfl) rfl ?_
              refine RunL.nil ?_
              refine Run.seq ?_
              refine Run.know (fun w s => (s.conv (frl rfl)).ownRd0) (fun rdp9 => ?_)
              (apply Run.drawD [] (by rfl) (sep_emp _).symm; case hchk => kernel_rfl)
              refine Sd.quiet 0 _ _ rfl rfl rfl rfl rfl (QOp.ok (fun X => OpOk.move rfl)) ?_
              refine Sd.quiet 1 _ _ rfl rfl rfl rfl rfl (QOp.ok (fun X => OpOk.strOf rfl rfl rfl rfl (Rd.right rdp9).left.left.left)) ?_
              refine Sd.quiet 2 _ _ rfl rfl rfl rfl rfl (QOp.ok (fun X => OpOk.move rfl)) ?_
              refine Sd.quiet 3 _ _ rfl rfl rfl rfl rfl (QOp.ok (fun X => OpOk.move rfl)) ?_
              refine Sd.quiet 4 _ _ rfl rfl rfl rfl rfl (QOp.ok (fun X => OpOk.idx1N rfl ti9 rfl (Rd.right rdr2).left.left.left.left.left.left.left.left.left rfl (by omega))) ?_
              refine Sd.quiet 5 _ _ rfl rfl rfl rfl rfl (QOp.ok (fun X => OpOk.loadStr rfl rfl rfl (Rd.right rdr2).left.left.left.left.left.left.left.left.left (by omega))) ?_
              refine Sd.quiet 6 _ _ rfl rfl rfl rfl rfl (QOp.ok (fun X => OpOk.as (c := false) (OpOk.neqSS rfl rfl) (by rw [decide_eq_true (by omega)]; rfl))) ?_
              (apply Sd.tail; case hall => kernel_rfl)
              refine RunL.mem (fl2 (sep_emp _) (sep_emp _)) ?_
              refine RunL.nil ?_
              refine Run.condF rfl ?_
              refine Run.skip ?_
              refine Run.inBlock ?_
              refine Run.region ?_
              refine RunL.ok (OpOk.move rfl) rfl ?_
              refine RunL.ok (OpOk.addN _ 1 rfl rfl rfl rfl (by omega)) rfl ?_
              refine RunL.ok (OpOk.assign rfl) rfl ?_
              refine RunL.nil ?_
              refine Run.jump ((ih2 (m + 1, _) (by dsimp only; omega) (by dsimp only; omega))) ⟨rfl, rfl, rfl, rfl, rfl, rfl, rfl, rfl, rfl, trivial⟩ (Grew.of (Eq.trans (frc (frl (frl (frl (frl (frl rfl))))) (frc (frl (frl (frl (frl (frl rfl))))) (frc (frl (frl (frl (frl (frl rfl))))) (frc (frl (frl (frl (frl (frl rfl))))) (frc rfl (frc (frl (frl (frl (frl rfl)))) (frc (frl (frl (frl (frl rfl)))) rfl))))))) (congrArg (· * _) (congrArg (· * _) (congrArg (· * _) (congrArg (· * _) (congrArg (· * _) (congrArg (· * _) (congrArg (· * _) (asg (asg (asg (asg as1)))))))))))) (Grew.refl _))
          · obtain rfl : m = es.length := by omega
            clear ih2
            obtain ⟨_, fs, hmem, hfs0, hfs6, hb64, hbody⟩ := hkp
            obtain ⟨j, hat, hjl, hoe4⟩ := mem_at hval2 hmem
            dsimp only at hat
            have rw_at := hat
            have hlaid := laid_full hb64
            refine Run.seq ?_
            refine Run.seq ?_
            refine Run.region ?_
            refine RunL.ok (OpOk.move rfl) rfl ?_
            refine RunL.ok (OpOk.fieldAddr fld86_4 rfl) rfl ?_
            refine RunL.ok (OpOk.load rfl rfl rfl (Blk.out Blk.pts.left.left.left _ _ (by first | rfl | assumption))) rfl ?_
            refine RunL.ok (OpOk.lenV rfl rfl rfl) rfl ?_
            refine RunL.ok (OpOk.asF (OpOk.lss rfl rfl) (by omega)) rfl ?_
            refine RunL.nil ?_
            refine Run.condF rfl ?_
            refine Run.exit rfl ?_
            refine Run.seq ?_
            refine Run.region ?_
            refine RunL.ok (OpOk.loadS rfl rfl ti86 rfl Blk.pts rfl) rfl ?_
            refine RunL.ok (OpOk.fieldAddr fld113_0 rfl) rfl ?_
            refine RunL.ok (OpOk.fieldAddr fld111_1 rfl) rfl ?_
            refine RunL.ok (OpOk.load rfl rfl rfl (Blk.out Blk.pts.left.left.left.left.left.left _ _ (by first | rfl | assumption))) rfl ?_
            refine RunL.ok (OpOk.fieldAddr fld113_0 rfl) rfl ?_
            refine RunL.ok (OpOk.fieldAddr fld111_2 rfl) rfl ?_
            refine RunL.ok (OpOk.load rfl rfl rfl (Blk.out Blk.pts.left.left.left.left.left.left _ _ (by first | rfl | assumption))) rfl ?_
            refine RunL.know (fun w s => (s.conv (frl rfl)).ownRd0) (fun rdp1 => ?_)
            refine RunL.call cal45 rfl (s45 (Rd.right rdp1).left) rfl (fun vp2 Ap2 hp2 => ?_)
            obtain ⟨p3, ⟨rfl, rfl⟩⟩ := hp2
            refine RunL.ok (OpOk.assign rfl) rfl ?_
            refine RunL.nil ?_
            refine Run.seq ?_
            refine Run.seq ?_
            rw [rw_at]
            refine Run.region ?_
            refine RunL.ok (OpOk.move rfl) rfl ?_
            refine RunL.ok (OpOk.as (c := false) (OpOk.neq rfl rfl) (by rw [decide_eq_true (by omega)]; rfl)) rfl ?_
            refine RunL.nil ?_
            refine Run.condF rfl ?_
            refine Run.skip ?_
            refine Run.seq ?_
            refine Run.seq ?_
            refine Run.region ?_
            refine RunL.ok (OpOk.fieldAddr fld113_2 rfl) rfl ?_
            refine RunL.ok (OpOk.load rfl rfl rfl (Blk.out Blk.pts.left.left.left.left.left.left.left _ _ (by first | rfl | assumption))) rfl ?_
            refine RunL.nil ?_
            refine Run.condF rfl ?_
            refine Run.skip ?_
            refine Run.seq ?_
            refine Run.seq ?_
            (apply Run.drawD [] (by rfl) (sep_emp _).symm; case hchk => kernel_rfl)
            refine Sd.quiet 0 _ _ rfl rfl rfl rfl rfl (QOp.ok (fun X => OpOk.move rfl)) ?_
            refine Sd.quiet 1 _ _ rfl rfl rfl rfl rfl (QOp.ok (fun X => OpOk.asF (OpOk.lss rfl rfl) (by omega))) ?_
            refine Sd.quiet 2 _ _ rfl rfl rfl rfl rfl (QOp.ok (fun X => OpOk.move rfl)) ?_
            refine Sd.quiet 3 _ _ rfl rfl rfl rfl rfl (QOp.ok (fun X => OpOk.fieldAddr fld86_4 rfl)) ?_
            refine Sd.quiet 4 _ _ rfl rfl rfl rfl rfl (QOp.ok (fun X => OpOk.load rfl rfl rfl (Blk.out Blk.pts.left.left.left _ _ (by first | rfl | assumption)))) ?_
            refine Sd.quiet 5 _ _ rfl rfl rfl rfl rfl (QOp.ok (fun X => OpOk.move rfl)) ?_
            refine Sd.quiet 6 _ _ rfl rfl rfl rfl rfl (QOp.ok (fun X => OpOk.idxN rfl ti111 rfl (Rd.right rdp1).left.left.left.left rfl (by omega))) ?_
            refine Sd.quiet 7 _ _ rfl rfl rfl rfl rfl (QOp.ok (fun X => OpOk.fieldAddrA fld111_0 rfl)) ?_
            refine Sd.quiet 8 _ _ rfl rfl rfl rfl rfl (QOp.ok (fun X => OpOk.loadFl1E hoe4 rfl rfl rfl (Rd.right rdp1).left.left.left.left (fun _ => rfl) rfl (by omega) rfl)) ?_
            refine Sd.quiet 9 _ _ rfl rfl rfl rfl rfl (QOp.ok (fun X => OpOk.fieldAddr fld113_0 rfl)) ?_
            refine Sd.quiet 10 _ _ rfl rfl rfl rfl rfl (QOp.ok (fun X => OpOk.fieldAddr fld111_0 rfl)) ?_
            refine Sd.quiet 11 _ _ rfl rfl rfl rfl rfl (QOp.ok (fun X => OpOk.load rfl rfl rfl (Blk.out Blk.pts.left.left.left.left.left.left.left.left.left _ _ (by first | rfl | assumption)))) ?_
            refine Sd.quiet 12 _ _ rfl rfl rfl rfl rfl (QOp.ok (fun X => OpOk.as (c := false) (OpOk.neq rfl rfl) (by rw [decide_eq_true (by omega)]; rfl))) ?_
            refine Sd.quiet 13 _ _ rfl rfl rfl rfl rfl (QOp.ok (fun X => OpOk.pickF rfl rfl)) ?_
            (apply Sd.tail; case hall => kernel_rfl)
            refine RunL.mem (fl2 (sep_emp _) (sep_emp _)) ?_
            refine RunL.nil ?_
            refine Run.condF rfl ?_
            refine Run.skip ?_
            refine Run.seq ?_
            refine Run.region ?_
            refine RunL.ok (OpOk.move rfl) rfl ?_
            refine RunL.ok (OpOk.fieldAddr fld86_4 rfl) rfl ?_
            refine RunL.ok (OpOk.load rfl rfl rfl (Blk.out Blk.pts.left _ _ (by first | rfl | assumption))) rfl ?_
            refine RunL.ok (OpOk.move rfl) rfl ?_
            refine RunL.ok (OpOk.idxN rfl ti111 rfl (Rd.right rdp1).left.left rfl (by omega)) rfl ?_
            refine RunL.ok (OpOk.fieldAddrA fld111_3 rfl) rfl ?_
            refine RunL.ok (OpOk.loadFl1E hoe4 rfl rfl rfl (Rd.right rdp1).left.left (fun _ => rfl) rfl (by omega) rfl) rfl ?_
            refine RunL.mem (frc (frl (frl (frl (frl (frl rfl))))) rfl) ?_
            refine RunL.call cal42 rfl (s42b (by assumption) (by assumption) (by assumption)) rfl (fun vp5 Ap5 hp5 => ?_)
            obtain ⟨p6, ⟨p7, ⟨rfl, rfl⟩⟩⟩ := hp5
            refine RunL.ok (OpOk.move rfl) rfl ?_
            refine RunL.ok (OpOk.ext20 rfl) rfl ?_
            refine RunL.ok (OpOk.ext21 rfl) rfl ?_
            refine RunL.ok (OpOk.assign rfl) rfl ?_
            refine RunL.ok (OpOk.assign rfl) rfl ?_
            refine RunL.nil ?_
            refine Run.seq ?_
            refine Run.region ?_
            refine RunL.makeB (m := 64) rfl ti5 rfl rfl (by omega) rfl (fun vp8 rdp8 => ?_)
            refine RunL.ok (OpOk.assign rfl) rfl ?_
            refine RunL.nil ?_
            refine Run.seq ?_
            refine Run.region ?_
            refine RunL.ok (OpOk.move rfl) rfl ?_
            refine RunL.ok (OpOk.fieldAddr fld113_1 rfl) rfl ?_
            refine RunL.ok (OpOk.load rfl rfl rfl (Blk.out Blk.pts.left.left.left.left.left.left.left.left.left.left _ _ (by first | rfl | assumption))) rfl ?_
            refine RunL.copyB rfl ti5 rfl rfl rfl rfl rdb0.left.left.left.left.left.left.left.left.left.left.left.left.left.left.left rfl (fun rdp9 => ?_)
            refine RunL.nil ?_
            refine Run.seq ?_
            refine Run.region ?_
            refine RunL.ok (OpOk.move rfl) rfl ?_
            refine RunL.know (fun w s => (s.conv (frl (frl rfl))).ownRd0) (fun rdp10 => ?_)
            refine RunL.ok (OpOk.strOf rfl rfl rfl rfl (Rd.right rdp10).left.left) rfl ?_
            refine RunL.ok (OpOk.move rfl) rfl ?_
            refine RunL.know (fun w s => (s.conv rfl).ownRd0) (fun rdp11 => ?_)
            refine RunL.ok (OpOk.strOf rfl rfl rfl rfl (Rd.right rdp11)) rfl ?_
            refine RunL.ok (OpOk.neqSS rfl rfl) rfl ?_
            refine RunL.nil ?_
            refine Run.condN rfl (fun p12 => ?_) (fun p12 => ?_)
            · refine Run.seq ?_
              refine Run.region ?_
              refine RunL.ok (OpOk.assign rfl) rfl ?_
              refine RunL.nil ?_
              refine Run.ret1 Try.func12 rfl rfl ?_
              exact absurd (by rw [hlaid]; exact hbody) p12
            refine Run.skip ?_
            refine Run.inBlock ?_
            refine Run.region ?_
            refine RunL.ok (OpOk.move rfl) rfl ?_
            refine RunL.ok (OpOk.addN _ 1 rfl rfl rfl rfl (by omega)) rfl ?_
            refine RunL.ok (OpOk.assign rfl) rfl ?_
            refine RunL.nil ?_
            refine Run.jump ((ih (i + 1, _, zs, q + 1, 3 - t, es2) ⟨by dsimp only; omega, by dsimp only; omega, hSz⟩ (by dsimp only; omega))) ⟨rfl, rfl, rfl, trivial⟩ (Grew.of (Eq.trans (frc (frl rfl) rfl) (congrArg (· * _) (asg (asg (asg (asg (asg (asg (asg (asg (asg (asg (asg (asg (asg as1))))))))))))))) (Grew.refl _))
        · have hR0 : (storesP q t es k o i2 bs).1 = [] := hC.bad (by rw [hff]; exact hf0)
          have hE : errN (storesP q t es k o i2 bs) (-1) = ff := by rw [errN, hkk, if_neg (by omega), hff]
          have hO : OutIs xs (storesP q t es k o i2 bs) (-1) a b q t xs ff 0 0 0 0 [] := ⟨hE, by rw [vwN, hE, if_neg hf0], by rw [hR0, List.take_nil]; rfl⟩
          have hxl := hSx.len
          refine Run.seq ?_
          refine Run.seq ?_
          refine Run.region ?_
          refine RunL.ok (OpOk.move rfl) rfl ?_
          refine RunL.ok (OpOk.fieldAddr fld86_4 rfl) rfl ?_
          refine RunL.ok (OpOk.load rfl rfl rfl (Blk.out Blk.pts.left _ _ (by first | rfl | assumption))) rfl ?_
          refine RunL.ok (OpOk.lenV rfl rfl rfl) rfl ?_
          refine RunL.ok (OpOk.asF (OpOk.lss rfl rfl) (by omega)) rfl ?_
          refine RunL.nil ?_
          refine Run.condF rfl ?_
          refine Run.exit rfl ?_
          refine Run.seq ?_
          refine Run.region ?_
          refine RunL.ok (OpOk.assign rfl) rfl ?_
          refine RunL.nil ?_
          refine Run.seq ?_
          refine Run.seq ?_
          refine Run.region ?_
          refine RunL.ok (OpOk.fieldAddr fld113_2 rfl) rfl ?_
          refine RunL.ok (OpOk.load rfl rfl rfl (Blk.out Blk.pts.left.left.left.left _ _ (by first | rfl | assumption))) rfl ?_
          refine RunL.nil ?_
          refine Run.condF rfl ?_
          refine Run.know (fun w s => (s.conv (frl (frl (frl rfl)))).ownRd0) (fun rdr1 => ?_)
          refine Run.know (fun w s => (s.conv rfl).ownRd0) (fun rdr2 => ?_)
          refine Run.drop [14] ?_
          (apply Run.drawD [] (by rfl) (Eq.trans (frc (frl (frl rfl)) rfl) rfl); case hchk => kernel_rfl)
          refine Sd.quiet 0 _ _ rfl rfl rfl rfl rfl (QOp.ok (fun X => OpOk.move rfl)) ?_
          refine Sd.quiet 1 _ _ rfl rfl rfl rfl rfl (QOp.ok (fun X => OpOk.loadS rfl rfl ti86 rfl Blk.pts.left.left.left rfl)) ?_
          refine Sd.quiet 2 _ _ rfl rfl rfl rfl rfl (QOp.ok (fun X => OpOk.fieldAddr fld113_0 rfl)) ?_
          refine Sd.quiet 3 _ _ rfl rfl rfl rfl rfl (QOp.ok (fun X => OpOk.loadSub rfl rfl ti111 rfl Blk.pts.left.left.left.left.left rfl rfl)) ?_
          refine Sd.quiet 5 _ _ rfl rfl rfl rfl rfl (QOp.ok (fun X => OpOk.fieldAddr fld113_1 rfl)) ?_
          refine Sd.quiet 6 _ _ rfl rfl rfl rfl rfl (QOp.ok (fun X => OpOk.load rfl rfl rfl (Blk.out Blk.pts.left.left.left.left.left _ _ (by first | rfl | assumption)))) ?_
          (refine Sd.exec 4 rfl rfl rfl rfl rfl ?hrest (by rfl) (fun Xr3 Kr3 hKr3 => ?_); case hrest => kernel_rfl)
          refine RunL.mem (fl2 (sep_emp _) rfl) ?_
          refine RunL.lit0B rfl ti5 rfl (fun vr4 rdr4 => ?_)
          refine RunL.know (fun w s => (s.conv rfl).ownRd0) (fun rdr5 => ?_)
          refine Sd.ret hKr3 (Eq.trans (frc (frl rfl) rfl) (gp2 (asg rfl) (sep_emp _).symm)) ⟨emp, (sep_emp _).symm⟩ ?_
          (refine Sd.exec 7 rfl rfl rfl rfl rfl ?hrest (by rfl) (fun Xr6 Kr6 hKr6 => ?_); case hrest => kernel_rfl)
          refine RunL.mem (fl2 (sep_emp _) (flS rfl)) ?_
          refine RunL.appendB0 rfl ti5 rfl rfl rfl (frl rfl) rdb0.left.left.left.left.left.left.left.left.left.left (by omega) rfl (fun vr7 rdr7 => ?_)
          refine RunL.know (fun w s => (s.conv rfl).ownRd0) (fun rdr8 => ?_)
          refine Sd.ret hKr6 (Eq.trans (frc (frl rfl) rfl) (gp2 rfl rfl)) ⟨_, (emp_sep _).symm⟩ ?_
          (refine Sd.exec 8 rfl rfl rfl rfl rfl ?hrest (by rfl) (fun Xr9 Kr9 hKr9 => ?_); case hrest => kernel_rfl)
          refine RunL.mem (fl2 rfl rfl) ?_
          refine RunL.call cal57 rfl (s57k (Rd.right rdr1).left.left.left.left (Rd.right rdr8) (by assumption) (by omega) (by assumption)) rfl (fun vr10 Ar10 hr10 => ?_)
          obtain ⟨r11, ⟨r12, ⟨r13, ⟨r14, ⟨rfl, ⟨r15, rfl⟩⟩⟩⟩⟩⟩ := hr10
          refine RunL.know (fun w s => (s.conv (frl rfl)).ownRd0) (fun rdr16 => ?_)
          refine Sd.ret hKr9 (Eq.trans rfl (gp2 (sep_emp _).symm (asg (asg (asg rfl))))) ⟨_, (asg (asg rfl))⟩ ?_
          refine Sd.quiet 9 _ _ rfl rfl rfl rfl rfl (QOp.ok (fun X => OpOk.move rfl)) ?_
          refine Sd.quiet 10 _ _ rfl rfl rfl rfl rfl (QOp.ok (fun X => OpOk.ext20 rfl)) ?_
          refine Sd.quiet 11 _ _ rfl rfl rfl rfl rfl (QOp.ok (fun X => OpOk.ext21 rfl)) ?_
          refine Sd.quiet 12 _ _ rfl rfl rfl rfl rfl (QOp.ok (fun X => OpOk.assign rfl)) ?_
          (apply Sd.tail; case hall => kernel_rfl)
          refine RunL.mem (fl2 (flS (flS (flS rfl))) (sep_emp _)) ?_
          refine RunL.nil ?_
          refine Run.seq ?_
          refine Run.region ?_
          refine RunL.ok (OpOk.move rfl) rfl ?_
          refine RunL.call cal39 rfl (s39f (by assumption)) rfl (fun vr21 Ar21 hr21 => ?_)
          obtain ⟨r22, ⟨r23, ⟨r24, ⟨rfl, rfl⟩⟩⟩⟩ := hr21
          refine RunL.ok (OpOk.move rfl) rfl ?_
          refine RunL.ok (OpOk.ext20 rfl) rfl ?_
          refine RunL.ok (OpOk.ext21 rfl) rfl ?_
          refine RunL.alloc ti86 rfl (fun br25 => ?_)
          refine RunL.storeAll ti86 rfl rfl rfl (ones rfl) rfl rfl ?_
          refine RunL.ok (OpOk.assign rfl) rfl ?_
          refine RunL.nil ?_
          refine Run.seq ?_
          refine Run.seq ?_
          rw [rw_a]
          rw [rw_b]
          refine Run.region ?_
          refine RunL.ok (OpOk.move rfl) rfl ?_
          refine RunL.ok (OpOk.as (c := false) (OpOk.neq rfl rfl) (by rw [decide_eq_true (by omega)]; rfl)) rfl ?_
          refine RunL.ok (OpOk.move rfl) rfl ?_
          refine RunL.on rfl rfl ?_
          refine RunL.ok (OpOk.fieldAddr fld86_0 rfl) rfl ?_
          refine RunL.on rfl rfl ?_
          refine RunL.ok (OpOk.load rfl rfl rfl (Blk.out Blk.pts _ _ (by first | rfl | assumption))) rfl ?_
          refine RunL.on rfl rfl ?_
          refine RunL.ok (OpOk.fieldAddr fld86_0 rfl) rfl ?_
          refine RunL.on rfl rfl ?_
          refine RunL.ok (OpOk.load rfl rfl rfl (Blk.out Blk.pts.left.left.left.left.left.left.left.left _ _ (by first | rfl | assumption))) rfl ?_
          refine RunL.on rfl rfl ?_
          refine RunL.ok (OpOk.as (c := false) (OpOk.neq rfl rfl) (by rw [decide_eq_true (by omega)]; rfl)) rfl ?_
          refine RunL.ok (OpOk.pickF rfl rfl) rfl ?_
          refine RunL.ok (OpOk.move rfl) rfl ?_
          refine RunL.on rfl rfl ?_
          refine RunL.ok (OpOk.move rfl) rfl ?_
          refine RunL.on rfl rfl ?_
          refine RunL.ok (OpOk.asF (OpOk.eql rfl rfl) (by omega)) rfl ?_
          refine RunL.on rfl rfl ?_
          refine RunL.ok (OpOk.move rfl) rfl ?_
          refine RunL.off rfl rfl rfl rfl ?_
          refine RunL.off rfl rfl rfl rfl ?_
          refine RunL.off rfl rfl rfl rfl ?_
          refine RunL.off rfl rfl rfl rfl ?_
          refine RunL.off rfl rfl rfl rfl ?_
          refine RunL.off rfl rfl rfl rfl ?_
          refine RunL.on rfl rfl ?_
          refine RunL.ok (OpOk.pickF rfl rfl) rfl ?_
          refine RunL.ok (OpOk.pickF rfl rfl) rfl ?_
          refine RunL.ok (OpOk.move rfl) rfl ?_
          refine RunL.on rfl rfl ?_
          refine RunL.ok (OpOk.move rfl) rfl ?_
          refine RunL.on rfl rfl ?_
          refine RunL.ok (OpOk.as (c := true) (OpOk.neq rfl rfl) (by rw [decide_eq_false (by omega)]; rfl)) rfl ?_
          refine RunL.on rfl rfl ?_
          refine RunL.ok (OpOk.move rfl) rfl ?_
          refine RunL.on rfl rfl ?_
          refine RunL.ok (OpOk.fieldAddr fld86_2 rfl) rfl ?_
          refine RunL.on rfl rfl ?_
          refine RunL.ok (OpOk.load rfl rfl rfl (Blk.out Blk.pts _ _ (by first | rfl | assumption))) rfl ?_
          refine RunL.on rfl rfl ?_
          refine RunL.ok (OpOk.fieldAddr fld86_2 rfl) rfl ?_
          refine RunL.on rfl rfl ?_
          refine RunL.ok (OpOk.load rfl rfl rfl (Blk.out Blk.pts.left.left.left.left.left.left.left.left _ _ (by first | rfl | assumption))) rfl ?_
          refine RunL.on rfl rfl ?_
          refine RunL.ok (OpOk.as (c := false) (OpOk.neq rfl rfl) (by rw [decide_eq_true (by omega)]; rfl)) rfl ?_
          refine RunL.on rfl rfl ?_
          refine RunL.ok (OpOk.pickT rfl rfl) rfl ?_
          refine RunL.ok (OpOk.pickF rfl rfl) rfl ?_
          refine RunL.nil ?_
          refine Run.condF rfl ?_
          refine Run.skip ?_
          refine Run.seq ?_
          refine Run.seq ?_
          refine Run.region ?_
          refine RunL.ok (OpOk.assign rfl) rfl ?_
          refine RunL.nil ?_
          refine Run.block ?_
          obtain rfl := r15 (by decide)
          refine Run.jump ((Run.loopJ (X := Nat × Asn) (fun x => [(17, .int .i64 (x.1 : Int)), (15, .pointer (some ⟨br25, 0, none⟩)), (14, .int .i64 ff), (10, bv), (8, .pointer (some ⟨bz10, 0, none⟩)), (7, .pointer (some ⟨bz1, 0, none⟩)), (6, .int .i64 (i : Int)), (5, .pointer (some ⟨x4, 0, none⟩)), (1, u)]) (fun x => A * J * z9 * J1 * x.2 * pts bz1 (.cells #[.int .i64 k, .int .i64 o, .int .i64 i2, .int .i64 s, v.1, .bool false, .int .i64 n] 113 (0, 0)) * own 111 4 (.slice z7 es.length z8) es.length (Fl encT111 es) * pts x4 (.cells (B (xs) ++ [Value.int .i64 (-1)]).toArray 177 (0, 0)) * pts bz10 (.cells #[.int .i64 a, .int .i64 b, .int .i64 q, .int .i64 (t : Int), .slice z7 es.length z8] 86 (0, 0)) * own 9 1 bv L.length (Fl encS L) * own 111 4 (.slice r22 es.length r23) es.length (Fl encT111 es) * pts br25 (.cells #[.int .i64 a, .int .i64 b, .int .i64 q, .int .i64 (t : Int), .slice r22 es.length r23] 86 (0, 0))) (fun x => x.1 ≤ es.length) (fun x => es.length - x.1) (0, _) (Nat.zero_le _) (fun x hx ih2 => ?_))) ⟨rfl, rfl, rfl, rfl, rfl, rfl, rfl, rfl, rfl, trivial⟩ (Grew.of (Eq.trans (frc rfl (frc (frl rfl) (frc (frl (frl (frl (frl (frl rfl))))) (frc (frl (frl (frl (frl (frl rfl))))) (frc rfl (frc (frl (frl (frl (frl rfl)))) (frc (frl (frl (frl (frl rfl)))) rfl))))))) (congrArg (· * _) (congrArg (· * _) (congrArg (· * _) (congrArg (· * _) (congrArg (· * _) (congrArg (· * _) (congrArg (· * _) (asg (asg (asg as1))))))))))) (Grew.refl _))
          obtain ⟨m, J2⟩ := x
          simp only at hx ih2 ⊢
          rcases Nat.lt_or_ge m es.length with hlm | hgm
          · obtain ⟨e, hoe3⟩ : ∃ e, es.getD m default = e := ⟨_, rfl⟩
            have hmem := getD_mem hlm
            have hge := (hval.1 _ (getD_mem hlm)).2
            have hLg : L.getD m default = bodyS xs (es.getD m default).2.2.2 := by
              rw [hL, List.getD_eq_getElem?_getD, List.getElem?_map, List.getElem?_eq_getElem hlm, List.getD_eq_getElem?_getD, List.getElem?_eq_getElem hlm]; rfl
            rw [hoe3] at hge hmem hLg
            obtain ⟨ke, oe, ie, se⟩ := e
            dsimp only at hge hLg
            obtain ⟨hs0, hs6⟩ := hge
            obtain ⟨j, hat, hjl, hoe4⟩ := mem_at hval hmem
            dsimp only at hat
            have rw_at := hat
            have hbe : secOf xs (3 + 2 * se).toNat ++ secOf xs (3 + 2 * se + 1).toNat = L.getD m default := by rw [hLg]; exact rfl
            refine Run.seq ?_
            refine Run.seq ?_
            refine Run.region ?_
            refine RunL.ok (OpOk.move rfl) rfl ?_
            refine RunL.ok (OpOk.fieldAddr fld86_4 rfl) rfl ?_
            refine RunL.ok (OpOk.load rfl rfl rfl (Blk.out Blk.pts.left.left.left _ _ (by first | rfl | assumption))) rfl ?_
            refine RunL.ok (OpOk.lenV rfl rfl rfl) rfl ?_
            refine RunL.ok (OpOk.asT (OpOk.lss rfl rfl) (by omega)) rfl ?_
            refine RunL.nil ?_
            refine Run.condT rfl ?_
            refine Run.skip ?_
            refine Run.seq ?_
            refine Run.block ?_
            refine Run.seq ?_
            refine Run.region ?_
            refine RunL.ok (OpOk.fieldAddr fld86_4 rfl) rfl ?_
            refine RunL.ok (OpOk.load rfl rfl rfl (Blk.out Blk.pts.left.left.left _ _ (by first | rfl | assumption))) rfl ?_
            refine RunL.ok (OpOk.move rfl) rfl ?_
            refine RunL.ok (OpOk.idxN rfl ti111 rfl (Rd.right rdr1).left.left.left.left.left rfl (by omega)) rfl ?_
            refine RunL.ok (OpOk.loadFlE (by assumption) rfl rfl ti111 rfl (Rd.right rdr1).left.left.left.left.left (fun _ => rfl) rfl (by omega)) rfl ?_
            refine RunL.alloc ti111 rfl (fun bp1 => ?_)
            refine RunL.storeAll ti111 rfl rfl rfl (fun w hw => OneC.one (enc := encT111) ((ke, oe, ie, se)) w hw) rfl rfl ?_
            refine RunL.nil ?_
            refine Run.seq ?_
            refine Run.seq ?_
            refine Run.region ?_
            refine RunL.ok (OpOk.move rfl) rfl ?_
            refine RunL.ok (OpOk.asF (OpOk.eql rfl rfl) (by omega)) rfl ?_
            refine RunL.ok (OpOk.move rfl) rfl ?_
            refine RunL.off rfl rfl rfl rfl ?_
            refine RunL.off rfl rfl rfl rfl ?_
            refine RunL.off rfl rfl rfl rfl ?_
            refine RunL.off rfl rfl rfl rfl ?_
            refine RunL.off rfl rfl rfl rfl ?_
            refine RunL.off rfl rfl rfl rfl ?_
            refine RunL.ok (OpOk.pickF rfl rfl) rfl ?_
            refine RunL.ok (OpOk.move rfl) rfl ?_
            refine RunL.off rfl rfl rfl rfl ?_
            refine RunL.off rfl rfl rfl rfl ?_
            refine RunL.off rfl rfl rfl rfl ?_
            refine RunL.off rfl rfl rfl rfl ?_
            refine RunL.off rfl rfl rfl rfl ?_
            refine RunL.off rfl rfl rfl rfl ?_
            refine RunL.ok (OpOk.pickF rfl rfl) rfl ?_
            refine RunL.nil ?_
            refine Run.condF rfl ?_
            refine Run.skip ?_
            refine Run.seq ?_
            refine Run.region ?_
            refine RunL.ok (OpOk.loadS rfl rfl ti86 rfl Blk.pts.left rfl) rfl ?_
            refine RunL.ok (OpOk.fieldAddr fld111_1 rfl) rfl ?_
            refine RunL.ok (OpOk.load rfl rfl rfl (Blk.out Blk.pts _ _ (by first | rfl | assumption))) rfl ?_
            refine RunL.ok (OpOk.fieldAddr fld111_2 rfl) rfl ?_
            refine RunL.ok (OpOk.load rfl rfl rfl (Blk.out Blk.pts _ _ (by first | rfl | assumption))) rfl ?_
            refine RunL.know (fun w s => (s.conv (frl (frl rfl))).ownRd0) (fun rdp2 => ?_)
            refine RunL.call cal45 rfl (s45 (Rd.right rdp2).left.left) rfl (fun vp3 Ap3 hp3 => ?_)
            obtain ⟨p4, ⟨rfl, rfl⟩⟩ := hp3
            refine RunL.ok (OpOk.assign rfl) rfl ?_
            refine RunL.nil ?_
            refine Run.seq ?_
            refine Run.seq ?_
            rw [rw_at]
            (apply Run.drawD [] (by rfl) (sep_emp _).symm; case hchk => kernel_rfl)
            refine Sd.quiet 0 _ _ rfl rfl rfl rfl rfl (QOp.ok (fun X => OpOk.move rfl)) ?_
            refine Sd.quiet 1 _ _ rfl rfl rfl rfl rfl (QOp.ok (fun X => OpOk.asF (OpOk.lss rfl rfl) (by omega))) ?_
            refine Sd.quiet 2 _ _ rfl rfl rfl rfl rfl (QOp.ok (fun X => OpOk.move rfl)) ?_
            refine Sd.quiet 3 _ _ rfl rfl rfl rfl rfl (QOp.ok (fun X => OpOk.fieldAddr fld86_4 rfl)) ?_
            refine Sd.quiet 4 _ _ rfl rfl rfl rfl rfl (QOp.ok (fun X => OpOk.load rfl rfl rfl (Blk.out Blk.pts.left.left.left.left _ _ (by first | rfl | assumption)))) ?_
            refine Sd.quiet 5 _ _ rfl rfl rfl rfl rfl (QOp.ok (fun X => OpOk.move rfl)) ?_
            refine Sd.quiet 6 _ _ rfl rfl rfl rfl rfl (QOp.ok (fun X => OpOk.idxN rfl ti111 rfl (Rd.right rdp2).left.left.left.left.left rfl (by omega))) ?_
            refine Sd.quiet 7 _ _ rfl rfl rfl rfl rfl (QOp.ok (fun X => OpOk.loadFlE (by assumption) rfl rfl ti111 rfl (Rd.right rdp2).left.left.left.left.left (fun _ => rfl) rfl (by omega))) ?_
            refine Sd.quiet 8 _ _ rfl rfl rfl rfl rfl (QOp.ok (fun X => OpOk.loadS rfl rfl ti111 rfl Blk.pts.left.left.left rfl)) ?_
            refine Sd.quiet 9 _ _ rfl rfl rfl rfl rfl (QOp.ok (fun X => OpOk.neqK4 (p := (ke, oe, ie, se)) (q := (ke, oe, ie, se)) four111 rfl rfl)) ?_
            refine Sd.quiet 10 _ _ rfl rfl rfl rfl rfl (QOp.ok (fun X => OpOk.pickF rfl rfl)) ?_
            (apply Sd.tail; case hall => kernel_rfl)
            refine RunL.mem (fl2 (sep_emp _) (sep_emp _)) ?_
            refine RunL.nil ?_
            refine Run.condNF rfl (by first | omega | with_reducible rfl | assumption) ?_
            refine Run.skip ?_
            refine Run.seq ?_
            refine Run.region ?_
            refine RunL.ok (OpOk.move rfl) rfl ?_
            refine RunL.ok (OpOk.fieldAddr fld111_3 rfl) rfl ?_
            refine RunL.ok (OpOk.load rfl rfl rfl (Blk.out Blk.pts.left _ _ (by first | rfl | assumption))) rfl ?_
            refine RunL.mem (frc (frl (frl (frl (frl (frl (frl rfl)))))) rfl) ?_
            refine RunL.call cal42 rfl (s42b (by assumption) (by assumption) (by assumption)) rfl (fun vp6 Ap6 hp6 => ?_)
            obtain ⟨p7, ⟨p8, ⟨rfl, rfl⟩⟩⟩ := hp6
            refine RunL.ok (OpOk.move rfl) rfl ?_
            refine RunL.ok (OpOk.ext20 rfl) rfl ?_
            refine RunL.ok (OpOk.ext21 rfl) rfl ?_
            refine RunL.ok (OpOk.assign rfl) rfl ?_
            refine RunL.ok (OpOk.assign rfl) rfl ?_
            refine RunL.nil ?_
            refine Run.seq ?_
            refine Run.know (fun w s => (s.conv (frl rfl)).ownRd0) (fun rdp9 => ?_)
            (apply Run.drawD [] (by rfl) (sep_emp _).symm; case hchk => kernel_rfl)
            refine Sd.quiet 0 _ _ rfl rfl rfl rfl rfl (QOp.ok (fun X => OpOk.move rfl)) ?_
            refine Sd.quiet 1 _ _ rfl rfl rfl rfl rfl (QOp.ok (fun X => OpOk.strOf rfl rfl rfl rfl (Rd.right rdp9).left.left.left)) ?_
            refine Sd.quiet 2 _ _ rfl rfl rfl rfl rfl (QOp.ok (fun X => OpOk.move rfl)) ?_
            refine Sd.quiet 3 _ _ rfl rfl rfl rfl rfl (QOp.ok (fun X => OpOk.move rfl)) ?_
            refine Sd.quiet 4 _ _ rfl rfl rfl rfl rfl (QOp.ok (fun X => OpOk.idx1N rfl ti9 rfl (Rd.right rdr2).left.left.left.left.left.left.left.left.left rfl (by omega))) ?_
            refine Sd.quiet 5 _ _ rfl rfl rfl rfl rfl (QOp.ok (fun X => OpOk.loadStr rfl rfl rfl (Rd.right rdr2).left.left.left.left.left.left.left.left.left (by omega))) ?_
            refine Sd.quiet 6 _ _ rfl rfl rfl rfl rfl (QOp.ok (fun X => OpOk.as (c := false) (OpOk.neqSS rfl rfl) (by rw [decide_eq_true (by omega)]; rfl))) ?_
            (apply Sd.tail; case hall => kernel_rfl)
            refine RunL.mem (fl2 (sep_emp _) (sep_emp _)) ?_
            refine RunL.nil ?_
            refine Run.condF rfl ?_
            refine Run.skip ?_
            refine Run.inBlock ?_
            refine Run.region ?_
            refine RunL.ok (OpOk.move rfl) rfl ?_
            refine RunL.ok (OpOk.addN _ 1 rfl rfl rfl rfl (by omega)) rfl ?_
            refine RunL.ok (OpOk.assign rfl) rfl ?_
            refine RunL.nil ?_
            refine Run.jump ((ih2 (m + 1, _) (by dsimp only; omega) (by dsimp only; omega))) ⟨rfl, rfl, rfl, rfl, rfl, rfl, rfl, rfl, rfl, trivial⟩ (Grew.of (Eq.trans (frc (frl (frl (frl (frl (frl rfl))))) (frc (frl (frl (frl (frl (frl rfl))))) (frc (frl (frl (frl (frl (frl rfl))))) (frc (frl (frl (frl (frl (frl rfl))))) (frc rfl (frc (frl (frl (frl (frl rfl)))) (frc (frl (frl (frl (frl rfl)))) rfl))))))) (congrArg (· * _) (congrArg (· * _) (congrArg (· * _) (congrArg (· * _) (congrArg (· * _) (congrArg (· * _) (congrArg (· * _) (asg (asg (asg (asg as1)))))))))))) (Grew.refl _))
          · obtain rfl : m = es.length := by omega
            clear ih2
            refine Run.seq ?_
            refine Run.seq ?_
            refine Run.region ?_
            refine RunL.ok (OpOk.move rfl) rfl ?_
            refine RunL.ok (OpOk.fieldAddr fld86_4 rfl) rfl ?_
            refine RunL.ok (OpOk.load rfl rfl rfl (Blk.out Blk.pts.left.left.left _ _ (by first | rfl | assumption))) rfl ?_
            refine RunL.ok (OpOk.lenV rfl rfl rfl) rfl ?_
            refine RunL.ok (OpOk.asF (OpOk.lss rfl rfl) (by omega)) rfl ?_
            refine RunL.nil ?_
            refine Run.condF rfl ?_
            refine Run.exit rfl ?_
            refine Run.seq ?_
            refine Run.region ?_
            refine RunL.ok (OpOk.loadS rfl rfl ti86 rfl Blk.pts rfl) rfl ?_
            refine RunL.ok (OpOk.fieldAddr fld113_0 rfl) rfl ?_
            refine RunL.ok (OpOk.fieldAddr fld111_1 rfl) rfl ?_
            refine RunL.ok (OpOk.load rfl rfl rfl (Blk.out Blk.pts.left.left.left.left.left.left _ _ (by first | rfl | assumption))) rfl ?_
            refine RunL.ok (OpOk.fieldAddr fld113_0 rfl) rfl ?_
            refine RunL.ok (OpOk.fieldAddr fld111_2 rfl) rfl ?_
            refine RunL.ok (OpOk.load rfl rfl rfl (Blk.out Blk.pts.left.left.left.left.left.left _ _ (by first | rfl | assumption))) rfl ?_
            refine RunL.know (fun w s => (s.conv (frl rfl)).ownRd0) (fun rdp1 => ?_)
            refine RunL.call cal45 rfl (s45 (Rd.right rdp1).left) rfl (fun vp2 Ap2 hp2 => ?_)
            obtain ⟨p3, ⟨rfl, rfl⟩⟩ := hp2
            refine RunL.ok (OpOk.assign rfl) rfl ?_
            refine RunL.nil ?_
            refine Run.seq ?_
            refine Run.seq ?_
            refine Run.region ?_
            refine RunL.ok (OpOk.move rfl) rfl ?_
            refine RunL.ok (OpOk.as (c := true) (OpOk.neq rfl rfl) (by rw [decide_eq_false (by omega)]; rfl)) rfl ?_
            refine RunL.nil ?_
            refine Run.condT rfl ?_
            refine Run.exit rfl ?_
            refine Run.region ?_
            refine RunL.ok (OpOk.move rfl) rfl ?_
            refine RunL.ok (OpOk.addN _ 1 rfl rfl rfl rfl (by omega)) rfl ?_
            refine RunL.ok (OpOk.assign rfl) rfl ?_
            refine RunL.nil ?_
            refine Run.jump ((ih (i + 1, _, xs, q, t, es) ⟨by dsimp only; omega, by dsimp only; omega, hSx⟩ (by dsimp only; omega))) ⟨rfl, rfl, rfl, trivial⟩ (Grew.of (Eq.trans (frc (frl (frl (frl (frl (frl rfl))))) rfl) (congrArg (· * _) (asg (asg (asg (asg (asg (asg (asg (asg (asg (asg as1)))))))))))) (Grew.refl _))
  · obtain rfl : i = 60 := by omega
    clear ih
    refine Run.seq ?_
    refine Run.seq ?_
    refine Run.region ?_
    refine RunL.ok (OpOk.move rfl) rfl ?_
    refine RunL.ok (OpOk.move rfl) rfl ?_
    refine RunL.ok (OpOk.lenR rfl rfl rd.left.left rfl) rfl ?_
    refine RunL.ok (OpOk.asT (OpOk.lss rfl rfl) (by omega)) rfl ?_
    refine RunL.ok (OpOk.move rfl) rfl ?_
    refine RunL.on rfl rfl ?_
    refine RunL.ok (OpOk.move rfl) rfl ?_
    refine RunL.on rfl rfl ?_
    refine RunL.ok (OpOk.asF (OpOk.lss rfl rfl) (by omega)) rfl ?_
    refine RunL.ok (OpOk.pickT rfl rfl) rfl ?_
    refine RunL.nil ?_
    refine Run.condF rfl ?_
    refine Run.exit rfl ?_
    refine Run.seq ?_
    refine Run.region ?_
    refine RunL.ok (OpOk.assign rfl) rfl ?_
    refine RunL.nil ?_
    refine Run.ret1 Try.func12 rfl rfl ?_
    exact ⟨_, rfl, (asg as1)⟩
  · obtain rfl : i = cs.length := by omega
    clear ih
    refine Run.seq ?_
    refine Run.seq ?_
    refine Run.region ?_
    refine RunL.ok (OpOk.move rfl) rfl ?_
    refine RunL.ok (OpOk.move rfl) rfl ?_
    refine RunL.ok (OpOk.lenR rfl rfl rd.left.left rfl) rfl ?_
    refine RunL.ok (OpOk.asF (OpOk.lss rfl rfl) (by omega)) rfl ?_
    refine RunL.ok (OpOk.move rfl) rfl ?_
    refine RunL.off rfl rfl rfl rfl ?_
    refine RunL.off rfl rfl rfl rfl ?_
    refine RunL.ok (OpOk.pickF rfl rfl) rfl ?_
    refine RunL.nil ?_
    refine Run.condF rfl ?_
    refine Run.exit rfl ?_
    refine Run.seq ?_
    refine Run.region ?_
    refine RunL.ok (OpOk.assign rfl) rfl ?_
    refine RunL.nil ?_
    refine Run.ret1 Try.func12 rfl rfl ?_
    exact ⟨_, rfl, (asg as1)⟩
end
end Go.Proofs.Yteopadjihklkmaa
end

section
namespace Go.Proofs.Yteopadjihklkmaa
open Go Go.Proofs
set_option maxRecDepth 100000
set_option maxHeartbeats 4000000
theorem law_ex {P : Program} {w0 : World} {f : FuncId} {args : List Value} {A : Asn} (h : Spec P w0 f args A (fun v' A' => ∃ J, v' = .bool true ∧ A' = A * J)) : Spec P w0 f args A (fun v' A' => v' = .bool true ∧ Grew A A') := h.mono (by rintro v' A' ⟨J, h1, h2⟩; exact ⟨h1, ⟨J, h2⟩⟩)
set_option linter.unusedVariables false
theorem shellKeeps_walk {H : Type} {enc : TypeId × Value → H} (W : World) (base : Nat) (v0 : Value) (d0 : DataW H) (p0 : List MemPlace) (v1 : Value) (d1 : DataW H) (p1 : List MemPlace) (h0 : DataW.Trod enc Try.prog W 0 (fun _ => true) true 3 v0 d0 p0) (o0 : Value.okWide Try.prog W .any base 3 v0) (h1 : DataW.Trod enc Try.prog W 0 (fun _ => true) true 108 v1 d1 p1) (o1 : Value.okWide Try.prog W .any base 108 v1)
    (hk : (DataW.weightsEach Try.prog [3, 108] [d0, d1]).all (· ≤ reachBytes) = true) : Calls Try.prog 12 #[v0, v1] W fun e W' => e = .returned (.bool true) ∧ RowKit.Below W.heap.size W W' := by
  obtain ⟨n, rfl, _⟩ := open_i Try.underlying3 h0 o0
  obtain ⟨xs, rd, good, sized, _⟩ := open_v Try.underlying108 (by rfl) (by rfl) (rep_ch W) h1 o1
  have hs := (sized (sized_at hk (j := 1) rfl rfl)).2
  refine law_walk (law_ex (keeps_spec (id := n) (cs := xs.map toCh) ?_ (good_ch good) (sized_ch good hs)))
  rw [List.length_map]
  exact Eq.mp (congrArg (Rd W (old W) v1 7 (List.length xs)) (Fl_ch xs)) rd
end Go.Proofs.Yteopadjihklkmaa
end
