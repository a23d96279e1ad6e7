/- From an argument as the form reads it to what can be read in memory; from a contract to a law's walk. Words of our own. -/
import Derived.Test.YteopadjihklkmaaDr
import Derived.Test.YteopadjihklkmaaRows
import Derived.ProofKit
import Derived.SizedLaws
import Derived.ChangeSlices
import Derived.Deep.Slices
import Derived.OpenShut
namespace Go.Proofs.Yteopadjihklkmaa
open Go Go.ChangeShapes Go.WideShapes
theorem law_walk {P : Program} {W : World} {f : FuncId} {args : List Value} (h : Spec P W f args (old W) (fun v' A' => v' = .bool true ∧ Grew (old W) A')) :
    Calls P f args.toArray W fun e W' => e = .returned (.bool true) ∧ RowKit.Below W.heap.size W W' := by
  refine (h.out W (Sat.start W)).mono ?_
  rintro e W' ⟨v, A', ⟨rfl, ⟨J, rfl⟩⟩, rfl, hs⟩
  exact ⟨rfl, (hs.conv (sep_comm _ _)).below⟩
section
variable {H : Type} {enc : TypeId × Value → H} {P : Program} {W : World}
theorem open_bytes {t e : TypeId} {v : Value} {d : DataW H} {ps : List MemPlace} {base : Nat} (ht : P.underlying t = some (.slice e)) (he : P.underlying e = some (.int .u8)) (hc : P.cellsOf e = 1)
    (h : DataW.Trod enc P W 0 (fun _ => true) true t v d ps) (hv : Value.okWide P W .any base t v) : ∃ m bs, bs.length = m ∧ Rd W (old W) v 1 m (B bs) ∧ ((∃ el sp, d = .slice el sp ∧ el.length = m) ∨ (d = .nil ∧ m = 0)) := by
  obtain ⟨a, len, cap, rfl⟩ := okWide_slice ht hv
  obtain ⟨fuel, hf⟩ := h
  rcases open_ints ht he hc hf with ⟨hcs, hx⟩ | ⟨x, l, c, zs, hcs, _, hl, hm, hz, hx, hcell, hwz⟩
  · simp [Value.cells] at hcs
    obtain ⟨rfl, rfl, rfl⟩ := hcs
    exact ⟨0, [], rfl, Rd.nil 1, .inr ⟨by simpa using (Prod.mk.inj hx).1, rfl⟩⟩
  · simp [Value.cells] at hcs
    obtain ⟨rfl, rfl, rfl⟩ := hcs
    simp only [if_true] at hz
    have hwf : ∀ n ∈ zs, 0 ≤ n ∧ n ≤ 255 := fun n hn => by
      have := hwz n hn
      simpa [Lit.wf, IntKind.min, IntKind.max, IntKind.signed, IntKind.bits] using this
    have hlen : (zs.take len).length = len := by rw [List.length_take]; omega
    refine ⟨len, (zs.take len).map fun n => UInt8.ofNat n.toNat, by simpa using hlen, ⟨by simp [B]; omega, by omega, _, cap, rfl, hl, fun h0 => ⟨x, rfl, fun j u hj => ?_⟩⟩, .inl ⟨_, _, (Prod.mk.inj hx).1, by simp [lits]; omega⟩⟩
    have hjl : j < len := by
      have := (List.getElem?_eq_some_iff.1 hj).1
      simp [B] at this
      omega
    have hjz : j < zs.length := by omega
    have hb := hwf zs[j] (List.getElem_mem hjz)
    have hu : u = .int .u8 (zs.getD j 0) := by
      simp only [B, List.getElem?_map, List.getElem?_take, if_pos hjl, List.getElem?_eq_getElem hjz, Option.map_some, Option.some.injEq] at hj
      rw [← hj, List.getD_eq_getElem?_getD, List.getElem?_eq_getElem hjz, UInt8.toNat_ofNat']
      simp only [Option.getD_some, Value.int.injEq, true_and]
      omega
    subst hu
    exact Cell.base0 (hcell j hjz)
theorem sized_bytes {t e : TypeId} {d : DataW H} {ts : List TypeId} {ds : List (DataW H)} {j m : Nat} (hsz : (DataW.weightsEach P ts ds).all (· ≤ reachBytes) = true) (ht : ts[j]? = some t) (hd : ds[j]? = some d) (hu : P.underlying t = some (.slice e)) (hB : P.bytesOf e = 1)
    (h : (∃ el sp, d = .slice el sp ∧ el.length = m) ∨ (d = .nil ∧ m = 0)) : m ≤ 140737488351232 := by
  rcases h with ⟨el, sp, rfl, hl⟩ | ⟨_, h⟩
  · have z := sized_slice hsz ht hd hu
    rw [hB] at z
    have : reachBytes = 140737488351232 := by decide
    omega
  · omega
end
/-- What a statement of the second form gives of each argument. -/
theorem bulk_one {H : Type} (d : DataW H) : 1 ≤ Rows.uptoBulk d := by
  cases d with
  | lit l => cases l <;> simp [Rows.uptoBulk]
  | nil => simp [Rows.uptoBulk]
  | ptr d => simp [Rows.uptoBulk]
  | slice elems spare => simp [Rows.uptoBulk]
  | agg parts => simp [Rows.uptoBulk]
  | iface t d => simp [Rows.uptoBulk]
  | map entries => simp [Rows.uptoBulk]
  | held h => simp [Rows.uptoBulk]
theorem bulk_part {H : Type} {d : DataW H} {l : List (DataW H)} (h : d ∈ l) : Rows.uptoBulk d ≤ Rows.uptoBulkAll l := by
  induction l with
  | nil => cases h
  | cons x r ih =>
    simp only [Rows.uptoBulkAll]
    cases List.mem_cons.1 h with
    | inl e => subst e; omega
    | inr e => have := ih e; omega
theorem bulk_len {H : Type} (l : List (DataW H)) : l.length ≤ Rows.uptoBulkAll l := by
  induction l with
  | nil => simp [Rows.uptoBulkAll]
  | cons x r ih => have := bulk_one x; simp only [Rows.uptoBulkAll, List.length_cons]; omega
theorem bulk_small {H : Type} {l : List (DataW H)} (h : Rows.uptoSmall H l = true) : Rows.uptoBulkAll l ≤ 1048576 := by
  unfold Rows.uptoSmall at h
  exact of_decide_eq_true h
theorem bulk_slice {H : Type} (el sp : List (DataW H)) : Rows.uptoBulk (.slice el sp) = Rows.uptoBulkAll el + Rows.uptoBulkAll sp + 1 := by simp [Rows.uptoBulk]
theorem bulk_bytes {H : Type} {d : DataW H} {m : Nat} (h : (∃ el sp, d = .slice el sp ∧ el.length = m) ∨ (d = .nil ∧ m = 0)) : m ≤ Rows.uptoBulk d := by
  rcases h with ⟨el, sp, rfl, hl⟩ | ⟨_, h⟩
  · rw [bulk_slice]
    have := bulk_len el
    omega
  · omega
end Go.Proofs.Yteopadjihklkmaa
