/- The law BitsPuts: what a writer has are the fields, one behind the other, highest bit first; a list with a wrong field writes nothing (where what it reads is of bulk at most 1048576). -/
import Derived.Test.YtlheianbmpgefaaBiQ
import Derived.Test.YtlheianbmpgefaaCod
namespace Go.Proofs.Ytlheianbmpgefaa
open Go Go.Proofs
set_option maxRecDepth 100000
set_option maxHeartbeats 4000000
theorem Fl_vf : ∀ xs : List (Value × List (Int × Int)), Fl (cV (cP cI cI) 2 16).enc xs = Fl encVF xs
  | [] => rfl
  | x :: r => congrArg (x.1 :: ·) (Fl_vf r)
theorem len_le_sum {α : Type} (f : α → Nat) (h : ∀ a, 1 ≤ f a) : ∀ l : List α, l.length ≤ (l.map f).sum
  | [] => by simp
  | a :: r => by have := len_le_sum f h r; have := h a; simp only [List.length_cons, List.map_cons, List.sum_cons]; omega
theorem mem_le_sum {α : Type} (f : α → Nat) {a : α} : ∀ {l : List α}, a ∈ l → f a ≤ (l.map f).sum
  | b :: r, h => by
    simp only [List.map_cons, List.sum_cons]
    rcases List.mem_cons.1 h with rfl | h
    · omega
    · have := mem_le_sum f h; omega
theorem rep_field (W : World) : Rep Try.prog W 31 (cP cI cI) 2 := rep_t Try.underlying31 (by rfl) (repF_cons rfl (rep_i Try.underlying3 rfl) (repF_one rfl (rep_i Try.underlying3 rfl)))
set_option linter.unusedVariables false
theorem bitsPuts_walk {H : Type} {enc : TypeId × Value → H} (W : World) (base : Nat) (v0 : Value) (d0 : DataW H) (p0 : List MemPlace) (h0 : DataW.Trod enc Try.prog W 0 (fun _ => true) true 22 v0 d0 p0) (o0 : Value.okWide Try.prog W .any base 22 v0)
    (hk : Rows.uptoSmall H [d0] = true) : Calls Try.prog 3 #[v0] W fun e W' => e = .returned (.bool true) ∧ RowKit.Below W.heap.size W W' := by
  obtain ⟨ls, rd, good, _, hb⟩ := open_v Try.underlying22 (by rfl) (by rfl) (rep_v (bytes := 16) Try.underlying27 (by rfl) (by rfl) (rep_field W)) h0 o0
  have hb2 := bulk_small hk
  simp only [Rows.uptoBulkAll] at hb2
  refine law_walk (bitsPuts_spec (ls := ls) (Eq.mp (congrArg (Rd W (old W) v0 1 (List.length ls)) (Fl_vf ls)) rd) (fun p hp => (good p hp).1) (fun p hp => ?_) (fun p hp f hf => ((good p hp).2 f hf).2.2))
  have h1 := mem_le_sum (cV (cP cI cI) 2 16).bulk hp
  have h2 := len_le_sum (cP cI cI).bulk (fun _ => by show 1 ≤ 1 + 1; omega) p.2
  have h3 : List.length p.2 + 1 ≤ (List.map (cV (cP cI cI) 2 16).bulk ls).sum := Nat.le_trans (Nat.succ_le_succ h2) h1
  clear h1 h2
  show List.length p.2 ≤ _
  omega
end Go.Proofs.Ytlheianbmpgefaa
