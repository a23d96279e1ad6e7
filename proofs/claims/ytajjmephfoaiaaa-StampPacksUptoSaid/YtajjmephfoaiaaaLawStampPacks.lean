/- The law StampPacks: Pack and Unpack are the document's, of any stamps and bytes, and undo each other (where what it reads is of bulk at most 1048576). -/
import Derived.Test.YtajjmephfoaiaaaSpH
import Derived.Test.YtajjmephfoaiaaaCod
namespace Go.Proofs.Ytajjmephfoaiaaa
open Go Go.Proofs
set_option maxRecDepth 100000
set_option maxHeartbeats 4000000
theorem len_le_sum {α : Type} (f : α → Nat) (h : ∀ a, 1 ≤ f a) : ∀ l : List α, l.length ≤ (l.map f).sum
  | [] => by simp
  | a :: r => by have := len_le_sum f h r; have := h a; simp only [List.length_cons, List.map_cons, List.sum_cons]; omega
theorem rep_stamp (W : World) : Rep Try.prog W 29 (cP cI cI) 2 := rep_t Try.underlying29 (by rfl) (repF_cons rfl (rep_i Try.underlying3 rfl) (repF_one rfl (rep_i Try.underlying3 rfl)))
set_option linter.unusedVariables false
theorem stampPacks_walk {H : Type} {enc : TypeId × Value → H} (W : World) (base : Nat) (v0 : Value) (d0 : DataW H) (p0 : List MemPlace) (v1 : Value) (d1 : DataW H) (p1 : List MemPlace) (h0 : DataW.Trod enc Try.prog W 0 (fun _ => true) true 52 v0 d0 p0) (o0 : Value.okWide Try.prog W .any base 52 v0) (h1 : DataW.Trod enc Try.prog W 0 (fun _ => true) true 22 v1 d1 p1) (o1 : Value.okWide Try.prog W .any base 22 v1)
    (hk : Rows.uptoSmall H [d0, d1] = true) : Calls Try.prog 14 #[v0, v1] W fun e W' => e = .returned (.bool true) ∧ RowKit.Below W.heap.size W W' := by
  obtain ⟨ss, rd, _, _, hb⟩ := open_v Try.underlying52 (by rfl) (by rfl) (rep_stamp W) h0 o0
  obtain ⟨xs, rd2, _, _, hb2⟩ := open_v Try.underlying22 (by rfl) (by rfl) (rep_u Try.underlying5 rfl) h1 o1
  have hb3 := bulk_small hk
  simp only [Rows.uptoBulkAll] at hb3
  have h2 := len_le_sum (cP cI cI).bulk (fun _ => by show 1 ≤ 1 + 1; omega) ss
  have h3 := len_le_sum cU.bulk (fun _ => by show 1 ≤ 1; omega) xs
  exact law_walk (stampPacks_spec (ss := ss) (bs := xs) rd (Eq.mp (congrArg (Rd W (old W) v1 1 (List.length xs)) (Fl_u xs)) rd2) (by show List.length ss ≤ _; omega) (by show List.length xs ≤ _; omega))
end Go.Proofs.Ytajjmephfoaiaaa
