/- The law TlvJoins: elements whose tags rise from one list to the other, laid together, are both forms one behind the other (where what it reads is of bulk at most 1048576). -/
import Derived.Test.YtlheianbmpgefaaTvR
import Derived.Test.YtlheianbmpgefaaTvL
namespace Go.Proofs.Ytlheianbmpgefaa
open Go Go.Proofs
set_option maxRecDepth 100000
set_option maxHeartbeats 4000000
theorem sz_bulk : ∀ f : Fo, bkFo f ≤ 1048576 → szT (strip f) ∧ lenT (strip f) ≤ bkFo f
  | .nil, _ => ⟨trivial, Nat.le_refl _⟩
  | .cons t bv bs ev f r, h => by
    rw [bkFo] at h
    have h1 := sz_bulk f (by omega)
    have h2 := sz_bulk r (by omega)
    rw [strip, szT, lenT, bkFo]
    exact ⟨⟨by omega, by omega, h1.1, h2.1⟩, by omega⟩
theorem sz_list {xs : List Ee} (h : bkFo (untop xs) ≤ 1048576) : szT (strL xs) ∧ xs.length ≤ 1048576 := by
  have h1 := sz_bulk (untop xs) h
  rw [← strL_top, top_untop, lenT_strL] at h1
  exact ⟨h1.1, by omega⟩
set_option linter.unusedVariables false
theorem tlvJoins_walk {H : Type} {enc : TypeId × Value → H} (W : World) (base : Nat) (v0 : Value) (d0 : DataW H) (p0 : List MemPlace) (v1 : Value) (d1 : DataW H) (p1 : List MemPlace) (h0 : DataW.Trod enc Try.prog W 0 (fun _ => true) true 50 v0 d0 p0) (o0 : Value.okWide Try.prog W .any base 50 v0) (h1 : DataW.Trod enc Try.prog W 0 (fun _ => true) true 50 v1 d1 p1) (o1 : Value.okWide Try.prog W .any base 50 v1)
    (hk : Rows.uptoSmall H [d0, d1] = true) : Calls Try.prog 11 #[v0, v1] W fun e W' => e = .returned (.bool true) ∧ RowKit.Below W.heap.size W W' := by
  have hb := bulk_small hk
  simp only [Rows.uptoBulkAll] at hb
  obtain ⟨xs, rd, al, _, b1⟩ := open_els h0 o0
  obtain ⟨ys, rd2, al2, _, b2⟩ := open_els h1 o1
  obtain ⟨s1, m1⟩ := sz_list (xs := xs) (by omega)
  obtain ⟨s2, m2⟩ := sz_list (xs := ys) (by omega)
  exact law_walk (tlvJoins_spec rd al s1 m1 rd2 al2 s2 m2)
end Go.Proofs.Ytlheianbmpgefaa
