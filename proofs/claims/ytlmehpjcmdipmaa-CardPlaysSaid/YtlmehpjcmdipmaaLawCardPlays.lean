/- The law CardPlays: every script of calls. -/
import Derived.Test.YtlmehpjcmdipmaaCaF
import Derived.Test.YtlmehpjcmdipmaaCod
namespace Go.Proofs.Ytlmehpjcmdipmaa
open Go Go.Proofs
set_option maxRecDepth 100000
set_option maxHeartbeats 4000000
abbrev cCd : Cod := cP cI (cP cI (cV cU 1 1))
theorem Fl_cd : ∀ xs : List CdOp, Fl cCd.enc xs = Fl encCd xs
  | [] => rfl
  | x :: r => congrArg (encCd x ++ ·) (Fl_cd r)
theorem rep_cd (W : World) : Rep Try.prog W 54 cCd 3 := rep_t (n := 1 + (1 + 1)) Try.underlying54 (by rfl) (repF_cons rfl (rep_i Try.underlying3 rfl) (repF_cons rfl (rep_i Try.underlying3 rfl) (repF_one rfl (rep_v (bytes := 1) Try.underlying37 (by rfl) (by rfl) (rep_u Try.underlying5 rfl)))))
set_option linter.unusedVariables false
theorem cardPlays_walk {H : Type} {enc : TypeId × Value → H} (W : World) (base : Nat) (v0 : Value) (d0 : DataW H) (p0 : List MemPlace) (h0 : DataW.Trod enc Try.prog W 0 (fun _ => true) true 50 v0 d0 p0) (o0 : Value.okWide Try.prog W .any base 50 v0)
    (hk : (DataW.weightsEach Try.prog [50] [d0]).all (· ≤ reachBytes) = true) : Calls Try.prog 6 #[v0] W fun e W' => e = .returned (.bool true) ∧ RowKit.Below W.heap.size W W' := by
  obtain ⟨ops, rd, good, sized, _⟩ := open_v Try.underlying50 (by rfl) (by rfl) (rep_cd W) h0 o0
  have hs := (sized (sized_at hk (j := 0) rfl rfl)).2
  refine law_walk (cardPlays_spec (ops := ops) (Eq.mp (congrArg (Rd W (old W) v0 3 (List.length ops)) (Fl_cd ops)) rd) (fun o ho => ?_))
  obtain ⟨_, g2, g3⟩ := good o ho
  have h := (hs o ho).2.2.1
  have e : reachBytes = 140737488351232 := by decide
  rw [e] at h
  refine ⟨Eq.mp (congrArg (Rd W (old W) o.2.2.1 1 o.2.2.2.length) (Fl_u o.2.2.2)) g3.1, ?_, g2.1, g2.2⟩
  show List.length o.2.2.2 ≤ _
  change List.length o.2.2.2 * 1 ≤ _ at h
  generalize List.length o.2.2.2 = k at *
  omega
end Go.Proofs.Ytlmehpjcmdipmaa
