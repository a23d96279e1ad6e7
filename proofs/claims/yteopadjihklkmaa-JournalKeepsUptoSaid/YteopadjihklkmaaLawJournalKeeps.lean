/- The law JournalKeeps: wherever power fails, a journal that is opened again has all that was answered OK, in order, and at most the first bodies, whole, of the call that was torn (where what it reads is of bulk at most 1048576). -/
import Derived.Test.YteopadjihklkmaaJnO
import Derived.Test.YteopadjihklkmaaCow
namespace Go.Proofs.Yteopadjihklkmaa
open Go Go.Proofs
set_option maxRecDepth 100000
set_option maxHeartbeats 4000000
abbrev cVW : Cod := cW (cV cU 1 1) 1 24
abbrev cOp : Cod := cP cI (cP cI cVW)
theorem rep_vw (W : World) : Rep Try.prog W 58 cVW 1 := rep_w (bytes := 24) Try.underlying58 (by rfl) (by rfl) (rep_v (bytes := 1) Try.underlying63 (by rfl) (by rfl) (rep_u Try.underlying5 rfl))
theorem rep_jop (W : World) : Rep Try.prog W 60 cOp 3 := rep_t (n := 1 + (1 + 1)) Try.underlying60 (by rfl) (repF_cons rfl (rep_i Try.underlying3 rfl) (repF_cons rfl (rep_i Try.underlying3 rfl) (repF_one rfl (rep_vw W))))
theorem Fl_jop (xs : List JOp) : Fl cOp.enc xs = Fl encT60 xs := Fl_eq (fun _ => rfl) xs
theorem Fl_vb (xs : List (Value × List UInt8)) : Fl (cV cU 1 1).enc xs = Fl encV xs := Fl_eq (fun _ => rfl) xs
theorem good_jop {W : World} {o : JOp} (h : cOp.good W o) (hb : cOp.bulk o ≤ 1048576) : JOk W o := by
  obtain ⟨_, g2, h1, h2⟩ := h
  refine ⟨Eq.mp (congrArg (Rd W (old W) o.2.2.1.1 1 o.2.2.2.length) (Fl_vb o.2.2.2)) h1, ⟨fun y hy => ?_⟩, ?_, g2.1, g2.2⟩
  · exact Eq.mp (congrArg (Rd W (old W) y.1 1 y.2.length) (Fl_u y.2)) (h2 y hy).1
  · have h3 : o.2.2.2.length ≤ (o.2.2.2.map (cV cU 1 1).bulk).sum := len_le_sum (cV cU 1 1).bulk (fun _ => Nat.le_add_left 1 _) o.2.2.2
    have e : cOp.bulk o = 1 + (1 + ((o.2.2.2.map (cV cU 1 1).bulk).sum + 1)) := rfl
    omega
set_option linter.unusedVariables false
theorem journalKeeps_walk {H : Type} {enc : TypeId × Value → H} (W : World) (base : Nat) (v0 : Value) (d0 : DataW H) (p0 : List MemPlace) (h0 : DataW.Trod enc Try.prog W 0 (fun _ => true) true 50 v0 d0 p0) (o0 : Value.okWide Try.prog W .any base 50 v0)
    (hk : Rows.uptoSmall H [d0] = true) : Calls Try.prog 6 #[v0] W fun e W' => e = .returned (.bool true) ∧ RowKit.Below W.heap.size W W' := by
  have hb := bulk_small hk
  simp only [Rows.uptoBulkAll] at hb
  obtain ⟨ops, rd, good, _, hbk⟩ := open_v Try.underlying50 (by rfl) (by rfl) (rep_jop W) h0 o0
  refine law_walk (journalKeeps_spec (ops := ops) (Eq.mp (congrArg (Rd W (old W) v0 3 (List.length ops)) (Fl_jop ops)) rd) (fun o ho => good_jop (good o ho) ?_))
  have h1 := mem_le_sum cOp.bulk ho
  omega
end Go.Proofs.Yteopadjihklkmaa
