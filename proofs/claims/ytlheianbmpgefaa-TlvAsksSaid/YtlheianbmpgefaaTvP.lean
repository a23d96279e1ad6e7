/- The law TlvBack, walked. -/
import Derived.Test.YtlheianbmpgefaaTvN
import Derived.Test.YtlheianbmpgefaaTvO
namespace Go.Proofs.Ytlheianbmpgefaa
open Go Go.Proofs
set_option maxRecDepth 100000
set_option maxHeartbeats 4000000
set_option linter.unusedSimpArgs false
theorem lay_len : ∀ (F : Te) (last : Int) (out : List UInt8), 0 ≤ last → last ≤ 255 → rightT F last = true → layT F = some out → (out.length : Int) + 257 * last ≤ 257 * 255
  | .nil, last, out, h, h2, _, hl => by
    rw [layT] at hl
    obtain rfl := Option.some.inj hl
    simp only [List.length_nil]
    omega
  | .cons t bs f r, last, out, h, h0, hr, hl => by
    obtain ⟨⟨h1, h2, h3, h4⟩, hrf, hrr⟩ := right_cons hr
    obtain ⟨b, c, hf, hlen, hc, rfl⟩ := lay_cons hl
    have := lay_len r t c (by omega) h2 hrr hc
    rw [List.length_append, show (rowT t (bodyT t bs b)).length = (bodyT t bs b).length + 2 from rfl]
    omega
theorem put_small {F : Te} {out : List UInt8} {e : Int} (h : putT F = (out, e)) : out.length ≤ 65535 := by
  rcases Decidable.em (e = 0) with he | he
  · subst he
    obtain ⟨_, h2, h3⟩ := put_ok h
    have := lay_len F 0 out (Int.le_refl _) (by omega) h2 h3
    omega
  · rw [put_len h he]
    exact Nat.zero_le _
section
variable {w0 : World} {A : Asn}
theorem tlvBack_spec {u u2 : Value} {xs : List Ee} {b : List UInt8} (rd : Rd w0 (old w0) u 3 xs.length (Fl encT66 xs)) (al : Alls (GE w0) (old w0) xs) (hk : szT (strL xs)) (hm : xs.length ≤ 2513169434843) (rd2 : Rd w0 (old w0) u2 1 b.length (B b)) (hb : b.length ≤ 140737488351232) :
    Spec Try.prog w0 13 [u, u2] (old w0) (fun v' A' => v' = .bool true ∧ Grew (old w0) A') := by
  rcases hp : putT (strL xs) with ⟨out, e⟩
  have hpf : PutF (strL xs) out e := ⟨hp⟩
  have hsm := put_small hp
  rcases hg : get b 0 0 with ⟨F, g⟩
  have hsm2 : out.length ≤ 140737488351232 := by omega
  rcases Decidable.em (g = 0) with hg0 | hg0
  · subst hg0
    have hpg : PutF F b 0 := ⟨put_get hg⟩
    rcases Decidable.em (e = 0) with he | he
    · subst he
      have hg1 := get_put hp
      refine Spec.of_run [(0, u), (1, u2)] Try.func13 rfl (Nat.le_of_ble_eq_true rfl) (by repeat (first | exact trivial | refine ⟨rfl, ?_⟩)) ?_
      refine Run.seq ?_
      refine Run.region ?_
      refine RunL.ok (OpOk.assign rfl) rfl ?_
      refine RunL.nil ?_
      refine Run.seq ?_
      refine Run.seq ?_
      refine Run.region ?_
      refine RunL.call cal27 rfl (s27) rfl (fun vx1 Ax1 hx1 => ?_)
      obtain ⟨x2, ⟨rfl, rfl⟩⟩ := hx1
      refine RunL.ok (OpOk.not rfl) rfl ?_
      refine RunL.nil ?_
      refine Run.condF rfl ?_
      refine Run.skip ?_
      refine Run.seq ?_
      refine Run.region ?_
      refine RunL.ok (OpOk.move rfl) rfl ?_
      refine RunL.call cal28 rfl (s28a rd.left al.left (by assumption) (by assumption)) rfl (fun vx3 Ax3 hx3 => ?_)
      obtain ⟨x4, ⟨x5, ⟨x6, rfl⟩⟩⟩ := hx3
      refine RunL.know (fun w s => (s.conv rfl).ownsE0) (fun alx7 => ?_)
      refine RunL.know (fun w s => (s.conv (frl rfl)).ownRd0) (fun rdx8 => ?_)
      refine RunL.call cal29 rfl (s29a (Rd.right rdx8).left (Alls.right alx7) (by assumption) (by assumption)) rfl (fun vx9 Ax9 hx9 => ?_)
      obtain ⟨x10, ⟨x11, ⟨rfl, rfl⟩⟩⟩ := hx9
      refine RunL.ok (OpOk.move rfl) rfl ?_
      refine RunL.ok (OpOk.ext20 rfl) rfl ?_
      refine RunL.ok (OpOk.ext21 rfl) rfl ?_
      refine RunL.ok (OpOk.assign rfl) rfl ?_
      refine RunL.ok (OpOk.assign rfl) rfl ?_
      refine RunL.nil ?_
      refine Run.seq ?_
      refine Run.seq ?_
      refine Run.region ?_
      refine RunL.ok (OpOk.move rfl) rfl ?_
      refine RunL.ok (OpOk.asT (OpOk.eql rfl rfl) (by omega)) rfl ?_
      refine RunL.nil ?_
      refine Run.condT rfl ?_
      refine Run.seq ?_
      refine Run.region ?_
      refine RunL.ok (OpOk.move rfl) rfl ?_
      refine RunL.know (fun w s => (s.conv rfl).ownRd0) (fun rdx12 => ?_)
      refine RunL.call cal32 rfl (s32 (Rd.right rdx12) (by assumption) (by assumption)) rfl (fun vx13 Ax13 hx13 => ?_)
      obtain ⟨x14, ⟨x15, ⟨x16, ⟨rfl, ⟨x17, rfl⟩⟩⟩⟩⟩ := hx13
      refine RunL.ok (OpOk.move rfl) rfl ?_
      refine RunL.ok (OpOk.ext20 rfl) rfl ?_
      refine RunL.ok (OpOk.ext21 rfl) rfl ?_
      refine RunL.ok (OpOk.assign rfl) rfl ?_
      refine RunL.ok (OpOk.assign rfl) rfl ?_
      refine RunL.nil ?_
      refine Run.seq ?_
      refine Run.region ?_
      refine RunL.ok (OpOk.move rfl) rfl ?_
      refine RunL.ok (OpOk.as (c := false) (OpOk.neq rfl rfl) (by rw [decide_eq_true (by omega)]; rfl)) rfl ?_
      refine RunL.ok (OpOk.move rfl) rfl ?_
      refine RunL.on rfl rfl ?_
      refine RunL.ok (OpOk.move rfl) rfl ?_
      refine RunL.on rfl rfl ?_
      refine RunL.ok (OpOk.move rfl) rfl ?_
      refine RunL.on rfl rfl ?_
      refine RunL.know (fun w s => (s.conv rfl).ownsE0) (fun alx18 => ?_)
      refine RunL.know (fun w s => (s.conv (frl rfl)).ownRd0) (fun rdx19 => ?_)
      refine RunL.call cal39 rfl (s39a (Rd.right rdx19).left (Alls.right alx18) rd.left.left.left.left.left.left.left.left.left al.left.left.left.left.left.left.left.left.left) rfl (fun vx20 Ax20 hx20 => ?_)
      obtain ⟨x21, ⟨rfl, rfl⟩⟩ := hx20
      refine RunL.on rfl rfl ?_
      refine RunL.ok (OpOk.not rfl) rfl ?_
      refine RunL.ok (OpOk.pickF rfl rfl) rfl ?_
      refine RunL.nil ?_
      refine Run.condNF rfl (by first | omega | with_reducible rfl | assumption) ?_
      refine Run.skip ?_
      refine Run.seq ?_
      refine Run.region ?_
      refine RunL.ok (OpOk.move rfl) rfl ?_
      refine RunL.call cal32 rfl (s32 rd2.left.left.left.left.left.left.left.left.left.left (by assumption) (by assumption)) rfl (fun vx22 Ax22 hx22 => ?_)
      obtain ⟨x23, ⟨x24, ⟨x25, ⟨rfl, ⟨x26, rfl⟩⟩⟩⟩⟩ := hx22
      refine RunL.ok (OpOk.move rfl) rfl ?_
      refine RunL.ok (OpOk.ext20 rfl) rfl ?_
      refine RunL.ok (OpOk.ext21 rfl) rfl ?_
      refine RunL.ok (OpOk.assign rfl) rfl ?_
      refine RunL.ok (OpOk.assign rfl) rfl ?_
      refine RunL.nil ?_
      refine Run.seq ?_
      refine Run.seq ?_
      refine Run.region ?_
      refine RunL.ok (OpOk.move rfl) rfl ?_
      refine RunL.ok (OpOk.as (c := false) (OpOk.neq rfl rfl) (by rw [decide_eq_true (by omega)]; rfl)) rfl ?_
      refine RunL.nil ?_
      refine Run.condF rfl ?_
      refine Run.skip ?_
      refine Run.seq ?_
      refine Run.region ?_
      refine RunL.ok (OpOk.move rfl) rfl ?_
      refine RunL.know (fun w s => (s.conv rfl).ownsE0) (fun alx27 => ?_)
      refine RunL.know (fun w s => (s.conv (frl rfl)).ownRd0) (fun rdx28 => ?_)
      refine RunL.call cal29 rfl (s29a (Rd.right rdx28).left (Alls.right alx27) (by assumption) (by assumption)) rfl (fun vx29 Ax29 hx29 => ?_)
      obtain ⟨x30, ⟨x31, ⟨rfl, rfl⟩⟩⟩ := hx29
      refine RunL.ok (OpOk.move rfl) rfl ?_
      refine RunL.ok (OpOk.ext20 rfl) rfl ?_
      refine RunL.ok (OpOk.ext21 rfl) rfl ?_
      refine RunL.ok (OpOk.assign rfl) rfl ?_
      refine RunL.ok (OpOk.assign rfl) rfl ?_
      refine RunL.nil ?_
      refine Run.seq ?_
      refine Run.region ?_
      refine RunL.ok (OpOk.move rfl) rfl ?_
      refine RunL.ok (OpOk.asT (OpOk.eql rfl rfl) (by omega)) rfl ?_
      refine RunL.ok (OpOk.move rfl) rfl ?_
      refine RunL.on rfl rfl ?_
      refine RunL.ok (OpOk.move rfl) rfl ?_
      refine RunL.on rfl rfl ?_
      refine RunL.know (fun w s => (s.conv rfl).ownRd0) (fun rdx32 => ?_)
      refine RunL.ok (OpOk.strOf rfl rfl rfl rfl (Rd.right rdx32)) rfl ?_
      refine RunL.on rfl rfl ?_
      refine RunL.ok (OpOk.move rfl) rfl ?_
      refine RunL.on rfl rfl ?_
      refine RunL.ok (OpOk.strOf rfl rfl rfl rfl rd2.left.left.left.left.left.left.left.left.left.left.left.left.left.left.left) rfl ?_
      refine RunL.on rfl rfl ?_
      refine RunL.ok (OpOk.eqlSS rfl rfl) rfl ?_
      refine RunL.ok (OpOk.pickT rfl rfl) rfl ?_
      refine RunL.ok (OpOk.assign rfl) rfl ?_
      refine RunL.nil ?_
      refine Run.ret1 Try.func13 rfl rfl ?_
      rw [decide_eq_true (by first | omega | with_reducible rfl | assumption)]
      exact ⟨rfl, ⟨_, (asg (asg (asg (asg (asg (asg (asg (asg (asg (asg (asg (asg (asg (asg as1))))))))))))))⟩⟩
    · refine Spec.of_run [(0, u), (1, u2)] Try.func13 rfl (Nat.le_of_ble_eq_true rfl) (by repeat (first | exact trivial | refine ⟨rfl, ?_⟩)) ?_
      refine Run.seq ?_
      refine Run.region ?_
      refine RunL.ok (OpOk.assign rfl) rfl ?_
      refine RunL.nil ?_
      refine Run.seq ?_
      refine Run.seq ?_
      refine Run.region ?_
      refine RunL.call cal27 rfl (s27) rfl (fun vx1 Ax1 hx1 => ?_)
      obtain ⟨x2, ⟨rfl, rfl⟩⟩ := hx1
      refine RunL.ok (OpOk.not rfl) rfl ?_
      refine RunL.nil ?_
      refine Run.condF rfl ?_
      refine Run.skip ?_
      refine Run.seq ?_
      refine Run.region ?_
      refine RunL.ok (OpOk.move rfl) rfl ?_
      refine RunL.call cal28 rfl (s28a rd.left al.left (by assumption) (by assumption)) rfl (fun vx3 Ax3 hx3 => ?_)
      obtain ⟨x4, ⟨x5, ⟨x6, rfl⟩⟩⟩ := hx3
      refine RunL.know (fun w s => (s.conv rfl).ownsE0) (fun alx7 => ?_)
      refine RunL.know (fun w s => (s.conv (frl rfl)).ownRd0) (fun rdx8 => ?_)
      refine RunL.call cal29 rfl (s29a (Rd.right rdx8).left (Alls.right alx7) (by assumption) (by assumption)) rfl (fun vx9 Ax9 hx9 => ?_)
      obtain ⟨x10, ⟨x11, ⟨rfl, rfl⟩⟩⟩ := hx9
      refine RunL.ok (OpOk.move rfl) rfl ?_
      refine RunL.ok (OpOk.ext20 rfl) rfl ?_
      refine RunL.ok (OpOk.ext21 rfl) rfl ?_
      refine RunL.ok (OpOk.assign rfl) rfl ?_
      refine RunL.ok (OpOk.assign rfl) rfl ?_
      refine RunL.nil ?_
      refine Run.seq ?_
      refine Run.seq ?_
      refine Run.region ?_
      refine RunL.ok (OpOk.move rfl) rfl ?_
      refine RunL.ok (OpOk.asF (OpOk.eql rfl rfl) (by omega)) rfl ?_
      refine RunL.nil ?_
      refine Run.condF rfl ?_
      refine Run.skip ?_
      refine Run.seq ?_
      refine Run.region ?_
      refine RunL.ok (OpOk.move rfl) rfl ?_
      refine RunL.call cal32 rfl (s32 rd2.left.left.left.left.left.left (by assumption) (by assumption)) rfl (fun vx12 Ax12 hx12 => ?_)
      obtain ⟨x13, ⟨x14, ⟨x15, ⟨rfl, ⟨x16, rfl⟩⟩⟩⟩⟩ := hx12
      refine RunL.ok (OpOk.move rfl) rfl ?_
      refine RunL.ok (OpOk.ext20 rfl) rfl ?_
      refine RunL.ok (OpOk.ext21 rfl) rfl ?_
      refine RunL.ok (OpOk.assign rfl) rfl ?_
      refine RunL.ok (OpOk.assign rfl) rfl ?_
      refine RunL.nil ?_
      refine Run.seq ?_
      refine Run.seq ?_
      refine Run.region ?_
      refine RunL.ok (OpOk.move rfl) rfl ?_
      refine RunL.ok (OpOk.as (c := false) (OpOk.neq rfl rfl) (by rw [decide_eq_true (by omega)]; rfl)) rfl ?_
      refine RunL.nil ?_
      refine Run.condF rfl ?_
      refine Run.skip ?_
      refine Run.seq ?_
      refine Run.region ?_
      refine RunL.ok (OpOk.move rfl) rfl ?_
      refine RunL.know (fun w s => (s.conv rfl).ownsE0) (fun alx17 => ?_)
      refine RunL.know (fun w s => (s.conv (frl rfl)).ownRd0) (fun rdx18 => ?_)
      refine RunL.call cal29 rfl (s29a (Rd.right rdx18).left (Alls.right alx17) (by assumption) (by assumption)) rfl (fun vx19 Ax19 hx19 => ?_)
      obtain ⟨x20, ⟨x21, ⟨rfl, rfl⟩⟩⟩ := hx19
      refine RunL.ok (OpOk.move rfl) rfl ?_
      refine RunL.ok (OpOk.ext20 rfl) rfl ?_
      refine RunL.ok (OpOk.ext21 rfl) rfl ?_
      refine RunL.ok (OpOk.assign rfl) rfl ?_
      refine RunL.ok (OpOk.assign rfl) rfl ?_
      refine RunL.nil ?_
      refine Run.seq ?_
      refine Run.region ?_
      refine RunL.ok (OpOk.move rfl) rfl ?_
      refine RunL.ok (OpOk.asT (OpOk.eql rfl rfl) (by omega)) rfl ?_
      refine RunL.ok (OpOk.move rfl) rfl ?_
      refine RunL.on rfl rfl ?_
      refine RunL.ok (OpOk.move rfl) rfl ?_
      refine RunL.on rfl rfl ?_
      refine RunL.know (fun w s => (s.conv rfl).ownRd0) (fun rdx22 => ?_)
      refine RunL.ok (OpOk.strOf rfl rfl rfl rfl (Rd.right rdx22)) rfl ?_
      refine RunL.on rfl rfl ?_
      refine RunL.ok (OpOk.move rfl) rfl ?_
      refine RunL.on rfl rfl ?_
      refine RunL.ok (OpOk.strOf rfl rfl rfl rfl rd2.left.left.left.left.left.left.left.left.left.left.left) rfl ?_
      refine RunL.on rfl rfl ?_
      refine RunL.ok (OpOk.eqlSS rfl rfl) rfl ?_
      refine RunL.ok (OpOk.pickT rfl rfl) rfl ?_
      refine RunL.ok (OpOk.assign rfl) rfl ?_
      refine RunL.nil ?_
      refine Run.ret1 Try.func13 rfl rfl ?_
      rw [decide_eq_true (by first | omega | with_reducible rfl | assumption)]
      exact ⟨rfl, ⟨_, (asg (asg (asg (asg (asg (asg (asg (asg (asg (asg as1))))))))))⟩⟩
  · have hF : F = .nil := by
      have := get_fst b.length b 0 0
      rw [show getT b.length b 0 0 = (F, g) from hg] at this
      exact this.resolve_left hg0
    subst hF
    rcases Decidable.em (e = 0) with he | he
    · subst he
      have hg1 := get_put hp
      refine Spec.of_run [(0, u), (1, u2)] Try.func13 rfl (Nat.le_of_ble_eq_true rfl) (by repeat (first | exact trivial | refine ⟨rfl, ?_⟩)) ?_
      refine Run.seq ?_
      refine Run.region ?_
      refine RunL.ok (OpOk.assign rfl) rfl ?_
      refine RunL.nil ?_
      refine Run.seq ?_
      refine Run.seq ?_
      refine Run.region ?_
      refine RunL.call cal27 rfl (s27) rfl (fun vx1 Ax1 hx1 => ?_)
      obtain ⟨x2, ⟨rfl, rfl⟩⟩ := hx1
      refine RunL.ok (OpOk.not rfl) rfl ?_
      refine RunL.nil ?_
      refine Run.condF rfl ?_
      refine Run.skip ?_
      refine Run.seq ?_
      refine Run.region ?_
      refine RunL.ok (OpOk.move rfl) rfl ?_
      refine RunL.call cal28 rfl (s28a rd.left al.left (by assumption) (by assumption)) rfl (fun vx3 Ax3 hx3 => ?_)
      obtain ⟨x4, ⟨x5, ⟨x6, rfl⟩⟩⟩ := hx3
      refine RunL.know (fun w s => (s.conv rfl).ownsE0) (fun alx7 => ?_)
      refine RunL.know (fun w s => (s.conv (frl rfl)).ownRd0) (fun rdx8 => ?_)
      refine RunL.call cal29 rfl (s29a (Rd.right rdx8).left (Alls.right alx7) (by assumption) (by assumption)) rfl (fun vx9 Ax9 hx9 => ?_)
      obtain ⟨x10, ⟨x11, ⟨rfl, rfl⟩⟩⟩ := hx9
      refine RunL.ok (OpOk.move rfl) rfl ?_
      refine RunL.ok (OpOk.ext20 rfl) rfl ?_
      refine RunL.ok (OpOk.ext21 rfl) rfl ?_
      refine RunL.ok (OpOk.assign rfl) rfl ?_
      refine RunL.ok (OpOk.assign rfl) rfl ?_
      refine RunL.nil ?_
      refine Run.seq ?_
      refine Run.seq ?_
      refine Run.region ?_
      refine RunL.ok (OpOk.move rfl) rfl ?_
      refine RunL.ok (OpOk.asT (OpOk.eql rfl rfl) (by omega)) rfl ?_
      refine RunL.nil ?_
      refine Run.condT rfl ?_
      refine Run.seq ?_
      refine Run.region ?_
      refine RunL.ok (OpOk.move rfl) rfl ?_
      refine RunL.know (fun w s => (s.conv rfl).ownRd0) (fun rdx12 => ?_)
      refine RunL.call cal32 rfl (s32 (Rd.right rdx12) (by assumption) (by assumption)) rfl (fun vx13 Ax13 hx13 => ?_)
      obtain ⟨x14, ⟨x15, ⟨x16, ⟨rfl, ⟨x17, rfl⟩⟩⟩⟩⟩ := hx13
      refine RunL.ok (OpOk.move rfl) rfl ?_
      refine RunL.ok (OpOk.ext20 rfl) rfl ?_
      refine RunL.ok (OpOk.ext21 rfl) rfl ?_
      refine RunL.ok (OpOk.assign rfl) rfl ?_
      refine RunL.ok (OpOk.assign rfl) rfl ?_
      refine RunL.nil ?_
      refine Run.seq ?_
      refine Run.region ?_
      refine RunL.ok (OpOk.move rfl) rfl ?_
      refine RunL.ok (OpOk.as (c := false) (OpOk.neq rfl rfl) (by rw [decide_eq_true (by omega)]; rfl)) rfl ?_
      refine RunL.ok (OpOk.move rfl) rfl ?_
      refine RunL.on rfl rfl ?_
      refine RunL.ok (OpOk.move rfl) rfl ?_
      refine RunL.on rfl rfl ?_
      refine RunL.ok (OpOk.move rfl) rfl ?_
      refine RunL.on rfl rfl ?_
      refine RunL.know (fun w s => (s.conv rfl).ownsE0) (fun alx18 => ?_)
      refine RunL.know (fun w s => (s.conv (frl rfl)).ownRd0) (fun rdx19 => ?_)
      refine RunL.call cal39 rfl (s39a (Rd.right rdx19).left (Alls.right alx18) rd.left.left.left.left.left.left.left.left.left al.left.left.left.left.left.left.left.left.left) rfl (fun vx20 Ax20 hx20 => ?_)
      obtain ⟨x21, ⟨rfl, rfl⟩⟩ := hx20
      refine RunL.on rfl rfl ?_
      refine RunL.ok (OpOk.not rfl) rfl ?_
      refine RunL.ok (OpOk.pickF rfl rfl) rfl ?_
      refine RunL.nil ?_
      refine Run.condNF rfl (by first | omega | with_reducible rfl | assumption) ?_
      refine Run.skip ?_
      refine Run.seq ?_
      refine Run.region ?_
      refine RunL.ok (OpOk.move rfl) rfl ?_
      refine RunL.call cal32 rfl (s32 rd2.left.left.left.left.left.left.left.left.left.left (by assumption) (by assumption)) rfl (fun vx22 Ax22 hx22 => ?_)
      obtain ⟨x23, ⟨x24, ⟨x25, ⟨rfl, ⟨x26, rfl⟩⟩⟩⟩⟩ := hx22
      refine RunL.ok (OpOk.move rfl) rfl ?_
      refine RunL.ok (OpOk.ext20 rfl) rfl ?_
      refine RunL.ok (OpOk.ext21 rfl) rfl ?_
      refine RunL.ok (OpOk.assign rfl) rfl ?_
      refine RunL.ok (OpOk.assign rfl) rfl ?_
      refine RunL.nil ?_
      refine Run.seq ?_
      refine Run.seq ?_
      refine Run.region ?_
      refine RunL.ok (OpOk.move rfl) rfl ?_
      refine RunL.ok (OpOk.as (c := true) (OpOk.neq rfl rfl) (by rw [decide_eq_false (by omega)]; rfl)) rfl ?_
      refine RunL.nil ?_
      refine Run.condT rfl ?_
      refine Run.seq ?_
      refine Run.region ?_
      refine RunL.ok (OpOk.move rfl) rfl ?_
      refine RunL.know (fun w s => (s.conv (frl rfl)).ownRd0) (fun rdx27 => ?_)
      refine RunL.ok (OpOk.lenR rfl rfl (Rd.right rdx27).left rfl) rfl ?_
      refine RunL.ok (OpOk.eql rfl rfl) rfl ?_
      refine RunL.ok (OpOk.assign rfl) rfl ?_
      refine RunL.nil ?_
      refine Run.ret1 Try.func13 rfl rfl ?_
      have h3 := congrArg lenT x26
      rw [lenT_strL, lenT] at h3
      refine ⟨by rw [h3]; rfl, ?_⟩
      show ∃ X, _ = old w0 * X
      repeat (first | exact grown0 | refine grown1 ?_)
    · refine Spec.of_run [(0, u), (1, u2)] Try.func13 rfl (Nat.le_of_ble_eq_true rfl) (by repeat (first | exact trivial | refine ⟨rfl, ?_⟩)) ?_
      refine Run.seq ?_
      refine Run.region ?_
      refine RunL.ok (OpOk.assign rfl) rfl ?_
      refine RunL.nil ?_
      refine Run.seq ?_
      refine Run.seq ?_
      refine Run.region ?_
      refine RunL.call cal27 rfl (s27) rfl (fun vx1 Ax1 hx1 => ?_)
      obtain ⟨x2, ⟨rfl, rfl⟩⟩ := hx1
      refine RunL.ok (OpOk.not rfl) rfl ?_
      refine RunL.nil ?_
      refine Run.condF rfl ?_
      refine Run.skip ?_
      refine Run.seq ?_
      refine Run.region ?_
      refine RunL.ok (OpOk.move rfl) rfl ?_
      refine RunL.call cal28 rfl (s28a rd.left al.left (by assumption) (by assumption)) rfl (fun vx3 Ax3 hx3 => ?_)
      obtain ⟨x4, ⟨x5, ⟨x6, rfl⟩⟩⟩ := hx3
      refine RunL.know (fun w s => (s.conv rfl).ownsE0) (fun alx7 => ?_)
      refine RunL.know (fun w s => (s.conv (frl rfl)).ownRd0) (fun rdx8 => ?_)
      refine RunL.call cal29 rfl (s29a (Rd.right rdx8).left (Alls.right alx7) (by assumption) (by assumption)) rfl (fun vx9 Ax9 hx9 => ?_)
      obtain ⟨x10, ⟨x11, ⟨rfl, rfl⟩⟩⟩ := hx9
      refine RunL.ok (OpOk.move rfl) rfl ?_
      refine RunL.ok (OpOk.ext20 rfl) rfl ?_
      refine RunL.ok (OpOk.ext21 rfl) rfl ?_
      refine RunL.ok (OpOk.assign rfl) rfl ?_
      refine RunL.ok (OpOk.assign rfl) rfl ?_
      refine RunL.nil ?_
      refine Run.seq ?_
      refine Run.seq ?_
      refine Run.region ?_
      refine RunL.ok (OpOk.move rfl) rfl ?_
      refine RunL.ok (OpOk.asF (OpOk.eql rfl rfl) (by omega)) rfl ?_
      refine RunL.nil ?_
      refine Run.condF rfl ?_
      refine Run.skip ?_
      refine Run.seq ?_
      refine Run.region ?_
      refine RunL.ok (OpOk.move rfl) rfl ?_
      refine RunL.call cal32 rfl (s32 rd2.left.left.left.left.left.left (by assumption) (by assumption)) rfl (fun vx12 Ax12 hx12 => ?_)
      obtain ⟨x13, ⟨x14, ⟨x15, ⟨rfl, ⟨x16, rfl⟩⟩⟩⟩⟩ := hx12
      refine RunL.ok (OpOk.move rfl) rfl ?_
      refine RunL.ok (OpOk.ext20 rfl) rfl ?_
      refine RunL.ok (OpOk.ext21 rfl) rfl ?_
      refine RunL.ok (OpOk.assign rfl) rfl ?_
      refine RunL.ok (OpOk.assign rfl) rfl ?_
      refine RunL.nil ?_
      refine Run.seq ?_
      refine Run.seq ?_
      refine Run.region ?_
      refine RunL.ok (OpOk.move rfl) rfl ?_
      refine RunL.ok (OpOk.as (c := true) (OpOk.neq rfl rfl) (by rw [decide_eq_false (by omega)]; rfl)) rfl ?_
      refine RunL.nil ?_
      refine Run.condT rfl ?_
      refine Run.seq ?_
      refine Run.region ?_
      refine RunL.ok (OpOk.move rfl) rfl ?_
      refine RunL.know (fun w s => (s.conv (frl rfl)).ownRd0) (fun rdx17 => ?_)
      refine RunL.ok (OpOk.lenR rfl rfl (Rd.right rdx17).left rfl) rfl ?_
      refine RunL.ok (OpOk.eql rfl rfl) rfl ?_
      refine RunL.ok (OpOk.assign rfl) rfl ?_
      refine RunL.nil ?_
      refine Run.ret1 Try.func13 rfl rfl ?_
      have h3 := congrArg lenT x16
      rw [lenT_strL, lenT] at h3
      refine ⟨by rw [h3]; rfl, ?_⟩
      show ∃ X, _ = old w0 * X
      repeat (first | exact grown0 | refine grown1 ?_)
end
end Go.Proofs.Ytlheianbmpgefaa
