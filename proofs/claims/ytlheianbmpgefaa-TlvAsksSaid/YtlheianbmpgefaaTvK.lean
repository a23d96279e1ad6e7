/- The laws TlvPuts and TlvGets, walked. -/
import Derived.Test.YtlheianbmpgefaaTvJ
namespace Go.Proofs.Ytlheianbmpgefaa
open Go Go.Proofs
set_option maxRecDepth 100000
set_option maxHeartbeats 4000000
set_option linter.unusedSimpArgs false
structure PutF (f : Te) (out : List UInt8) (e : Int) : Prop where
  h : putT f = (out, e)
section
variable {w0 : World} {A : Asn}
theorem s29a {u : Value} {m : Nat} {xs : List Ee} {g : Te} {out : List UInt8} {e : Int} (rd : Rd w0 A u 3 m (Fl encT66 xs)) (al : Alls (GE w0) A xs) (he : strL xs = g) (hp : PutF g out e) :
    Spec Try.prog w0 29 [u] A (fun v' A' => ∃ v J, v' = .tuple #[v, .int .i64 e] ∧ A' = A * J * own 5 1 v out.length (B out)) := s29 rd al (he ▸ hp.h)
theorem tlvPuts_spec {u : Value} {xs : List Ee} (rd : Rd w0 (old w0) u 3 xs.length (Fl encT66 xs)) (al : Alls (GE w0) (old w0) xs) (hk : szT (strL xs)) (hm : xs.length ≤ 2513169434843) :
    Spec Try.prog w0 8 [u] (old w0) (fun v' A' => v' = .bool true ∧ Grew (old w0) A') := by
  rcases hp : putT (strL xs) with ⟨out, e⟩
  have hpf : PutF (strL xs) out e := ⟨hp⟩
  refine Spec.of_run [(0, u)] Try.func8 rfl (Nat.le_of_ble_eq_true rfl) (by repeat (first | exact trivial | refine ⟨rfl, ?_⟩)) ?_
  refine Run.seq ?_
  refine Run.region ?_
  refine RunL.ok (OpOk.assign rfl) rfl ?_
  refine RunL.nil ?_
  refine Run.seq ?_
  refine Run.seq ?_
  refine Run.region ?_
  refine RunL.call cal27 rfl (s27) rfl (fun vx1 Ax1 hx1 => ?_)
  obtain ⟨x2, ⟨rfl, rfl⟩⟩ := hx1
  refine RunL.ok (OpOk.not rfl) rfl ?_
  refine RunL.nil ?_
  refine Run.condF rfl ?_
  refine Run.skip ?_
  refine Run.seq ?_
  refine Run.region ?_
  refine RunL.ok (OpOk.move rfl) rfl ?_
  refine RunL.call cal28 rfl (s28a rd.left al.left (by assumption) (by assumption)) rfl (fun vx3 Ax3 hx3 => ?_)
  obtain ⟨x4, ⟨x5, ⟨x6, rfl⟩⟩⟩ := hx3
  refine RunL.ok (OpOk.assign rfl) rfl ?_
  refine RunL.nil ?_
  refine Run.seq ?_
  refine Run.region ?_
  refine RunL.ok (OpOk.move rfl) rfl ?_
  refine RunL.know (fun w s => (s.conv rfl).ownsE0) (fun alx7 => ?_)
  refine RunL.know (fun w s => (s.conv (frl rfl)).ownRd0) (fun rdx8 => ?_)
  refine RunL.call cal29 rfl (s29a (Rd.right rdx8).left (Alls.right alx7) (by assumption) (by assumption)) rfl (fun vx9 Ax9 hx9 => ?_)
  obtain ⟨x10, ⟨x11, ⟨rfl, rfl⟩⟩⟩ := hx9
  refine RunL.ok (OpOk.move rfl) rfl ?_
  refine RunL.ok (OpOk.ext20 rfl) rfl ?_
  refine RunL.ok (OpOk.ext21 rfl) rfl ?_
  refine RunL.ok (OpOk.assign rfl) rfl ?_
  refine RunL.ok (OpOk.assign rfl) rfl ?_
  refine RunL.nil ?_
  refine Run.seq ?_
  refine Run.region ?_
  refine RunL.ok (OpOk.move rfl) rfl ?_
  refine RunL.call cal30 rfl (s30 rd.left.left.left.left.left.left al.left.left.left.left.left.left (by assumption)) rfl (fun vx12 Ax12 hx12 => ?_)
  obtain ⟨x13, ⟨x14, ⟨rfl, rfl⟩⟩⟩ := hx12
  refine RunL.ok (OpOk.move rfl) rfl ?_
  refine RunL.ok (OpOk.ext20 rfl) rfl ?_
  refine RunL.ok (OpOk.ext21 rfl) rfl ?_
  refine RunL.ok (OpOk.assign rfl) rfl ?_
  refine RunL.ok (OpOk.assign rfl) rfl ?_
  refine RunL.nil ?_
  refine Run.seq ?_
  refine Run.region ?_
  refine RunL.ok (OpOk.move rfl) rfl ?_
  refine RunL.know (fun w s => (s.conv (frl (frl rfl))).ownRd0) (fun rdx15 => ?_)
  refine RunL.ok (OpOk.strOf rfl rfl rfl rfl (Rd.right rdx15).left.left) rfl ?_
  refine RunL.ok (OpOk.move rfl) rfl ?_
  refine RunL.know (fun w s => (s.conv rfl).ownRd0) (fun rdx16 => ?_)
  refine RunL.ok (OpOk.strOf rfl rfl rfl rfl (Rd.right rdx16)) rfl ?_
  refine RunL.ok (OpOk.eqlSS rfl rfl) rfl ?_
  refine RunL.ok (OpOk.move rfl) rfl ?_
  refine RunL.splitDT (t := 27) rfl (by first | omega | with_reducible rfl | assumption) ?_
  refine RunL.on rfl rfl ?_
  refine RunL.ok (OpOk.move rfl) rfl ?_
  refine RunL.on rfl rfl ?_
  refine RunL.ok (OpOk.move rfl) rfl ?_
  refine RunL.on rfl rfl ?_
  refine RunL.ok (OpOk.asT (OpOk.eql rfl rfl) (by omega)) rfl ?_
  refine RunL.ok (OpOk.pickT rfl rfl) rfl ?_
  refine RunL.ok (OpOk.move rfl) rfl ?_
  refine RunL.on rfl rfl ?_
  refine RunL.ok (OpOk.move rfl) rfl ?_
  refine RunL.on rfl rfl ?_
  refine RunL.ok (OpOk.move rfl) rfl ?_
  refine RunL.on rfl rfl ?_
  refine RunL.call cal31 rfl (s31a (Rd.right rdx8).left.left.left.left.left (Alls.right alx7).left.left.left.left rd.left.left.left.left.left.left.left.left al.left.left.left.left.left.left.left.left) rfl (fun vx18 Ax18 hx18 => ?_)
  obtain ⟨x19, ⟨rfl, rfl⟩⟩ := hx18
  refine RunL.ok (OpOk.pickT rfl rfl) rfl ?_
  refine RunL.ok (OpOk.assign rfl) rfl ?_
  refine RunL.nil ?_
  refine Run.ret1 Try.func8 rfl rfl ?_
  rw [decide_eq_true (by first | omega | with_reducible rfl | assumption)]
  exact ⟨rfl, ⟨_, (asg (asg (asg (asg (asg (asg (asg (asg as1))))))))⟩⟩
theorem tlvGets_spec {u : Value} {b : List UInt8} (rd : Rd w0 (old w0) u 1 b.length (B b)) (hb : b.length ≤ 140737488351232) :
    Spec Try.prog w0 9 [u] (old w0) (fun v' A' => v' = .bool true ∧ Grew (old w0) A') := by
  rcases hg : get b 0 0 with ⟨f, e⟩
  refine Spec.of_run [(0, u)] Try.func9 rfl (Nat.le_of_ble_eq_true rfl) (by repeat (first | exact trivial | refine ⟨rfl, ?_⟩)) ?_
  refine Run.seq ?_
  refine Run.region ?_
  refine RunL.ok (OpOk.assign rfl) rfl ?_
  refine RunL.nil ?_
  refine Run.seq ?_
  refine Run.seq ?_
  refine Run.region ?_
  refine RunL.call cal27 rfl (s27) rfl (fun vx1 Ax1 hx1 => ?_)
  obtain ⟨x2, ⟨rfl, rfl⟩⟩ := hx1
  refine RunL.ok (OpOk.not rfl) rfl ?_
  refine RunL.nil ?_
  refine Run.condF rfl ?_
  refine Run.skip ?_
  refine Run.seq ?_
  refine Run.region ?_
  refine RunL.lit0B rfl ti5 rfl (fun vx3 rdx3 => ?_)
  refine RunL.ok (OpOk.move rfl) rfl ?_
  refine RunL.appendB0 rfl ti5 rfl rfl rfl rfl rd.left.left (by omega) rfl (fun vx4 rdx4 => ?_)
  refine RunL.ok (OpOk.assign rfl) rfl ?_
  refine RunL.nil ?_
  refine Run.seq ?_
  refine Run.region ?_
  refine RunL.ok (OpOk.move rfl) rfl ?_
  refine RunL.know (fun w s => (s.conv rfl).ownRd0) (fun rdx5 => ?_)
  refine RunL.call cal32 rfl (s32 (Rd.right rdx5) (by assumption) (by assumption)) rfl (fun vx6 Ax6 hx6 => ?_)
  obtain ⟨x7, ⟨x8, ⟨x9, ⟨rfl, ⟨x10, rfl⟩⟩⟩⟩⟩ := hx6
  refine RunL.ok (OpOk.move rfl) rfl ?_
  refine RunL.ok (OpOk.ext20 rfl) rfl ?_
  refine RunL.ok (OpOk.ext21 rfl) rfl ?_
  refine RunL.ok (OpOk.assign rfl) rfl ?_
  refine RunL.ok (OpOk.assign rfl) rfl ?_
  refine RunL.nil ?_
  refine Run.seq ?_
  refine Run.region ?_
  refine RunL.ok (OpOk.move rfl) rfl ?_
  refine RunL.know (fun w s => (s.conv rfl).ownsE0) (fun alx11 => ?_)
  refine RunL.call cal33 rfl (s33a rd.left.left.left.left.left (by assumption) (by assumption)) rfl (fun vx12 Ax12 hx12 => ?_)
  obtain ⟨x13, ⟨x14, ⟨x15, ⟨rfl, ⟨x16, rfl⟩⟩⟩⟩⟩ := hx12
  refine RunL.ok (OpOk.move rfl) rfl ?_
  refine RunL.ok (OpOk.ext20 rfl) rfl ?_
  refine RunL.ok (OpOk.ext21 rfl) rfl ?_
  refine RunL.ok (OpOk.assign rfl) rfl ?_
  refine RunL.ok (OpOk.assign rfl) rfl ?_
  refine RunL.nil ?_
  refine Run.seq ?_
  refine Run.seq ?_
  refine Run.region ?_
  refine RunL.ok (OpOk.move rfl) rfl ?_
  refine RunL.ok (OpOk.move rfl) rfl ?_
  refine RunL.know (fun w s => (s.conv rfl).ownsE0) (fun alx17 => ?_)
  refine RunL.know (fun w s => (s.conv (frl (frl (frl (frl rfl))))).ownRd0) (fun rdx18 => ?_)
  refine RunL.know (fun w s => (s.conv (frl rfl)).ownRd0) (fun rdx19 => ?_)
  refine RunL.call cal31 rfl (s31a (Rd.right rdx18).left.left.left.left (Alls.right alx11).left.left.left (Rd.right rdx19).left (Alls.right alx17)) rfl (fun vx20 Ax20 hx20 => ?_)
  obtain ⟨x21, ⟨rfl, rfl⟩⟩ := hx20
  refine RunL.ok (OpOk.not rfl) rfl ?_
  refine RunL.ok (OpOk.move rfl) rfl ?_
  refine RunL.splitN (t := 27) rfl (fun x22 => ?_) (fun x22 => ?_)
  · refine RunL.off rfl rfl rfl rfl ?_
    refine RunL.off rfl rfl rfl rfl ?_
    refine RunL.off rfl rfl rfl rfl ?_
    refine RunL.ok (OpOk.pickT rfl rfl) rfl ?_
    refine RunL.nil ?_
    refine Run.condT rfl ?_
    refine Run.seq ?_
    refine Run.region ?_
    refine RunL.ok (OpOk.assign rfl) rfl ?_
    refine RunL.nil ?_
    refine Run.ret1 Try.func9 rfl rfl ?_
    exact absurd (x10.trans x16.symm) x22
  refine RunL.on rfl rfl ?_
  refine RunL.ok (OpOk.move rfl) rfl ?_
  refine RunL.on rfl rfl ?_
  refine RunL.ok (OpOk.move rfl) rfl ?_
  refine RunL.on rfl rfl ?_
  refine RunL.ok (OpOk.as (c := false) (OpOk.neq rfl rfl) (by rw [decide_eq_true (by omega)]; rfl)) rfl ?_
  refine RunL.ok (OpOk.pickF rfl rfl) rfl ?_
  refine RunL.nil ?_
  refine Run.condF rfl ?_
  refine Run.skip ?_
  refine Run.seq ?_
  refine Run.region ?_
  refine RunL.ok (OpOk.move rfl) rfl ?_
  refine RunL.mem (frc (frl (frl (frl (frl rfl)))) (frc (frl (frl (frl (frl rfl)))) rfl)) ?_
  refine RunL.call cal34 rfl (s34a) rfl (fun vx23 Ax23 hx23 => ?_)
  obtain ⟨x24, rfl⟩ := hx23
  refine RunL.nil ?_
  refine Run.seq ?_
  refine Run.region ?_
  refine RunL.ok (OpOk.move rfl) rfl ?_
  refine RunL.ok (OpOk.strOf rfl rfl rfl rfl (Rd.right rdx5).left.left.left.left.left.left) rfl ?_
  refine RunL.ok (OpOk.move rfl) rfl ?_
  refine RunL.ok (OpOk.strOf rfl rfl rfl rfl rd.left.left.left.left.left.left.left.left) rfl ?_
  refine RunL.ok (OpOk.eqlSS rfl rfl) rfl ?_
  refine RunL.ok (OpOk.assign rfl) rfl ?_
  refine RunL.nil ?_
  refine Run.ret1 Try.func9 rfl rfl ?_
  rw [decide_eq_true (by first | omega | with_reducible rfl | assumption)]
  exact ⟨rfl, ⟨_, (asg (asg (asg (asg (asg (asg (asg as1)))))))⟩⟩
end
end Go.Proofs.Ytlheianbmpgefaa
