/- Part 13 of the proof of ShellFormats. -/
import Derived.Test.YteopadjihklkmaaMShellFormats12
section
namespace Go.Proofs.Yteopadjihklkmaa
open Go Go.Proofs
set_option maxRecDepth 100000
set_option maxHeartbeats 4000000
set_option linter.unusedSimpArgs false
set_option linter.unusedVariables false
abbrev fmtRows (D F : List UInt8) (a1 : Option Addr) (c1 : Nat) (a2 : Option Addr) (c2 : Nat) (a3 : Option Addr) (c3 : Nat) : List Rw := [(1, ⟨.slice a1 32 c1, rfl⟩, D), (2, ⟨.slice a2 32 c2, rfl⟩, List.replicate 32 0), (0, ⟨.slice a3 32 c3, rfl⟩, F)]
theorem B_face {a b : Nat} (ha : a ≤ 65535) (hb : b ≤ 4) : [Value.int .u8 70, Value.int .u8 66, Value.int .u8 ((a / 256 : Nat) : Int), Value.int .u8 ((a : Int) % 256), Value.int .u8 (b : Int)] = B (faceB (a : Int) (b : Int)) := by
  have e : B (faceB (a : Int) (b : Int)) = [Value.int .u8 70, Value.int .u8 66, Value.int .u8 (((UInt8.ofNat (a / 256)).toNat : Nat) : Int), Value.int .u8 (((UInt8.ofNat a).toNat : Nat) : Int), Value.int .u8 (((UInt8.ofNat b).toNat : Nat) : Int)] := rfl
  rw [e, ← u8a (n := a / 256) (by omega), ← u8b, ← u8a (n := b) (by omega)]
section
variable {w0 : World} {A : Asn} {u : Value} {m : Nat} {bs : List UInt8} {a b n : Int}
theorem s52b {k : Nat} {vs : List Value} {cs : List UInt8} {v : Value} (rd : Rd w0 A v 1 k vs) (hv : vs = B cs) (hm : k ≤ 30) : Spec Try.prog w0 52 [v] A (fun v' A' => ∃ ad2 cap2 J, v' = .slice ad2 32 cap2 ∧ A' = A * J * own 5 1 (.slice ad2 32 cap2) 32 (B (sectB cs))) := by
  subst hv
  exact s52a rd hm
theorem s54a {r v : Value} {xs : List UInt8} {rows : List Rw} {k j : Nat} {z : Int} (rd : Rd w0 A v 1 k (B xs)) (rdr : Rd w0 A r 2 j (Fl encT104 rows)) (al : Alls (GR w0) A rows) (hj : j = rows.length) (hm : k = 512) (hok : ∀ p ∈ rows, okRow (rc p)) (hn : 0 ≤ z) : Spec Try.prog w0 54 [v, r, .int .i64 z] A (fun v' A' => ∃ J, A' = A * J * own 5 1 v' 512 (B (doneF xs ((rows.map rc).take z.toNat)))) := by
  subst hj
  exact s54 rd rdr al hm hok hn
theorem formats_bad (rd : Rd w0 A u 1 m (B bs)) (hn : ¬ namedP a b) :
    Spec Try.prog w0 11 [.agg #[u, .int .i64 a, .int .i64 b, .int .i64 n]] A (fun v' A' => ∃ J, v' = .bool true ∧ A' = A * J) := by
  have hl := imgB_len bs
  have hn2 : a < 1 ∨ (¬ a < 1 ∧ 65535 < a) ∨ (¬ a < 1 ∧ ¬ 65535 < a ∧ b < 1) ∨ (¬ a < 1 ∧ ¬ 65535 < a ∧ ¬ b < 1 ∧ 4 < b) := by
    unfold namedP at hn
    omega
  refine Spec.of_run [(0, .agg #[u, .int .i64 a, .int .i64 b, .int .i64 n])] Try.func11 rfl (Nat.le_of_ble_eq_true rfl) (by repeat (first | exact trivial | refine ⟨rfl, ?_⟩)) ?_
  rcases hn2 with h1 | ⟨h1, h2⟩ | ⟨h1, h2, h3⟩ | ⟨h1, h2, h3, h4⟩
  · refine Run.seq ?_
    refine Run.region ?_
    refine RunL.box rfl rfl (fun bx1 => ?_)
    refine RunL.ok (OpOk.assign rfl) rfl ?_
    refine RunL.nil ?_
    refine Run.seq ?_
    (apply Run.drawD [] (by rfl) (sep_emp _).symm; case hchk => kernel_rfl)
    refine Sd.quiet 0 _ _ rfl rfl rfl rfl rfl (QOp.ok (fun X => OpOk.fieldAddr fld100_0 rfl)) ?_
    refine Sd.quiet 1 _ _ rfl rfl rfl rfl rfl (QOp.ok (fun X => OpOk.load rfl rfl rfl (Blk.out Blk.pts.left.left _ _ (by first | rfl | assumption)))) ?_
    refine Sd.quiet 2 _ _ rfl rfl rfl rfl rfl (QOp.ok (fun X => OpOk.fieldAddr fld100_1 rfl)) ?_
    refine Sd.quiet 3 _ _ rfl rfl rfl rfl rfl (QOp.ok (fun X => OpOk.load rfl rfl rfl (Blk.out Blk.pts.left.left _ _ (by first | rfl | assumption)))) ?_
    refine Sd.quiet 4 _ _ rfl rfl rfl rfl rfl (QOp.ok (fun X => OpOk.fieldAddr fld100_2 rfl)) ?_
    refine Sd.quiet 5 _ _ rfl rfl rfl rfl rfl (QOp.ok (fun X => OpOk.load rfl rfl rfl (Blk.out Blk.pts.left.left _ _ (by first | rfl | assumption)))) ?_
    refine Sd.quiet 6 _ _ rfl rfl rfl rfl rfl (QOp.ok (fun X => OpOk.fieldAddr fld100_3 rfl)) ?_
    refine Sd.quiet 7 _ _ rfl rfl rfl rfl rfl (QOp.ok (fun X => OpOk.load rfl rfl rfl (Blk.out Blk.pts.left.left _ _ (by first | rfl | assumption)))) ?_
    refine Sd.quiet 8 _ _ rfl rfl rfl rfl rfl (QOp.ok (fun X => OpOk.assign rfl)) ?_
    refine Sd.quiet 9 _ _ rfl rfl rfl rfl rfl (QOp.ok (fun X => OpOk.assign rfl)) ?_
    refine Sd.quiet 10 _ _ rfl rfl rfl rfl rfl (QOp.ok (fun X => OpOk.assign rfl)) ?_
    refine Sd.quiet 11 _ _ rfl rfl rfl rfl rfl (QOp.ok (fun X => OpOk.assign rfl)) ?_
    (apply Sd.tail; case hall => kernel_rfl)
    refine RunL.mem (fl2 (sep_emp _) (sep_emp _)) ?_
    refine RunL.nil ?_
    refine Run.seq ?_
    refine Run.seq ?_
    refine Run.region ?_
    refine RunL.call cal37 rfl (s37) rfl (fun vx2 Ax2 hx2 => ?_)
    obtain ⟨x3, ⟨rfl, rfl⟩⟩ := hx2
    refine RunL.ok (OpOk.not rfl) rfl ?_
    refine RunL.nil ?_
    refine Run.condF rfl ?_
    refine Run.skip ?_
    refine Run.seq ?_
    refine Run.region ?_
    refine RunL.ok (OpOk.move rfl) rfl ?_
    refine RunL.call cal38 rfl (s38 rd.left.left) rfl (fun vx4 Ax4 hx4 => ?_)
    obtain ⟨x5, ⟨x6, ⟨rfl, rfl⟩⟩⟩ := hx4
    refine RunL.ok (OpOk.assign rfl) rfl ?_
    refine RunL.nil ?_
    refine Run.seq ?_
    refine Run.seq ?_
    refine Run.region ?_
    refine RunL.ok (OpOk.move rfl) rfl ?_
    refine RunL.ok (OpOk.eqlPN rfl rfl) rfl ?_
    refine RunL.nil ?_
    refine Run.condF rfl ?_
    refine Run.skip ?_
    refine Run.seq ?_
    refine Run.region ?_
    refine RunL.ok (OpOk.move rfl) rfl ?_
    refine RunL.ok (OpOk.move rfl) rfl ?_
    refine RunL.call cal50 rfl (s50 (by assumption)) rfl (fun vx7 Ax7 hx7 => ?_)
    obtain ⟨rfl, rfl⟩ := hx7
    refine RunL.nil ?_
    refine Run.seq ?_
    refine Run.region ?_
    refine RunL.ok (OpOk.move rfl) rfl ?_
    refine RunL.ok (OpOk.move rfl) rfl ?_
    refine RunL.ok (OpOk.move rfl) rfl ?_
    refine RunL.call cal51 rfl (s51a (by assumption)) rfl (fun vx8 Ax8 hx8 => ?_)
    obtain ⟨rfl, rfl⟩ := hx8
    refine RunL.ok (OpOk.assign rfl) rfl ?_
    refine RunL.nil ?_
    refine Run.seq ?_
    refine Run.seq ?_
    refine Run.region ?_
    refine RunL.ok (OpOk.move rfl) rfl ?_
    refine RunL.ok (OpOk.asT (OpOk.lss rfl rfl) (by omega)) rfl ?_
    refine RunL.ok (OpOk.move rfl) rfl ?_
    refine RunL.off rfl rfl rfl rfl ?_
    refine RunL.off rfl rfl rfl rfl ?_
    refine RunL.ok (OpOk.pickT rfl rfl) rfl ?_
    refine RunL.ok (OpOk.move rfl) rfl ?_
    refine RunL.off rfl rfl rfl rfl ?_
    refine RunL.off rfl rfl rfl rfl ?_
    refine RunL.ok (OpOk.pickT rfl rfl) rfl ?_
    refine RunL.ok (OpOk.move rfl) rfl ?_
    refine RunL.off rfl rfl rfl rfl ?_
    refine RunL.off rfl rfl rfl rfl ?_
    refine RunL.ok (OpOk.pickT rfl rfl) rfl ?_
    refine RunL.nil ?_
    refine Run.condT rfl ?_
    refine Run.seq ?_
    refine Run.drop [2] ?_
    (apply Run.drawD [] (by rfl) (Eq.trans rfl rfl); case hchk => kernel_rfl)
    refine Sd.quiet 0 _ _ rfl rfl rfl rfl rfl (QOp.ok (fun X => OpOk.move rfl)) ?_
    refine Sd.quiet 1 _ _ rfl rfl rfl rfl rfl (QOp.ok (fun X => OpOk.asT (OpOk.eql rfl rfl) (by omega))) ?_
    refine Sd.quiet 2 _ _ rfl rfl rfl rfl rfl (QOp.ok (fun X => OpOk.move rfl)) ?_
    refine Sd.quiet 3 _ _ rfl rfl rfl rfl rfl (QOp.ok (fun X => OpOk.move rfl)) ?_
    refine Sd.quiet 6 _ _ rfl rfl rfl rfl rfl (QOp.ok (fun X => OpOk.move rfl)) ?_
    (refine Sd.exec 4 rfl rfl rfl rfl rfl ?hrest (by rfl) (fun Xx9 Kx9 hKx9 => ?_); case hrest => kernel_rfl)
    refine RunL.mem (fl2 (sep_emp _) rfl) ?_
    refine RunL.call cal49 rfl (s49 (by assumption)) rfl (fun vx10 Ax10 hx10 => ?_)
    obtain rfl := hx10
    refine RunL.know (fun w s => (s.conv rfl).ownRd0) (fun rdx11 => ?_)
    refine Sd.ret hKx9 (Eq.trans rfl (gp2 (sep_emp _).symm (asg rfl))) ⟨_, (emp_sep _).symm⟩ ?_
    refine Sd.quiet 5 _ _ rfl rfl rfl rfl rfl (QOp.ok (fun X => OpOk.strOf rfl rfl rfl rfl (Rd.right (Rd.right rdx11)).left)) ?_
    (refine Sd.exec 7 rfl rfl rfl rfl rfl ?hrest (by rfl) (fun Xx12 Kx12 hKx12 => ?_); case hrest => kernel_rfl)
    refine RunL.mem (fl2 (flS rfl) (sep_emp _)) ?_
    refine RunL.call cal41 rfl (s41 rd.left.left.left.left.left.left) rfl (fun vx13 Ax13 hx13 => ?_)
    obtain rfl := hx13
    refine RunL.know (fun w s => (s.conv rfl).ownRd0) (fun rdx14 => ?_)
    refine Sd.ret hKx12 (Eq.trans rfl (gp2 (sep_emp _).symm (asg (asg rfl)))) ⟨_, rfl⟩ ?_
    refine Sd.quiet 8 _ _ rfl rfl rfl rfl rfl (QOp.ok (fun X => OpOk.strOf rfl rfl rfl rfl (Rd.right (Rd.right rdx14)).left)) ?_
    refine Sd.quiet 9 _ _ rfl rfl rfl rfl rfl (QOp.ok (fun X => OpOk.eqlSS rfl rfl)) ?_
    refine Sd.quiet 10 _ _ rfl rfl rfl rfl rfl (QOp.ok (fun X => OpOk.pickT rfl rfl)) ?_
    refine Sd.quiet 11 _ _ rfl rfl rfl rfl rfl (QOp.ok (fun X => OpOk.assign rfl)) ?_
    (apply Sd.tail; case hall => kernel_rfl)
    refine RunL.mem (fl2 (flS (flS rfl)) (sep_emp _)) ?_
    refine RunL.nil ?_
    refine Run.ret1 Try.func11 rfl rfl ?_
    rw [decide_eq_true (by first | omega | with_reducible rfl | assumption)]
    exact ⟨_, rfl, (asg (asg (asg (asg (asg as1)))))⟩
  · refine Run.seq ?_
    refine Run.region ?_
    refine RunL.box rfl rfl (fun bx1 => ?_)
    refine RunL.ok (OpOk.assign rfl) rfl ?_
    refine RunL.nil ?_
    refine Run.seq ?_
    (apply Run.drawD [] (by rfl) (sep_emp _).symm; case hchk => kernel_rfl)
    refine Sd.quiet 0 _ _ rfl rfl rfl rfl rfl (QOp.ok (fun X => OpOk.fieldAddr fld100_0 rfl)) ?_
    refine Sd.quiet 1 _ _ rfl rfl rfl rfl rfl (QOp.ok (fun X => OpOk.load rfl rfl rfl (Blk.out Blk.pts.left.left _ _ (by first | rfl | assumption)))) ?_
    refine Sd.quiet 2 _ _ rfl rfl rfl rfl rfl (QOp.ok (fun X => OpOk.fieldAddr fld100_1 rfl)) ?_
    refine Sd.quiet 3 _ _ rfl rfl rfl rfl rfl (QOp.ok (fun X => OpOk.load rfl rfl rfl (Blk.out Blk.pts.left.left _ _ (by first | rfl | assumption)))) ?_
    refine Sd.quiet 4 _ _ rfl rfl rfl rfl rfl (QOp.ok (fun X => OpOk.fieldAddr fld100_2 rfl)) ?_
    refine Sd.quiet 5 _ _ rfl rfl rfl rfl rfl (QOp.ok (fun X => OpOk.load rfl rfl rfl (Blk.out Blk.pts.left.left _ _ (by first | rfl | assumption)))) ?_
    refine Sd.quiet 6 _ _ rfl rfl rfl rfl rfl (QOp.ok (fun X => OpOk.fieldAddr fld100_3 rfl)) ?_
    refine Sd.quiet 7 _ _ rfl rfl rfl rfl rfl (QOp.ok (fun X => OpOk.load rfl rfl rfl (Blk.out Blk.pts.left.left _ _ (by first | rfl | assumption)))) ?_
    refine Sd.quiet 8 _ _ rfl rfl rfl rfl rfl (QOp.ok (fun X => OpOk.assign rfl)) ?_
    refine Sd.quiet 9 _ _ rfl rfl rfl rfl rfl (QOp.ok (fun X => OpOk.assign rfl)) ?_
    refine Sd.quiet 10 _ _ rfl rfl rfl rfl rfl (QOp.ok (fun X => OpOk.assign rfl)) ?_
    refine Sd.quiet 11 _ _ rfl rfl rfl rfl rfl (QOp.ok (fun X => OpOk.assign rfl)) ?_
    (apply Sd.tail; case hall => kernel_rfl)
    refine RunL.mem (fl2 (sep_emp _) (sep_emp _)) ?_
    refine RunL.nil ?_
    refine Run.seq ?_
    refine Run.seq ?_
    refine Run.region ?_
    refine RunL.call cal37 rfl (s37) rfl (fun vx2 Ax2 hx2 => ?_)
    obtain ⟨x3, ⟨rfl, rfl⟩⟩ := hx2
    refine RunL.ok (OpOk.not rfl) rfl ?_
    refine RunL.nil ?_
    refine Run.condF rfl ?_
    refine Run.skip ?_
    refine Run.seq ?_
    refine Run.region ?_
    refine RunL.ok (OpOk.move rfl) rfl ?_
    refine RunL.call cal38 rfl (s38 rd.left.left) rfl (fun vx4 Ax4 hx4 => ?_)
    obtain ⟨x5, ⟨x6, ⟨rfl, rfl⟩⟩⟩ := hx4
    refine RunL.ok (OpOk.assign rfl) rfl ?_
    refine RunL.nil ?_
    refine Run.seq ?_
    refine Run.seq ?_
    refine Run.region ?_
    refine RunL.ok (OpOk.move rfl) rfl ?_
    refine RunL.ok (OpOk.eqlPN rfl rfl) rfl ?_
    refine RunL.nil ?_
    refine Run.condF rfl ?_
    refine Run.skip ?_
    refine Run.seq ?_
    refine Run.region ?_
    refine RunL.ok (OpOk.move rfl) rfl ?_
    refine RunL.ok (OpOk.move rfl) rfl ?_
    refine RunL.call cal50 rfl (s50 (by assumption)) rfl (fun vx7 Ax7 hx7 => ?_)
    obtain ⟨rfl, rfl⟩ := hx7
    refine RunL.nil ?_
    refine Run.seq ?_
    refine Run.region ?_
    refine RunL.ok (OpOk.move rfl) rfl ?_
    refine RunL.ok (OpOk.move rfl) rfl ?_
    refine RunL.ok (OpOk.move rfl) rfl ?_
    refine RunL.call cal51 rfl (s51a (by assumption)) rfl (fun vx8 Ax8 hx8 => ?_)
    obtain ⟨rfl, rfl⟩ := hx8
    refine RunL.ok (OpOk.assign rfl) rfl ?_
    refine RunL.nil ?_
    refine Run.seq ?_
    refine Run.seq ?_
    refine Run.region ?_
    refine RunL.ok (OpOk.move rfl) rfl ?_
    refine RunL.ok (OpOk.asF (OpOk.lss rfl rfl) (by omega)) rfl ?_
    refine RunL.ok (OpOk.move rfl) rfl ?_
    refine RunL.on rfl rfl ?_
    refine RunL.ok (OpOk.move rfl) rfl ?_
    refine RunL.on rfl rfl ?_
    refine RunL.ok (OpOk.asT (OpOk.gtr rfl rfl) (by omega)) rfl ?_
    refine RunL.ok (OpOk.pickF rfl rfl) rfl ?_
    refine RunL.ok (OpOk.move rfl) rfl ?_
    refine RunL.off rfl rfl rfl rfl ?_
    refine RunL.off rfl rfl rfl rfl ?_
    refine RunL.ok (OpOk.pickT rfl rfl) rfl ?_
    refine RunL.ok (OpOk.move rfl) rfl ?_
    refine RunL.off rfl rfl rfl rfl ?_
    refine RunL.off rfl rfl rfl rfl ?_
    refine RunL.ok (OpOk.pickT rfl rfl) rfl ?_
    refine RunL.nil ?_
    refine Run.condT rfl ?_
    refine Run.seq ?_
    refine Run.drop [2] ?_
    (apply Run.drawD [] (by rfl) (Eq.trans rfl rfl); case hchk => kernel_rfl)
    refine Sd.quiet 0 _ _ rfl rfl rfl rfl rfl (QOp.ok (fun X => OpOk.move rfl)) ?_
    refine Sd.quiet 1 _ _ rfl rfl rfl rfl rfl (QOp.ok (fun X => OpOk.asT (OpOk.eql rfl rfl) (by omega))) ?_
    refine Sd.quiet 2 _ _ rfl rfl rfl rfl rfl (QOp.ok (fun X => OpOk.move rfl)) ?_
    refine Sd.quiet 3 _ _ rfl rfl rfl rfl rfl (QOp.ok (fun X => OpOk.move rfl)) ?_
    refine Sd.quiet 6 _ _ rfl rfl rfl rfl rfl (QOp.ok (fun X => OpOk.move rfl)) ?_
    (refine Sd.exec 4 rfl rfl rfl rfl rfl ?hrest (by rfl) (fun Xx9 Kx9 hKx9 => ?_); case hrest => kernel_rfl)
    refine RunL.mem (fl2 (sep_emp _) rfl) ?_
    refine RunL.call cal49 rfl (s49 (by assumption)) rfl (fun vx10 Ax10 hx10 => ?_)
    obtain rfl := hx10
    refine RunL.know (fun w s => (s.conv rfl).ownRd0) (fun rdx11 => ?_)
    refine Sd.ret hKx9 (Eq.trans rfl (gp2 (sep_emp _).symm (asg rfl))) ⟨_, (emp_sep _).symm⟩ ?_
    refine Sd.quiet 5 _ _ rfl rfl rfl rfl rfl (QOp.ok (fun X => OpOk.strOf rfl rfl rfl rfl (Rd.right (Rd.right rdx11)).left)) ?_
    (refine Sd.exec 7 rfl rfl rfl rfl rfl ?hrest (by rfl) (fun Xx12 Kx12 hKx12 => ?_); case hrest => kernel_rfl)
    refine RunL.mem (fl2 (flS rfl) (sep_emp _)) ?_
    refine RunL.call cal41 rfl (s41 rd.left.left.left.left.left.left) rfl (fun vx13 Ax13 hx13 => ?_)
    obtain rfl := hx13
    refine RunL.know (fun w s => (s.conv rfl).ownRd0) (fun rdx14 => ?_)
    refine Sd.ret hKx12 (Eq.trans rfl (gp2 (sep_emp _).symm (asg (asg rfl)))) ⟨_, rfl⟩ ?_
    refine Sd.quiet 8 _ _ rfl rfl rfl rfl rfl (QOp.ok (fun X => OpOk.strOf rfl rfl rfl rfl (Rd.right (Rd.right rdx14)).left)) ?_
    refine Sd.quiet 9 _ _ rfl rfl rfl rfl rfl (QOp.ok (fun X => OpOk.eqlSS rfl rfl)) ?_
    refine Sd.quiet 10 _ _ rfl rfl rfl rfl rfl (QOp.ok (fun X => OpOk.pickT rfl rfl)) ?_
    refine Sd.quiet 11 _ _ rfl rfl rfl rfl rfl (QOp.ok (fun X => OpOk.assign rfl)) ?_
    (apply Sd.tail; case hall => kernel_rfl)
    refine RunL.mem (fl2 (flS (flS rfl)) (sep_emp _)) ?_
    refine RunL.nil ?_
    refine Run.ret1 Try.func11 rfl rfl ?_
    rw [decide_eq_true (by first | omega | with_reducible rfl | assumption)]
    exact ⟨_, rfl, (asg (asg (asg (asg (asg as1)))))⟩
  · refine Run.seq ?_
    refine Run.region ?_
    refine RunL.box rfl rfl (fun bx1 => ?_)
    refine RunL.ok (OpOk.assign rfl) rfl ?_
    refine RunL.nil ?_
    refine Run.seq ?_
    (apply Run.drawD [] (by rfl) (sep_emp _).symm; case hchk => kernel_rfl)
    refine Sd.quiet 0 _ _ rfl rfl rfl rfl rfl (QOp.ok (fun X => OpOk.fieldAddr fld100_0 rfl)) ?_
    refine Sd.quiet 1 _ _ rfl rfl rfl rfl rfl (QOp.ok (fun X => OpOk.load rfl rfl rfl (Blk.out Blk.pts.left.left _ _ (by first | rfl | assumption)))) ?_
    refine Sd.quiet 2 _ _ rfl rfl rfl rfl rfl (QOp.ok (fun X => OpOk.fieldAddr fld100_1 rfl)) ?_
    refine Sd.quiet 3 _ _ rfl rfl rfl rfl rfl (QOp.ok (fun X => OpOk.load rfl rfl rfl (Blk.out Blk.pts.left.left _ _ (by first | rfl | assumption)))) ?_
    refine Sd.quiet 4 _ _ rfl rfl rfl rfl rfl (QOp.ok (fun X => OpOk.fieldAddr fld100_2 rfl)) ?_
    refine Sd.quiet 5 _ _ rfl rfl rfl rfl rfl (QOp.ok (fun X => OpOk.load rfl rfl rfl (Blk.out Blk.pts.left.left _ _ (by first | rfl | assumption)))) ?_
    refine Sd.quiet 6 _ _ rfl rfl rfl rfl rfl (QOp.ok (fun X => OpOk.fieldAddr fld100_3 rfl)) ?_
    refine Sd.quiet 7 _ _ rfl rfl rfl rfl rfl (QOp.ok (fun X => OpOk.load rfl rfl rfl (Blk.out Blk.pts.left.left _ _ (by first | rfl | assumption)))) ?_
    refine Sd.quiet 8 _ _ rfl rfl rfl rfl rfl (QOp.ok (fun X => OpOk.assign rfl)) ?_
    refine Sd.quiet 9 _ _ rfl rfl rfl rfl rfl (QOp.ok (fun X => OpOk.assign rfl)) ?_
    refine Sd.quiet 10 _ _ rfl rfl rfl rfl rfl (QOp.ok (fun X => OpOk.assign rfl)) ?_
    refine Sd.quiet 11 _ _ rfl rfl rfl rfl rfl (QOp.ok (fun X => OpOk.assign rfl)) ?_
    (apply Sd.tail; case hall => kernel_rfl)
    refine RunL.mem (fl2 (sep_emp _) (sep_emp _)) ?_
    refine RunL.nil ?_
    refine Run.seq ?_
    refine Run.seq ?_
    refine Run.region ?_
    refine RunL.call cal37 rfl (s37) rfl (fun vx2 Ax2 hx2 => ?_)
    obtain ⟨x3, ⟨rfl, rfl⟩⟩ := hx2
    refine RunL.ok (OpOk.not rfl) rfl ?_
    refine RunL.nil ?_
    refine Run.condF rfl ?_
    refine Run.skip ?_
    refine Run.seq ?_
    refine Run.region ?_
    refine RunL.ok (OpOk.move rfl) rfl ?_
    refine RunL.call cal38 rfl (s38 rd.left.left) rfl (fun vx4 Ax4 hx4 => ?_)
    obtain ⟨x5, ⟨x6, ⟨rfl, rfl⟩⟩⟩ := hx4
    refine RunL.ok (OpOk.assign rfl) rfl ?_
    refine RunL.nil ?_
    refine Run.seq ?_
    refine Run.seq ?_
    refine Run.region ?_
    refine RunL.ok (OpOk.move rfl) rfl ?_
    refine RunL.ok (OpOk.eqlPN rfl rfl) rfl ?_
    refine RunL.nil ?_
    refine Run.condF rfl ?_
    refine Run.skip ?_
    refine Run.seq ?_
    refine Run.region ?_
    refine RunL.ok (OpOk.move rfl) rfl ?_
    refine RunL.ok (OpOk.move rfl) rfl ?_
    refine RunL.call cal50 rfl (s50 (by assumption)) rfl (fun vx7 Ax7 hx7 => ?_)
    obtain ⟨rfl, rfl⟩ := hx7
    refine RunL.nil ?_
    refine Run.seq ?_
    refine Run.region ?_
    refine RunL.ok (OpOk.move rfl) rfl ?_
    refine RunL.ok (OpOk.move rfl) rfl ?_
    refine RunL.ok (OpOk.move rfl) rfl ?_
    refine RunL.call cal51 rfl (s51a (by assumption)) rfl (fun vx8 Ax8 hx8 => ?_)
    obtain ⟨rfl, rfl⟩ := hx8
    refine RunL.ok (OpOk.assign rfl) rfl ?_
    refine RunL.nil ?_
    refine Run.seq ?_
    refine Run.seq ?_
    refine Run.region ?_
    refine RunL.ok (OpOk.move rfl) rfl ?_
    refine RunL.ok (OpOk.asF (OpOk.lss rfl rfl) (by omega)) rfl ?_
    refine RunL.ok (OpOk.move rfl) rfl ?_
    refine RunL.on rfl rfl ?_
    refine RunL.ok (OpOk.move rfl) rfl ?_
    refine RunL.on rfl rfl ?_
    refine RunL.ok (OpOk.asF (OpOk.gtr rfl rfl) (by omega)) rfl ?_
    refine RunL.ok (OpOk.pickF rfl rfl) rfl ?_
    refine RunL.ok (OpOk.move rfl) rfl ?_
    refine RunL.on rfl rfl ?_
    refine RunL.ok (OpOk.move rfl) rfl ?_
    refine RunL.on rfl rfl ?_
    refine RunL.ok (OpOk.asT (OpOk.lss rfl rfl) (by omega)) rfl ?_
    refine RunL.ok (OpOk.pickF rfl rfl) rfl ?_
    refine RunL.ok (OpOk.move rfl) rfl ?_
    refine RunL.off rfl rfl rfl rfl ?_
    refine RunL.off rfl rfl rfl rfl ?_
    refine RunL.ok (OpOk.pickT rfl rfl) rfl ?_
    refine RunL.nil ?_
    refine Run.condT rfl ?_
    refine Run.seq ?_
    refine Run.drop [2] ?_
    (apply Run.drawD [] (by rfl) (Eq.trans rfl rfl); case hchk => kernel_rfl)
    refine Sd.quiet 0 _ _ rfl rfl rfl rfl rfl (QOp.ok (fun X => OpOk.move rfl)) ?_
    refine Sd.quiet 1 _ _ rfl rfl rfl rfl rfl (QOp.ok (fun X => OpOk.asT (OpOk.eql rfl rfl) (by omega))) ?_
    refine Sd.quiet 2 _ _ rfl rfl rfl rfl rfl (QOp.ok (fun X => OpOk.move rfl)) ?_
    refine Sd.quiet 3 _ _ rfl rfl rfl rfl rfl (QOp.ok (fun X => OpOk.move rfl)) ?_
    refine Sd.quiet 6 _ _ rfl rfl rfl rfl rfl (QOp.ok (fun X => OpOk.move rfl)) ?_
    (refine Sd.exec 4 rfl rfl rfl rfl rfl ?hrest (by rfl) (fun Xx9 Kx9 hKx9 => ?_); case hrest => kernel_rfl)
    refine RunL.mem (fl2 (sep_emp _) rfl) ?_
    refine RunL.call cal49 rfl (s49 (by assumption)) rfl (fun vx10 Ax10 hx10 => ?_)
    obtain rfl := hx10
    refine RunL.know (fun w s => (s.conv rfl).ownRd0) (fun rdx11 => ?_)
    refine Sd.ret hKx9 (Eq.trans rfl (gp2 (sep_emp _).symm (asg rfl))) ⟨_, (emp_sep _).symm⟩ ?_
    refine Sd.quiet 5 _ _ rfl rfl rfl rfl rfl (QOp.ok (fun X => OpOk.strOf rfl rfl rfl rfl (Rd.right (Rd.right rdx11)).left)) ?_
    (refine Sd.exec 7 rfl rfl rfl rfl rfl ?hrest (by rfl) (fun Xx12 Kx12 hKx12 => ?_); case hrest => kernel_rfl)
    refine RunL.mem (fl2 (flS rfl) (sep_emp _)) ?_
    refine RunL.call cal41 rfl (s41 rd.left.left.left.left.left.left) rfl (fun vx13 Ax13 hx13 => ?_)
    obtain rfl := hx13
    refine RunL.know (fun w s => (s.conv rfl).ownRd0) (fun rdx14 => ?_)
    refine Sd.ret hKx12 (Eq.trans rfl (gp2 (sep_emp _).symm (asg (asg rfl)))) ⟨_, rfl⟩ ?_
    refine Sd.quiet 8 _ _ rfl rfl rfl rfl rfl (QOp.ok (fun X => OpOk.strOf rfl rfl rfl rfl (Rd.right (Rd.right rdx14)).left)) ?_
    refine Sd.quiet 9 _ _ rfl rfl rfl rfl rfl (QOp.ok (fun X => OpOk.eqlSS rfl rfl)) ?_
    refine Sd.quiet 10 _ _ rfl rfl rfl rfl rfl (QOp.ok (fun X => OpOk.pickT rfl rfl)) ?_
    refine Sd.quiet 11 _ _ rfl rfl rfl rfl rfl (QOp.ok (fun X => OpOk.assign rfl)) ?_
    (apply Sd.tail; case hall => kernel_rfl)
    refine RunL.mem (fl2 (flS (flS rfl)) (sep_emp _)) ?_
    refine RunL.nil ?_
    refine Run.ret1 Try.func11 rfl rfl ?_
    rw [decide_eq_true (by first | omega | with_reducible rfl | assumption)]
    exact ⟨_, rfl, (asg (asg (asg (asg (asg as1)))))⟩
  · refine Run.seq ?_
    refine Run.region ?_
    refine RunL.box rfl rfl (fun bx1 => ?_)
    refine RunL.ok (OpOk.assign rfl) rfl ?_
    refine RunL.nil ?_
    refine Run.seq ?_
    (apply Run.drawD [] (by rfl) (sep_emp _).symm; case hchk => kernel_rfl)
    refine Sd.quiet 0 _ _ rfl rfl rfl rfl rfl (QOp.ok (fun X => OpOk.fieldAddr fld100_0 rfl)) ?_
    refine Sd.quiet 1 _ _ rfl rfl rfl rfl rfl (QOp.ok (fun X => OpOk.load rfl rfl rfl (Blk.out Blk.pts.left.left _ _ (by first | rfl | assumption)))) ?_
    refine Sd.quiet 2 _ _ rfl rfl rfl rfl rfl (QOp.ok (fun X => OpOk.fieldAddr fld100_1 rfl)) ?_
    refine Sd.quiet 3 _ _ rfl rfl rfl rfl rfl (QOp.ok (fun X => OpOk.load rfl rfl rfl (Blk.out Blk.pts.left.left _ _ (by first | rfl | assumption)))) ?_
    refine Sd.quiet 4 _ _ rfl rfl rfl rfl rfl (QOp.ok (fun X => OpOk.fieldAddr fld100_2 rfl)) ?_
    refine Sd.quiet 5 _ _ rfl rfl rfl rfl rfl (QOp.ok (fun X => OpOk.load rfl rfl rfl (Blk.out Blk.pts.left.left _ _ (by first | rfl | assumption)))) ?_
    refine Sd.quiet 6 _ _ rfl rfl rfl rfl rfl (QOp.ok (fun X => OpOk.fieldAddr fld100_3 rfl)) ?_
    refine Sd.quiet 7 _ _ rfl rfl rfl rfl rfl (QOp.ok (fun X => OpOk.load rfl rfl rfl (Blk.out Blk.pts.left.left _ _ (by first | rfl | assumption)))) ?_
    refine Sd.quiet 8 _ _ rfl rfl rfl rfl rfl (QOp.ok (fun X => OpOk.assign rfl)) ?_
    refine Sd.quiet 9 _ _ rfl rfl rfl rfl rfl (QOp.ok (fun X => OpOk.assign rfl)) ?_
    refine Sd.quiet 10 _ _ rfl rfl rfl rfl rfl (QOp.ok (fun X => OpOk.assign rfl)) ?_
    refine Sd.quiet 11 _ _ rfl rfl rfl rfl rfl (QOp.ok (fun X => OpOk.assign rfl)) ?_
    (apply Sd.tail; case hall => kernel_rfl)
    refine RunL.mem (fl2 (sep_emp _) (sep_emp _)) ?_
    refine RunL.nil ?_
    refine Run.seq ?_
    refine Run.seq ?_
    refine Run.region ?_
    refine RunL.call cal37 rfl (s37) rfl (fun vx2 Ax2 hx2 => ?_)
    obtain ⟨x3, ⟨rfl, rfl⟩⟩ := hx2
    refine RunL.ok (OpOk.not rfl) rfl ?_
    refine RunL.nil ?_
    refine Run.condF rfl ?_
    refine Run.skip ?_
    refine Run.seq ?_
    refine Run.region ?_
    refine RunL.ok (OpOk.move rfl) rfl ?_
    refine RunL.call cal38 rfl (s38 rd.left.left) rfl (fun vx4 Ax4 hx4 => ?_)
    obtain ⟨x5, ⟨x6, ⟨rfl, rfl⟩⟩⟩ := hx4
    refine RunL.ok (OpOk.assign rfl) rfl ?_
    refine RunL.nil ?_
    refine Run.seq ?_
    refine Run.seq ?_
    refine Run.region ?_
    refine RunL.ok (OpOk.move rfl) rfl ?_
    refine RunL.ok (OpOk.eqlPN rfl rfl) rfl ?_
    refine RunL.nil ?_
    refine Run.condF rfl ?_
    refine Run.skip ?_
    refine Run.seq ?_
    refine Run.region ?_
    refine RunL.ok (OpOk.move rfl) rfl ?_
    refine RunL.ok (OpOk.move rfl) rfl ?_
    refine RunL.call cal50 rfl (s50 (by assumption)) rfl (fun vx7 Ax7 hx7 => ?_)
    obtain ⟨rfl, rfl⟩ := hx7
    refine RunL.nil ?_
    refine Run.seq ?_
    refine Run.region ?_
    refine RunL.ok (OpOk.move rfl) rfl ?_
    refine RunL.ok (OpOk.move rfl) rfl ?_
    refine RunL.ok (OpOk.move rfl) rfl ?_
    refine RunL.call cal51 rfl (s51a (by assumption)) rfl (fun vx8 Ax8 hx8 => ?_)
    obtain ⟨rfl, rfl⟩ := hx8
    refine RunL.ok (OpOk.assign rfl) rfl ?_
    refine RunL.nil ?_
    refine Run.seq ?_
    refine Run.seq ?_
    refine Run.region ?_
    refine RunL.ok (OpOk.move rfl) rfl ?_
    refine RunL.ok (OpOk.asF (OpOk.lss rfl rfl) (by omega)) rfl ?_
    refine RunL.ok (OpOk.move rfl) rfl ?_
    refine RunL.on rfl rfl ?_
    refine RunL.ok (OpOk.move rfl) rfl ?_
    refine RunL.on rfl rfl ?_
    refine RunL.ok (OpOk.asF (OpOk.gtr rfl rfl) (by omega)) rfl ?_
    refine RunL.ok (OpOk.pickF rfl rfl) rfl ?_
    refine RunL.ok (OpOk.move rfl) rfl ?_
    refine RunL.on rfl rfl ?_
    refine RunL.ok (OpOk.move rfl) rfl ?_
    refine RunL.on rfl rfl ?_
    refine RunL.ok (OpOk.asF (OpOk.lss rfl rfl) (by omega)) rfl ?_
    refine RunL.ok (OpOk.pickF rfl rfl) rfl ?_
    refine RunL.ok (OpOk.move rfl) rfl ?_
    refine RunL.on rfl rfl ?_
    refine RunL.ok (OpOk.move rfl) rfl ?_
    refine RunL.on rfl rfl ?_
    refine RunL.ok (OpOk.asT (OpOk.gtr rfl rfl) (by omega)) rfl ?_
    refine RunL.ok (OpOk.pickF rfl rfl) rfl ?_
    refine RunL.nil ?_
    refine Run.condT rfl ?_
    refine Run.seq ?_
    refine Run.drop [2] ?_
    (apply Run.drawD [] (by rfl) (Eq.trans rfl rfl); case hchk => kernel_rfl)
    refine Sd.quiet 0 _ _ rfl rfl rfl rfl rfl (QOp.ok (fun X => OpOk.move rfl)) ?_
    refine Sd.quiet 1 _ _ rfl rfl rfl rfl rfl (QOp.ok (fun X => OpOk.asT (OpOk.eql rfl rfl) (by omega))) ?_
    refine Sd.quiet 2 _ _ rfl rfl rfl rfl rfl (QOp.ok (fun X => OpOk.move rfl)) ?_
    refine Sd.quiet 3 _ _ rfl rfl rfl rfl rfl (QOp.ok (fun X => OpOk.move rfl)) ?_
    refine Sd.quiet 6 _ _ rfl rfl rfl rfl rfl (QOp.ok (fun X => OpOk.move rfl)) ?_
    (refine Sd.exec 4 rfl rfl rfl rfl rfl ?hrest (by rfl) (fun Xx9 Kx9 hKx9 => ?_); case hrest => kernel_rfl)
    refine RunL.mem (fl2 (sep_emp _) rfl) ?_
    refine RunL.call cal49 rfl (s49 (by assumption)) rfl (fun vx10 Ax10 hx10 => ?_)
    obtain rfl := hx10
    refine RunL.know (fun w s => (s.conv rfl).ownRd0) (fun rdx11 => ?_)
    refine Sd.ret hKx9 (Eq.trans rfl (gp2 (sep_emp _).symm (asg rfl))) ⟨_, (emp_sep _).symm⟩ ?_
    refine Sd.quiet 5 _ _ rfl rfl rfl rfl rfl (QOp.ok (fun X => OpOk.strOf rfl rfl rfl rfl (Rd.right (Rd.right rdx11)).left)) ?_
    (refine Sd.exec 7 rfl rfl rfl rfl rfl ?hrest (by rfl) (fun Xx12 Kx12 hKx12 => ?_); case hrest => kernel_rfl)
    refine RunL.mem (fl2 (flS rfl) (sep_emp _)) ?_
    refine RunL.call cal41 rfl (s41 rd.left.left.left.left.left.left) rfl (fun vx13 Ax13 hx13 => ?_)
    obtain rfl := hx13
    refine RunL.know (fun w s => (s.conv rfl).ownRd0) (fun rdx14 => ?_)
    refine Sd.ret hKx12 (Eq.trans rfl (gp2 (sep_emp _).symm (asg (asg rfl)))) ⟨_, rfl⟩ ?_
    refine Sd.quiet 8 _ _ rfl rfl rfl rfl rfl (QOp.ok (fun X => OpOk.strOf rfl rfl rfl rfl (Rd.right (Rd.right rdx14)).left)) ?_
    refine Sd.quiet 9 _ _ rfl rfl rfl rfl rfl (QOp.ok (fun X => OpOk.eqlSS rfl rfl)) ?_
    refine Sd.quiet 10 _ _ rfl rfl rfl rfl rfl (QOp.ok (fun X => OpOk.pickT rfl rfl)) ?_
    refine Sd.quiet 11 _ _ rfl rfl rfl rfl rfl (QOp.ok (fun X => OpOk.assign rfl)) ?_
    (apply Sd.tail; case hall => kernel_rfl)
    refine RunL.mem (fl2 (flS (flS rfl)) (sep_emp _)) ?_
    refine RunL.nil ?_
    refine Run.ret1 Try.func11 rfl rfl ?_
    rw [decide_eq_true (by first | omega | with_reducible rfl | assumption)]
    exact ⟨_, rfl, (asg (asg (asg (asg (asg as1)))))⟩
theorem formats_full (rd : Rd w0 A u 1 m (B bs)) (hn : namedP a b) (h3 : 3 ≤ n) (hnm : n ≤ 9223372036854775807) :
    Spec Try.prog w0 11 [.agg #[u, .int .i64 a, .int .i64 b, .int .i64 n]] A (fun v' A' => ∃ J, v' = .bool true ∧ A' = A * J) := by
  have hl := imgB_len bs
  have hn2 := hn
  obtain ⟨n1, n2, n3, n4⟩ := hn2
  have rdn : Rd w0 A (.slice none 0 0) 4 0 (Fl encT111 ([] : List En)) := Rd.nil 4
  have hes : ∀ e ∈ ([] : List En), okE e := fun e h => by cases h
  obtain ⟨a, rfl⟩ := Int.eq_ofNat_of_zero_le (by omega : 0 ≤ a)
  obtain ⟨b, rfl⟩ := Int.eq_ofNat_of_zero_le (by omega : 0 ≤ b)
  have hface := B_face (a := a) (b := b) (by omega) (by omega)
  have hfl : (faceB (a : Int) (b : Int)).length = 5 := rfl
  have hfl2 := face_len (a : Int) (b : Int)
  have hyl := fmt2_len hl
  have hdl := d0_len
  obtain ⟨hS, hc, hi⟩ := fmt_says (xs := imgB bs) hl (a := (a : Int)) (b := (b : Int)) hn
  obtain ⟨zs, hzs⟩ : ∃ zs, fmtF (imgB bs) (a : Int) (b : Int) = zs := ⟨_, rfl⟩
  rw [hzs] at hS hc hi
  have rw_c := hc
  have rw_i := hi
  have hzl := hS.len
  have hzd : zs = doneF (imgB bs) [(1, sectB (listB 1 [])), (2, List.replicate 32 0), (0, sectB (faceB (a : Int) (b : Int)))] := hzs.symm
  have hmn : max n (-1) = n := by omega
  have hw : max n (-1) ≤ 9223372036854775807 := by omega
  have hW : Wrote (imgB bs) (max n (-1)) 1 [sectB (listB 1 []), List.replicate 32 0] (fmt2 (imgB bs)) (n - 2) 0 := ⟨by
    rw [hmn, wroteF, if_neg (by omega), if_pos (by omega), wroteF, if_neg (by omega), if_pos (by omega), wroteF, show n - 1 - 1 = n - 2 by omega]
    rfl⟩
  have hW2 : Wrote (fmt2 (imgB bs)) (n - 2) 0 [sectB (faceB (a : Int) (b : Int))] zs (n - 3) 0 := ⟨by
    rw [wroteF, if_neg (by omega), if_pos (by omega), wroteF, ← hzs, show n - 2 - 1 = n - 3 by omega]
    rfl⟩
  have hw2 : n - 2 ≤ 9223372036854775807 := by omega
  refine Spec.of_run [(0, .agg #[u, .int .i64 (a : Int), .int .i64 (b : Int), .int .i64 n])] Try.func11 rfl (Nat.le_of_ble_eq_true rfl) (by repeat (first | exact trivial | refine ⟨rfl, ?_⟩)) ?_
  refine Run.seq ?_
  refine Run.region ?_
  refine RunL.box rfl rfl (fun bx1 => ?_)
  refine RunL.ok (OpOk.assign rfl) rfl ?_
  refine RunL.nil ?_
  refine Run.seq ?_
  (apply Run.drawD [] (by rfl) (sep_emp _).symm; case hchk => kernel_rfl)
  refine Sd.quiet 0 _ _ rfl rfl rfl rfl rfl (QOp.ok (fun X => OpOk.fieldAddr fld100_0 rfl)) ?_
  refine Sd.quiet 1 _ _ rfl rfl rfl rfl rfl (QOp.ok (fun X => OpOk.load rfl rfl rfl (Blk.out Blk.pts.left.left _ _ (by first | rfl | assumption)))) ?_
  refine Sd.quiet 2 _ _ rfl rfl rfl rfl rfl (QOp.ok (fun X => OpOk.fieldAddr fld100_1 rfl)) ?_
  refine Sd.quiet 3 _ _ rfl rfl rfl rfl rfl (QOp.ok (fun X => OpOk.load rfl rfl rfl (Blk.out Blk.pts.left.left _ _ (by first | rfl | assumption)))) ?_
  refine Sd.quiet 4 _ _ rfl rfl rfl rfl rfl (QOp.ok (fun X => OpOk.fieldAddr fld100_2 rfl)) ?_
  refine Sd.quiet 5 _ _ rfl rfl rfl rfl rfl (QOp.ok (fun X => OpOk.load rfl rfl rfl (Blk.out Blk.pts.left.left _ _ (by first | rfl | assumption)))) ?_
  refine Sd.quiet 6 _ _ rfl rfl rfl rfl rfl (QOp.ok (fun X => OpOk.fieldAddr fld100_3 rfl)) ?_
  refine Sd.quiet 7 _ _ rfl rfl rfl rfl rfl (QOp.ok (fun X => OpOk.load rfl rfl rfl (Blk.out Blk.pts.left.left _ _ (by first | rfl | assumption)))) ?_
  refine Sd.quiet 8 _ _ rfl rfl rfl rfl rfl (QOp.ok (fun X => OpOk.assign rfl)) ?_
  refine Sd.quiet 9 _ _ rfl rfl rfl rfl rfl (QOp.ok (fun X => OpOk.assign rfl)) ?_
  refine Sd.quiet 10 _ _ rfl rfl rfl rfl rfl (QOp.ok (fun X => OpOk.assign rfl)) ?_
  refine Sd.quiet 11 _ _ rfl rfl rfl rfl rfl (QOp.ok (fun X => OpOk.assign rfl)) ?_
  (apply Sd.tail; case hall => kernel_rfl)
  refine RunL.mem (fl2 (sep_emp _) (sep_emp _)) ?_
  refine RunL.nil ?_
  refine Run.seq ?_
  refine Run.seq ?_
  refine Run.region ?_
  refine RunL.call cal37 rfl (s37) rfl (fun vx2 Ax2 hx2 => ?_)
  obtain ⟨x3, ⟨rfl, rfl⟩⟩ := hx2
  refine RunL.ok (OpOk.not rfl) rfl ?_
  refine RunL.nil ?_
  refine Run.condF rfl ?_
  refine Run.skip ?_
  refine Run.seq ?_
  refine Run.region ?_
  refine RunL.ok (OpOk.move rfl) rfl ?_
  refine RunL.call cal38 rfl (s38 rd.left.left) rfl (fun vx4 Ax4 hx4 => ?_)
  obtain ⟨x5, ⟨x6, ⟨rfl, rfl⟩⟩⟩ := hx4
  refine RunL.ok (OpOk.assign rfl) rfl ?_
  refine RunL.nil ?_
  refine Run.seq ?_
  refine Run.seq ?_
  refine Run.region ?_
  refine RunL.ok (OpOk.move rfl) rfl ?_
  refine RunL.ok (OpOk.eqlPN rfl rfl) rfl ?_
  refine RunL.nil ?_
  refine Run.condF rfl ?_
  refine Run.skip ?_
  refine Run.seq ?_
  refine Run.region ?_
  refine RunL.ok (OpOk.move rfl) rfl ?_
  refine RunL.ok (OpOk.move rfl) rfl ?_
  refine RunL.call cal50 rfl (s50 (by assumption)) rfl (fun vx7 Ax7 hx7 => ?_)
  obtain ⟨rfl, rfl⟩ := hx7
  refine RunL.nil ?_
  refine Run.seq ?_
  refine Run.region ?_
  refine RunL.ok (OpOk.move rfl) rfl ?_
  refine RunL.ok (OpOk.move rfl) rfl ?_
  refine RunL.ok (OpOk.move rfl) rfl ?_
  refine RunL.call cal51 rfl (s51c (by assumption) (by assumption) (by assumption) (by assumption) (by assumption) (by assumption) (by assumption) rfl) rfl (fun vx10 Ax10 hx10 => ?_)
  obtain ⟨x11, ⟨rfl, rfl⟩⟩ := hx10
  refine RunL.ok (OpOk.assign rfl) rfl ?_
  refine RunL.nil ?_
  refine Run.seq ?_
  refine Run.seq ?_
  refine Run.region ?_
  refine RunL.ok (OpOk.move rfl) rfl ?_
  refine RunL.ok (OpOk.asF (OpOk.lss rfl rfl) (by omega)) rfl ?_
  refine RunL.ok (OpOk.move rfl) rfl ?_
  refine RunL.on rfl rfl ?_
  refine RunL.ok (OpOk.move rfl) rfl ?_
  refine RunL.on rfl rfl ?_
  refine RunL.ok (OpOk.asF (OpOk.gtr rfl rfl) (by omega)) rfl ?_
  refine RunL.ok (OpOk.pickF rfl rfl) rfl ?_
  refine RunL.ok (OpOk.move rfl) rfl ?_
  refine RunL.on rfl rfl ?_
  refine RunL.ok (OpOk.move rfl) rfl ?_
  refine RunL.on rfl rfl ?_
  refine RunL.ok (OpOk.asF (OpOk.lss rfl rfl) (by omega)) rfl ?_
  refine RunL.ok (OpOk.pickF rfl rfl) rfl ?_
  refine RunL.ok (OpOk.move rfl) rfl ?_
  refine RunL.on rfl rfl ?_
  refine RunL.ok (OpOk.move rfl) rfl ?_
  refine RunL.on rfl rfl ?_
  refine RunL.ok (OpOk.asF (OpOk.gtr rfl rfl) (by omega)) rfl ?_
  refine RunL.ok (OpOk.pickF rfl rfl) rfl ?_
  refine RunL.nil ?_
  refine Run.condF rfl ?_
  refine Run.skip ?_
  refine Run.seq ?_
  (apply Run.drawD [] (by rfl) (sep_emp _).symm; case hchk => kernel_rfl)
  refine Sd.quiet 5 _ _ rfl rfl rfl rfl rfl (QOp.ok (fun X => OpOk.move rfl)) ?_
  refine Sd.quiet 6 _ _ rfl rfl rfl rfl rfl (QOp.ok (fun X => OpOk.quoN _ 256 rfl rfl rfl rfl (by omega) (by omega))) ?_
  refine Sd.quiet 7 _ _ rfl rfl rfl rfl rfl (QOp.ok (fun X => OpOk.convInt rfl rfl rfl (wrapU8 (by omega) (by omega)))) ?_
  refine Sd.quiet 8 _ _ rfl rfl rfl rfl rfl (QOp.ok (fun X => OpOk.move rfl)) ?_
  refine Sd.quiet 9 _ _ rfl rfl rfl rfl rfl (QOp.ok (fun X => OpOk.convInt rfl rfl rfl (wrapU8m _))) ?_
  refine Sd.quiet 10 _ _ rfl rfl rfl rfl rfl (QOp.ok (fun X => OpOk.move rfl)) ?_
  refine Sd.quiet 11 _ _ rfl rfl rfl rfl rfl (QOp.ok (fun X => OpOk.convInt rfl rfl rfl (wrapU8 (by omega) (by omega)))) ?_
  apply Sd.make 12 (by rfl) (by rfl) (by rfl) (by rfl) (by rfl) (by rfl)
  case h =>
    intro Xx15 Kx15 hKx15
    refine RunL.mem (sep_emp _) ?_
    refine RunL.lits rfl ti5 rfl rfl rfl (by simp [Value.cells]) (by decide) rfl (fun vx16 rdx16 => ?_)
    exact RunL.mem (Eq.trans rfl (gp2 rfl (sep_emp _).symm)) (hKx15 _)
  apply Sd.make 3 (by rfl) (by rfl) (by rfl) (by rfl) (by rfl) (by rfl)
  case h =>
    intro Xx20 Kx20 hKx20
    refine RunL.mem (sep_emp _) ?_
    refine RunL.makeB (m := 32) rfl ti5 rfl rfl (by omega) rfl (fun vx21 rdx21 => ?_)
    exact RunL.mem (Eq.trans rfl (gp2 rfl (sep_emp _).symm)) (hKx20 _)
  refine Sd.link 4 3 _ _ (fun u => Value.agg #[.int (IntKind.i64) (2), u]) (List.mem_cons_self ..) (by rfl) (by rfl) (by rfl) (fun _ => by rfl) (by rfl) (by rfl) (fun u hu => (by obtain ⟨ad, cap, rfl, _, _⟩ := (rdOf hu).form; exact QOp.ok (fun X => OpOk.build rfl (fun w => run_build w 104 _ _ (by rfl))))) ?_
  (refine Sd.exec 0 rfl rfl rfl rfl rfl ?hrest (by rfl) (fun Xx27 Kx27 hKx27 => ?_); case hrest => kernel_rfl)
  refine RunL.mem (fl2 (sep_emp _) (sep_emp _)) ?_
  refine RunL.call cal53 rfl (s53 rdn.left.left.left.left.left.left (by omega) (by omega) (by omega) (by assumption)) rfl (fun vx28 Ax28 hx28 => ?_)
  obtain ⟨x29, rfl⟩ := hx28
  refine RunL.know (fun w s => (s.conv rfl).ownRd0) (fun rdx30 => ?_)
  refine Sd.ret hKx27 (Eq.trans rfl (gp2 (sep_emp _).symm (asg rfl))) ⟨_, (emp_sep _).symm⟩ ?_
  (refine Sd.exec 1 rfl rfl rfl rfl rfl ?hrest (by rfl) (fun Xx33 Kx33 hKx33 => ?_); case hrest => kernel_rfl)
  refine RunL.mem (fl2 (flS rfl) (sep_emp _)) ?_
  refine RunL.call cal52 rfl (s52a (Rd.right rdx30) (by omega)) rfl (fun vx34 Ax34 hx34 => ?_)
  obtain ⟨x35, ⟨x36, ⟨x37, ⟨rfl, rfl⟩⟩⟩⟩ := hx34
  refine RunL.know (fun w s => (s.conv rfl).ownRd0) (fun rdx38 => ?_)
  refine Sd.ret hKx33 (Eq.trans rfl (gp2 (sep_emp _).symm (asg (asg (asg rfl))))) ⟨_, (asg rfl)⟩ ?_
  refine Sd.quiet 2 _ _ rfl rfl rfl rfl rfl (QOp.ok (fun X => OpOk.build (cells := #[.int (IntKind.i64) (1), .slice (x35) (32) (x36)]) rfl (fun w => run_build w 104 _ _ (by rfl)))) ?_
  (refine Sd.swap ?_; refine Sd.take 12 _ ?hrest (fun vx40 hvx40 => ?_); case hrest => kernel_rfl)
  have rdx40 := rdOf hvx40
  (refine Sd.exec 13 rfl rfl rfl rfl rfl ?hrest (by rfl) (fun Xx42 Kx42 hKx42 => ?_); case hrest => kernel_rfl)
  refine RunL.mem (fl2 (flS (flS (flS (flS rfl)))) (sep_emp _)) ?_
  refine RunL.call cal52 rfl (s52b (Rd.right rdx40) (by assumption) (by omega)) rfl (fun vx44 Ax44 hx44 => ?_)
  obtain ⟨x45, ⟨x46, ⟨x47, ⟨rfl, rfl⟩⟩⟩⟩ := hx44
  refine RunL.know (fun w s => (s.conv rfl).ownRd0) (fun rdx48 => ?_)
  refine Sd.ret hKx42 (Eq.trans rfl (gp2 (sep_emp _).symm (asg (asg (asg (asg (asg (asg rfl)))))))) ⟨_, (asg rfl)⟩ ?_
  refine Sd.quiet 14 _ _ rfl rfl rfl rfl rfl (QOp.ok (fun X => OpOk.build (cells := #[.int (IntKind.i64) (0), .slice (x45) (32) (x46)]) rfl (fun w => run_build w 104 _ _ (by rfl)))) ?_
  (refine Sd.take 3 _ ?hrest (fun vx49 hvx49 => ?_); case hrest => kernel_rfl)
  have rdx49 := rdOf hvx49
  refine Sd.told 4 3 _ _ _ (by rfl) ?_
  (refine Sd.exec 15 rfl rfl rfl rfl rfl ?hrest (by rfl) (fun Xx50 Kx50 hKx50 => ?_); case hrest => kernel_rfl)
  refine RunL.mem (fl2 (flS (flS (flS (flS (flS (flS (flS rfl))))))) (sep_emp _)) ?_
  obtain ⟨ad49, cap49, rfl, _, _⟩ := rdx49.form
  refine RunL.litFl (enc := encT104) (fmtRows (sectB (listB 1 [])) (sectB (faceB (a : Int) (b : Int))) x35 x36 ad49 cap49 x45 x46) rfl ti104 rfl (fun _ => rfl) rfl rfl (by decide) (by decide) rfl (fun vr rdr => ?_)
  have drawStop : True := trivial
  refine RunL.know (fun w s => (s.conv rfl).ownRd0) (fun rdy1 => ?_)
  refine Sd.ret hKx50 (Eq.trans rfl (gp2 (sep_emp _).symm (asg (asg (asg (asg (asg (asg (asg (asg rfl)))))))))) ⟨_, rfl⟩ ?_
  refine Sd.quiet 16 _ _ rfl rfl rfl rfl rfl (QOp.ok (fun X => OpOk.assign rfl)) ?_
  (apply Sd.tail; case hall => kernel_rfl)
  refine RunL.mem (fl2 (flS (flS (flS (flS (flS (flS (flS (flS rfl)))))))) (sep_emp _)) ?_
  refine RunL.nil ?_
  refine Run.seq ?_
  refine Run.region ?_
  refine RunL.ok (OpOk.assign rfl) rfl ?_
  refine RunL.nil ?_
  refine Run.seq ?_
  refine Run.seq ?_
  refine Run.region ?_
  refine RunL.ok (OpOk.move rfl) rfl ?_
  refine RunL.ok (OpOk.asT (OpOk.geq rfl rfl) (by omega)) rfl ?_
  refine RunL.ok (OpOk.move rfl) rfl ?_
  refine RunL.on rfl rfl ?_
  refine RunL.ok (OpOk.move rfl) rfl ?_
  refine RunL.on rfl rfl ?_
  refine RunL.ok (OpOk.asF (OpOk.lss rfl rfl) (by omega)) rfl ?_
  refine RunL.ok (OpOk.pickT rfl rfl) rfl ?_
  refine RunL.nil ?_
  refine Run.condF rfl ?_
  refine Run.skip ?_
  refine Run.seq ?_
  refine Run.seq ?_
  clear drawStop
  obtain ⟨M, hM⟩ : ∃ M, own 5 1 (.slice x35 32 x36) 32 (B (sectB (listB 1 []))) * own 5 1 (.slice ad49 32 cap49) 32 (B (List.replicate 32 0)) * own 5 1 (.slice x45 32 x46) 32 (B (sectB (faceB (a : Int) (b : Int)))) = M := ⟨_, rfl⟩
  have al : Alls (GR w0) M (fmtRows (sectB (listB 1 [])) (sectB (faceB (a : Int) (b : Int))) x35 x36 ad49 cap49 x45 x46) := by
    rw [← hM]
    refine Alls.cons ?_ (Alls.cons ?_ (Alls.cons ?_ Alls.nil))
    · show Rd w0 _ (.slice x35 32 x36) 1 (sectB (listB 1 [])).length (B (sectB (listB 1 [])))
      rw [hdl]
      exact Rd.left (Rd.left rdx38)
    · exact Rd.left (Rd.right rdx49)
    · show Rd w0 _ (.slice x45 32 x46) 1 (sectB (faceB (a : Int) (b : Int))).length (B (sectB (faceB (a : Int) (b : Int))))
      rw [hfl2]
      exact Rd.right rdx48
  have hok : ∀ p ∈ (fmtRows (sectB (listB 1 [])) (sectB (faceB (a : Int) (b : Int))) x35 x36 ad49 cap49 x45 x46), okRow (rc p) := fun p hp => by
    simp only [List.mem_cons, List.not_mem_nil, or_false] at hp
    rcases hp with rfl | rfl | rfl
    · exact ⟨by show 1 ≤ 15; decide, hdl⟩
    · exact ⟨by show 2 ≤ 15; decide, by show (List.replicate 32 (0 : UInt8)).length = 32; simp⟩
    · exact ⟨by show 0 ≤ 15; decide, hfl2⟩
  have hdz : zs = doneF (imgB bs) (((fmtRows (sectB (listB 1 [])) (sectB (faceB (a : Int) (b : Int))) x35 x36 ad49 cap49 x45 x46).map rc).take (Int.toNat 3)) := hzd
  refine Run.mem (A' := A * pts bx1 (.cells (Value.agg #[u, .int .i64 (a : Int), .int .i64 (b : Int), .int .i64 n]).cells 100 (0, 0)) * x3 * x6 * x11 * pts x5 (.cells (B (zs) ++ [Value.int .i64 ((n - 3))]).toArray 177 (0, 0)) * x29 * own 5 1 vx28 (3 + 5 * 0) (B (listB 1 [])) * x37 * own 5 1 vx40 5 [Value.int .u8 70, Value.int .u8 66, Value.int .u8 ((a / 256 : Nat) : Int), Value.int .u8 ((a : Int) % 256), Value.int .u8 (b : Int)] * x47 * own 104 2 vr 3 (Fl encT104 (fmtRows (sectB (listB 1 [])) (sectB (faceB (a : Int) (b : Int))) x35 x36 ad49 cap49 x45 x46)) * M) ?_ ?_
  · rw [← hM]
    simp only [← sep_assoc]
    exact (frc (frl (frl rfl)) (frc (frl rfl) (frc (frl (frl (frl rfl))) rfl)))
  (apply Run.drawD [] (by rfl) (Eq.trans (frc (frl (frl (frl (frl (frl (frl (frl rfl))))))) rfl) rfl); case hchk => kernel_rfl)
  refine Sd.quiet 0 _ _ rfl rfl rfl rfl rfl (QOp.ok (fun X => OpOk.move rfl)) ?_
  refine Sd.quiet 3 _ _ rfl rfl rfl rfl rfl (QOp.ok (fun X => OpOk.move rfl)) ?_
  refine Sd.quiet 5 _ _ rfl rfl rfl rfl rfl (QOp.ok (fun X => OpOk.move rfl)) ?_
  refine Sd.quiet 6 _ _ rfl rfl rfl rfl rfl (QOp.ok (fun X => OpOk.move rfl)) ?_
  (refine Sd.exec 1 rfl rfl rfl rfl rfl ?hrest (by rfl) (fun Xz1 Kz1 hKz1 => ?_); case hrest => kernel_rfl)
  refine RunL.mem (fl2 (sep_emp _) rfl) ?_
  refine RunL.call cal49 rfl (s49 (by assumption)) rfl (fun vz2 Az2 hz2 => ?_)
  obtain rfl := hz2
  refine RunL.know (fun w s => (s.conv rfl).ownRd0) (fun rdz3 => ?_)
  refine Sd.ret hKz1 (Eq.trans rfl (gp2 (sep_emp _).symm (asg rfl))) ⟨_, (emp_sep _).symm⟩ ?_
  refine Sd.quiet 2 _ _ rfl rfl rfl rfl rfl (QOp.ok (fun X => OpOk.strOf rfl rfl rfl rfl (Rd.right (Rd.right rdz3)).left)) ?_
  (refine Sd.exec 4 rfl rfl rfl rfl rfl ?hrest (by rfl) (fun Xz4 Kz4 hKz4 => ?_); case hrest => kernel_rfl)
  refine RunL.mem (fl2 (flS rfl) (sep_emp _)) ?_
  refine RunL.call cal41 rfl (s41 rd.left.left.left.left.left.left.left.left.left.left.left.left.left.left) rfl (fun vz5 Az5 hz5 => ?_)
  obtain rfl := hz5
  refine RunL.know (fun w s => (s.conv rfl).ownRd0) (fun rdz6 => ?_)
  refine Sd.ret hKz4 (Eq.trans rfl (gp2 (sep_emp _).symm (asg (asg rfl)))) ⟨_, rfl⟩ ?_
  (refine Sd.exec 7 rfl rfl rfl rfl rfl ?hrest (by rfl) (fun Xz7 Kz7 hKz7 => ?_); case hrest => kernel_rfl)
  refine RunL.mem (fl2 (flS (flS rfl)) (sep_emp _)) ?_
  refine RunL.call cal54 rfl (s54a (Rd.right rdz6) (Rd.right rdy1).left.left.left.left.left (Alls.right al).left.left.left.left rfl rfl (by assumption) (by omega)) rfl (fun vz8 Az8 hz8 => ?_)
  obtain ⟨z9, rfl⟩ := hz8
  refine RunL.know (fun w s => (s.conv rfl).ownRd0) (fun rdz10 => ?_)
  refine Sd.ret hKz7 (Eq.trans rfl (gp2 (sep_emp _).symm (asg (asg (asg (asg rfl)))))) ⟨_, (asg rfl)⟩ ?_
  refine Sd.quiet 8 _ _ rfl rfl rfl rfl rfl (QOp.ok (fun X => OpOk.strOf rfl rfl rfl rfl (Rd.right (Rd.right rdz10)).left)) ?_
  refine Sd.quiet 9 _ _ rfl rfl rfl rfl rfl (QOp.ok (fun X => OpOk.as (c := false) (OpOk.neqSS rfl rfl) (by rw [decide_eq_true (by omega)]; rfl))) ?_
  refine Sd.quiet 10 _ _ rfl rfl rfl rfl rfl (QOp.ok (fun X => OpOk.move rfl)) ?_
  refine Sd.quiet 11 _ _ rfl rfl rfl rfl rfl (QOp.ok (fun X => OpOk.move rfl)) ?_
  refine Sd.quiet 12 _ _ rfl rfl rfl rfl rfl (QOp.ok (fun X => OpOk.asT (OpOk.eql rfl rfl) (by omega))) ?_
  refine Sd.quiet 13 _ _ rfl rfl rfl rfl rfl (QOp.ok (fun X => OpOk.move rfl)) ?_
  refine Sd.quiet 14 _ _ rfl rfl rfl rfl rfl (QOp.ok (fun X => OpOk.asT (OpOk.eql rfl rfl) (by omega))) ?_
  refine Sd.quiet 15 _ _ rfl rfl rfl rfl rfl (QOp.ok (fun X => OpOk.neqB rfl rfl rfl)) ?_
  refine Sd.quiet 16 _ _ rfl rfl rfl rfl rfl (QOp.ok (fun X => OpOk.pickF rfl rfl)) ?_
  refine Sd.quiet 17 _ _ rfl rfl rfl rfl rfl (QOp.ok (fun X => OpOk.move rfl)) ?_
  refine Sd.quiet 18 _ _ rfl rfl rfl rfl rfl (QOp.ok (fun X => OpOk.move rfl)) ?_
  refine Sd.quiet 19 _ _ rfl rfl rfl rfl rfl (QOp.ok (fun X => OpOk.asF (OpOk.lss rfl rfl) (by omega))) ?_
  refine Sd.quiet 20 _ _ rfl rfl rfl rfl rfl (QOp.ok (fun X => OpOk.move rfl)) ?_
  refine Sd.skip 21 _ rfl rfl rfl rfl rfl ?_
  refine Sd.skip 22 _ rfl rfl rfl rfl rfl ?_
  refine Sd.quiet 23 _ _ rfl rfl rfl rfl rfl (QOp.ok (fun X => OpOk.pickF rfl rfl)) ?_
  refine Sd.quiet 24 _ _ rfl rfl rfl rfl rfl (QOp.ok (fun X => OpOk.pickF rfl rfl)) ?_
  (apply Sd.tail; case hall => kernel_rfl)
  refine RunL.mem (fl2 (flS (flS (flS (flS rfl)))) (sep_emp _)) ?_
  refine RunL.nil ?_
  refine Run.condF rfl ?_
  refine Run.skip ?_
  refine Run.seq ?_
  refine Run.seq ?_
  refine Run.region ?_
  refine RunL.ok (OpOk.move rfl) rfl ?_
  refine RunL.ok (OpOk.asF (OpOk.lss rfl rfl) (by omega)) rfl ?_
  refine RunL.nil ?_
  refine Run.condF rfl ?_
  refine Run.skip ?_
  refine Run.seq ?_
  refine Run.region ?_
  refine RunL.ok (OpOk.move rfl) rfl ?_
  refine RunL.mem (frc (frl (frl (frl (frl rfl)))) rfl) ?_
  refine RunL.call cal39 rfl (s39f (by assumption)) rfl (fun vz15 Az15 hz15 => ?_)
  obtain ⟨z16, ⟨z17, ⟨z18, ⟨rfl, rfl⟩⟩⟩⟩ := hz15
  refine RunL.ok (OpOk.move rfl) rfl ?_
  refine RunL.ok (OpOk.ext20 rfl) rfl ?_
  refine RunL.ok (OpOk.ext21 rfl) rfl ?_
  refine RunL.alloc ti86 rfl (fun bz19 => ?_)
  refine RunL.storeAll ti86 rfl rfl rfl (ones rfl) rfl rfl ?_
  refine RunL.ok (OpOk.assign rfl) rfl ?_
  refine RunL.nil ?_
  refine Run.seq ?_
  rw [rw_c]
  rw [rw_i]
  refine Run.region ?_
  refine RunL.ok (OpOk.move rfl) rfl ?_
  refine RunL.ok (OpOk.asT (OpOk.eql rfl rfl) (by omega)) rfl ?_
  refine RunL.ok (OpOk.move rfl) rfl ?_
  refine RunL.on rfl rfl ?_
  refine RunL.ok (OpOk.fieldAddr fld86_0 rfl) rfl ?_
  refine RunL.on rfl rfl ?_
  refine RunL.ok (OpOk.load rfl rfl rfl (Blk.out Blk.pts _ _ (by first | rfl | assumption))) rfl ?_
  refine RunL.on rfl rfl ?_
  refine RunL.ok (OpOk.move rfl) rfl ?_
  refine RunL.on rfl rfl ?_
  refine RunL.ok (OpOk.asT (OpOk.eql rfl rfl) (by omega)) rfl ?_
  refine RunL.ok (OpOk.pickT rfl rfl) rfl ?_
  refine RunL.ok (OpOk.move rfl) rfl ?_
  refine RunL.on rfl rfl ?_
  refine RunL.ok (OpOk.fieldAddr fld86_1 rfl) rfl ?_
  refine RunL.on rfl rfl ?_
  refine RunL.ok (OpOk.load rfl rfl rfl (Blk.out Blk.pts _ _ (by first | rfl | assumption))) rfl ?_
  refine RunL.on rfl rfl ?_
  refine RunL.ok (OpOk.move rfl) rfl ?_
  refine RunL.on rfl rfl ?_
  refine RunL.ok (OpOk.asT (OpOk.eql rfl rfl) (by omega)) rfl ?_
  refine RunL.ok (OpOk.pickT rfl rfl) rfl ?_
  refine RunL.ok (OpOk.move rfl) rfl ?_
  refine RunL.on rfl rfl ?_
  refine RunL.ok (OpOk.fieldAddr fld86_2 rfl) rfl ?_
  refine RunL.on rfl rfl ?_
  refine RunL.ok (OpOk.load rfl rfl rfl (Blk.out Blk.pts _ _ (by first | rfl | assumption))) rfl ?_
  refine RunL.on rfl rfl ?_
  refine RunL.ok (OpOk.asT (OpOk.eql rfl rfl) (by omega)) rfl ?_
  refine RunL.ok (OpOk.pickT rfl rfl) rfl ?_
  refine RunL.ok (OpOk.move rfl) rfl ?_
  refine RunL.on rfl rfl ?_
  refine RunL.ok (OpOk.fieldAddr fld86_4 rfl) rfl ?_
  refine RunL.on rfl rfl ?_
  refine RunL.ok (OpOk.load rfl rfl rfl (Blk.out Blk.pts _ _ (by first | rfl | assumption))) rfl ?_
  refine RunL.on rfl rfl ?_
  refine RunL.ok (OpOk.lenV rfl rfl rfl) rfl ?_
  refine RunL.on rfl rfl ?_
  refine RunL.ok (OpOk.eql rfl rfl) rfl ?_
  refine RunL.ok (OpOk.pickT rfl rfl) rfl ?_
  refine RunL.ok (OpOk.assign rfl) rfl ?_
  refine RunL.nil ?_
  refine Run.ret1 Try.func11 rfl rfl ?_
  exact ⟨_, rfl, (asg (asg (asg (asg (asg (asg (asg (asg (asg (asg (asg (asg (asg (asg (asg (asg (asg (asg as1))))))))))))))))))⟩
theorem formats_neg (rd : Rd w0 A u 1 m (B bs)) (hn : namedP a b) (h3 : n < 0) :
    Spec Try.prog w0 11 [.agg #[u, .int .i64 a, .int .i64 b, .int .i64 n]] A (fun v' A' => ∃ J, v' = .bool true ∧ A' = A * J) := by
  have hl := imgB_len bs
  have hn2 := hn
  obtain ⟨n1, n2, n3, n4⟩ := hn2
  have rdn : Rd w0 A (.slice none 0 0) 4 0 (Fl encT111 ([] : List En)) := Rd.nil 4
  have hes : ∀ e ∈ ([] : List En), okE e := fun e h => by cases h
  obtain ⟨a, rfl⟩ := Int.eq_ofNat_of_zero_le (by omega : 0 ≤ a)
  obtain ⟨b, rfl⟩ := Int.eq_ofNat_of_zero_le (by omega : 0 ≤ b)
  have hface := B_face (a := a) (b := b) (by omega) (by omega)
  have hfl : (faceB (a : Int) (b : Int)).length = 5 := rfl
  have hfl2 := face_len (a : Int) (b : Int)
  have hyl := fmt2_len hl
  have hdl := d0_len
  obtain ⟨hS, hc, hi⟩ := fmt_says (xs := imgB bs) hl (a := (a : Int)) (b := (b : Int)) hn
  obtain ⟨zs, hzs⟩ : ∃ zs, fmtF (imgB bs) (a : Int) (b : Int) = zs := ⟨_, rfl⟩
  rw [hzs] at hS hc hi
  have rw_c := hc
  have rw_i := hi
  have hzl := hS.len
  have hzd : zs = doneF (imgB bs) [(1, sectB (listB 1 [])), (2, List.replicate 32 0), (0, sectB (faceB (a : Int) (b : Int)))] := hzs.symm
  have hmn : max n (-1) = -1 := by omega
  have hw : max n (-1) ≤ 9223372036854775807 := by omega
  have hW : Wrote (imgB bs) (max n (-1)) 1 [sectB (listB 1 []), List.replicate 32 0] (fmt2 (imgB bs)) (-1) 0 := ⟨by rw [hmn]; rfl⟩
  have hW2 : Wrote (fmt2 (imgB bs)) (-1) 0 [sectB (faceB (a : Int) (b : Int))] zs (-1) 0 := ⟨by rw [← hzs]; rfl⟩
  refine Spec.of_run [(0, .agg #[u, .int .i64 (a : Int), .int .i64 (b : Int), .int .i64 n])] Try.func11 rfl (Nat.le_of_ble_eq_true rfl) (by repeat (first | exact trivial | refine ⟨rfl, ?_⟩)) ?_
  refine Run.seq ?_
  refine Run.region ?_
  refine RunL.box rfl rfl (fun bx1 => ?_)
  refine RunL.ok (OpOk.assign rfl) rfl ?_
  refine RunL.nil ?_
  refine Run.seq ?_
  (apply Run.drawD [] (by rfl) (sep_emp _).symm; case hchk => kernel_rfl)
  refine Sd.quiet 0 _ _ rfl rfl rfl rfl rfl (QOp.ok (fun X => OpOk.fieldAddr fld100_0 rfl)) ?_
  refine Sd.quiet 1 _ _ rfl rfl rfl rfl rfl (QOp.ok (fun X => OpOk.load rfl rfl rfl (Blk.out Blk.pts.left.left _ _ (by first | rfl | assumption)))) ?_
  refine Sd.quiet 2 _ _ rfl rfl rfl rfl rfl (QOp.ok (fun X => OpOk.fieldAddr fld100_1 rfl)) ?_
  refine Sd.quiet 3 _ _ rfl rfl rfl rfl rfl (QOp.ok (fun X => OpOk.load rfl rfl rfl (Blk.out Blk.pts.left.left _ _ (by first | rfl | assumption)))) ?_
  refine Sd.quiet 4 _ _ rfl rfl rfl rfl rfl (QOp.ok (fun X => OpOk.fieldAddr fld100_2 rfl)) ?_
  refine Sd.quiet 5 _ _ rfl rfl rfl rfl rfl (QOp.ok (fun X => OpOk.load rfl rfl rfl (Blk.out Blk.pts.left.left _ _ (by first | rfl | assumption)))) ?_
  refine Sd.quiet 6 _ _ rfl rfl rfl rfl rfl (QOp.ok (fun X => OpOk.fieldAddr fld100_3 rfl)) ?_
  refine Sd.quiet 7 _ _ rfl rfl rfl rfl rfl (QOp.ok (fun X => OpOk.load rfl rfl rfl (Blk.out Blk.pts.left.left _ _ (by first | rfl | assumption)))) ?_
  refine Sd.quiet 8 _ _ rfl rfl rfl rfl rfl (QOp.ok (fun X => OpOk.assign rfl)) ?_
  refine Sd.quiet 9 _ _ rfl rfl rfl rfl rfl (QOp.ok (fun X => OpOk.assign rfl)) ?_
  refine Sd.quiet 10 _ _ rfl rfl rfl rfl rfl (QOp.ok (fun X => OpOk.assign rfl)) ?_
  refine Sd.quiet 11 _ _ rfl rfl rfl rfl rfl (QOp.ok (fun X => OpOk.assign rfl)) ?_
  (apply Sd.tail; case hall => kernel_rfl)
  refine RunL.mem (fl2 (sep_emp _) (sep_emp _)) ?_
  refine RunL.nil ?_
  refine Run.seq ?_
  refine Run.seq ?_
  refine Run.region ?_
  refine RunL.call cal37 rfl (s37) rfl (fun vx2 Ax2 hx2 => ?_)
  obtain ⟨x3, ⟨rfl, rfl⟩⟩ := hx2
  refine RunL.ok (OpOk.not rfl) rfl ?_
  refine RunL.nil ?_
  refine Run.condF rfl ?_
  refine Run.skip ?_
  refine Run.seq ?_
  refine Run.region ?_
  refine RunL.ok (OpOk.move rfl) rfl ?_
  refine RunL.call cal38 rfl (s38 rd.left.left) rfl (fun vx4 Ax4 hx4 => ?_)
  obtain ⟨x5, ⟨x6, ⟨rfl, rfl⟩⟩⟩ := hx4
  refine RunL.ok (OpOk.assign rfl) rfl ?_
  refine RunL.nil ?_
  refine Run.seq ?_
  refine Run.seq ?_
  refine Run.region ?_
  refine RunL.ok (OpOk.move rfl) rfl ?_
  refine RunL.ok (OpOk.eqlPN rfl rfl) rfl ?_
  refine RunL.nil ?_
  refine Run.condF rfl ?_
  refine Run.skip ?_
  refine Run.seq ?_
  refine Run.region ?_
  refine RunL.ok (OpOk.move rfl) rfl ?_
  refine RunL.ok (OpOk.move rfl) rfl ?_
  refine RunL.call cal50 rfl (s50 (by assumption)) rfl (fun vx7 Ax7 hx7 => ?_)
  obtain ⟨rfl, rfl⟩ := hx7
  refine RunL.nil ?_
  refine Run.seq ?_
  refine Run.region ?_
  refine RunL.ok (OpOk.move rfl) rfl ?_
  refine RunL.ok (OpOk.move rfl) rfl ?_
  refine RunL.ok (OpOk.move rfl) rfl ?_
  refine RunL.call cal51 rfl (s51c (by assumption) (by assumption) (by assumption) (by assumption) (by assumption) (by assumption) (by omega) rfl) rfl (fun vx10 Ax10 hx10 => ?_)
  obtain ⟨x11, ⟨rfl, rfl⟩⟩ := hx10
  refine RunL.ok (OpOk.assign rfl) rfl ?_
  refine RunL.nil ?_
  refine Run.seq ?_
  refine Run.seq ?_
  refine Run.region ?_
  refine RunL.ok (OpOk.move rfl) rfl ?_
  refine RunL.ok (OpOk.asF (OpOk.lss rfl rfl) (by omega)) rfl ?_
  refine RunL.ok (OpOk.move rfl) rfl ?_
  refine RunL.on rfl rfl ?_
  refine RunL.ok (OpOk.move rfl) rfl ?_
  refine RunL.on rfl rfl ?_
  refine RunL.ok (OpOk.asF (OpOk.gtr rfl rfl) (by omega)) rfl ?_
  refine RunL.ok (OpOk.pickF rfl rfl) rfl ?_
  refine RunL.ok (OpOk.move rfl) rfl ?_
  refine RunL.on rfl rfl ?_
  refine RunL.ok (OpOk.move rfl) rfl ?_
  refine RunL.on rfl rfl ?_
  refine RunL.ok (OpOk.asF (OpOk.lss rfl rfl) (by omega)) rfl ?_
  refine RunL.ok (OpOk.pickF rfl rfl) rfl ?_
  refine RunL.ok (OpOk.move rfl) rfl ?_
  refine RunL.on rfl rfl ?_
  refine RunL.ok (OpOk.move rfl) rfl ?_
  refine RunL.on rfl rfl ?_
  refine RunL.ok (OpOk.asF (OpOk.gtr rfl rfl) (by omega)) rfl ?_
  refine RunL.ok (OpOk.pickF rfl rfl) rfl ?_
  refine RunL.nil ?_
  refine Run.condF rfl ?_
  refine Run.skip ?_
  refine Run.seq ?_
  (apply Run.drawD [] (by rfl) (sep_emp _).symm; case hchk => kernel_rfl)
  refine Sd.quiet 5 _ _ rfl rfl rfl rfl rfl (QOp.ok (fun X => OpOk.move rfl)) ?_
  refine Sd.quiet 6 _ _ rfl rfl rfl rfl rfl (QOp.ok (fun X => OpOk.quoN _ 256 rfl rfl rfl rfl (by omega) (by omega))) ?_
  refine Sd.quiet 7 _ _ rfl rfl rfl rfl rfl (QOp.ok (fun X => OpOk.convInt rfl rfl rfl (wrapU8 (by omega) (by omega)))) ?_
  refine Sd.quiet 8 _ _ rfl rfl rfl rfl rfl (QOp.ok (fun X => OpOk.move rfl)) ?_
  refine Sd.quiet 9 _ _ rfl rfl rfl rfl rfl (QOp.ok (fun X => OpOk.convInt rfl rfl rfl (wrapU8m _))) ?_
  refine Sd.quiet 10 _ _ rfl rfl rfl rfl rfl (QOp.ok (fun X => OpOk.move rfl)) ?_
  refine Sd.quiet 11 _ _ rfl rfl rfl rfl rfl (QOp.ok (fun X => OpOk.convInt rfl rfl rfl (wrapU8 (by omega) (by omega)))) ?_
  apply Sd.make 12 (by rfl) (by rfl) (by rfl) (by rfl) (by rfl) (by rfl)
  case h =>
    intro Xx15 Kx15 hKx15
    refine RunL.mem (sep_emp _) ?_
    refine RunL.lits rfl ti5 rfl rfl rfl (by simp [Value.cells]) (by decide) rfl (fun vx16 rdx16 => ?_)
    exact RunL.mem (Eq.trans rfl (gp2 rfl (sep_emp _).symm)) (hKx15 _)
  apply Sd.make 3 (by rfl) (by rfl) (by rfl) (by rfl) (by rfl) (by rfl)
  case h =>
    intro Xx20 Kx20 hKx20
    refine RunL.mem (sep_emp _) ?_
    refine RunL.makeB (m := 32) rfl ti5 rfl rfl (by omega) rfl (fun vx21 rdx21 => ?_)
    exact RunL.mem (Eq.trans rfl (gp2 rfl (sep_emp _).symm)) (hKx20 _)
  refine Sd.link 4 3 _ _ (fun u => Value.agg #[.int (IntKind.i64) (2), u]) (List.mem_cons_self ..) (by rfl) (by rfl) (by rfl) (fun _ => by rfl) (by rfl) (by rfl) (fun u hu => (by obtain ⟨ad, cap, rfl, _, _⟩ := (rdOf hu).form; exact QOp.ok (fun X => OpOk.build rfl (fun w => run_build w 104 _ _ (by rfl))))) ?_
  (refine Sd.exec 0 rfl rfl rfl rfl rfl ?hrest (by rfl) (fun Xx27 Kx27 hKx27 => ?_); case hrest => kernel_rfl)
  refine RunL.mem (fl2 (sep_emp _) (sep_emp _)) ?_
  refine RunL.call cal53 rfl (s53 rdn.left.left.left.left.left.left (by omega) (by omega) (by omega) (by assumption)) rfl (fun vx28 Ax28 hx28 => ?_)
  obtain ⟨x29, rfl⟩ := hx28
  refine RunL.know (fun w s => (s.conv rfl).ownRd0) (fun rdx30 => ?_)
  refine Sd.ret hKx27 (Eq.trans rfl (gp2 (sep_emp _).symm (asg rfl))) ⟨_, (emp_sep _).symm⟩ ?_
  (refine Sd.exec 1 rfl rfl rfl rfl rfl ?hrest (by rfl) (fun Xx33 Kx33 hKx33 => ?_); case hrest => kernel_rfl)
  refine RunL.mem (fl2 (flS rfl) (sep_emp _)) ?_
  refine RunL.call cal52 rfl (s52a (Rd.right rdx30) (by omega)) rfl (fun vx34 Ax34 hx34 => ?_)
  obtain ⟨x35, ⟨x36, ⟨x37, ⟨rfl, rfl⟩⟩⟩⟩ := hx34
  refine RunL.know (fun w s => (s.conv rfl).ownRd0) (fun rdx38 => ?_)
  refine Sd.ret hKx33 (Eq.trans rfl (gp2 (sep_emp _).symm (asg (asg (asg rfl))))) ⟨_, (asg rfl)⟩ ?_
  refine Sd.quiet 2 _ _ rfl rfl rfl rfl rfl (QOp.ok (fun X => OpOk.build (cells := #[.int (IntKind.i64) (1), .slice (x35) (32) (x36)]) rfl (fun w => run_build w 104 _ _ (by rfl)))) ?_
  (refine Sd.swap ?_; refine Sd.take 12 _ ?hrest (fun vx40 hvx40 => ?_); case hrest => kernel_rfl)
  have rdx40 := rdOf hvx40
  (refine Sd.exec 13 rfl rfl rfl rfl rfl ?hrest (by rfl) (fun Xx42 Kx42 hKx42 => ?_); case hrest => kernel_rfl)
  refine RunL.mem (fl2 (flS (flS (flS (flS rfl)))) (sep_emp _)) ?_
  refine RunL.call cal52 rfl (s52b (Rd.right rdx40) (by assumption) (by omega)) rfl (fun vx44 Ax44 hx44 => ?_)
  obtain ⟨x45, ⟨x46, ⟨x47, ⟨rfl, rfl⟩⟩⟩⟩ := hx44
  refine RunL.know (fun w s => (s.conv rfl).ownRd0) (fun rdx48 => ?_)
  refine Sd.ret hKx42 (Eq.trans rfl (gp2 (sep_emp _).symm (asg (asg (asg (asg (asg (asg rfl)))))))) ⟨_, (asg rfl)⟩ ?_
  refine Sd.quiet 14 _ _ rfl rfl rfl rfl rfl (QOp.ok (fun X => OpOk.build (cells := #[.int (IntKind.i64) (0), .slice (x45) (32) (x46)]) rfl (fun w => run_build w 104 _ _ (by rfl)))) ?_
  (refine Sd.take 3 _ ?hrest (fun vx49 hvx49 => ?_); case hrest => kernel_rfl)
  have rdx49 := rdOf hvx49
  refine Sd.told 4 3 _ _ _ (by rfl) ?_
  (refine Sd.exec 15 rfl rfl rfl rfl rfl ?hrest (by rfl) (fun Xx50 Kx50 hKx50 => ?_); case hrest => kernel_rfl)
  refine RunL.mem (fl2 (flS (flS (flS (flS (flS (flS (flS rfl))))))) (sep_emp _)) ?_
  obtain ⟨ad49, cap49, rfl, _, _⟩ := rdx49.form
  refine RunL.litFl (enc := encT104) (fmtRows (sectB (listB 1 [])) (sectB (faceB (a : Int) (b : Int))) x35 x36 ad49 cap49 x45 x46) rfl ti104 rfl (fun _ => rfl) rfl rfl (by decide) (by decide) rfl (fun vr rdr => ?_)
  have drawStop : True := trivial
  refine RunL.know (fun w s => (s.conv rfl).ownRd0) (fun rdy1 => ?_)
  refine Sd.ret hKx50 (Eq.trans rfl (gp2 (sep_emp _).symm (asg (asg (asg (asg (asg (asg (asg (asg rfl)))))))))) ⟨_, rfl⟩ ?_
  refine Sd.quiet 16 _ _ rfl rfl rfl rfl rfl (QOp.ok (fun X => OpOk.assign rfl)) ?_
  (apply Sd.tail; case hall => kernel_rfl)
  refine RunL.mem (fl2 (flS (flS (flS (flS (flS (flS (flS (flS rfl)))))))) (sep_emp _)) ?_
  refine RunL.nil ?_
  refine Run.seq ?_
  refine Run.region ?_
  refine RunL.ok (OpOk.assign rfl) rfl ?_
  refine RunL.nil ?_
  refine Run.seq ?_
  refine Run.seq ?_
  refine Run.region ?_
  refine RunL.ok (OpOk.move rfl) rfl ?_
  refine RunL.ok (OpOk.asF (OpOk.geq rfl rfl) (by omega)) rfl ?_
  refine RunL.ok (OpOk.move rfl) rfl ?_
  refine RunL.off rfl rfl rfl rfl ?_
  refine RunL.off rfl rfl rfl rfl ?_
  refine RunL.ok (OpOk.pickF rfl rfl) rfl ?_
  refine RunL.nil ?_
  refine Run.condF rfl ?_
  refine Run.skip ?_
  refine Run.seq ?_
  refine Run.seq ?_
  clear drawStop
  obtain ⟨M, hM⟩ : ∃ M, own 5 1 (.slice x35 32 x36) 32 (B (sectB (listB 1 []))) * own 5 1 (.slice ad49 32 cap49) 32 (B (List.replicate 32 0)) * own 5 1 (.slice x45 32 x46) 32 (B (sectB (faceB (a : Int) (b : Int)))) = M := ⟨_, rfl⟩
  have al : Alls (GR w0) M (fmtRows (sectB (listB 1 [])) (sectB (faceB (a : Int) (b : Int))) x35 x36 ad49 cap49 x45 x46) := by
    rw [← hM]
    refine Alls.cons ?_ (Alls.cons ?_ (Alls.cons ?_ Alls.nil))
    · show Rd w0 _ (.slice x35 32 x36) 1 (sectB (listB 1 [])).length (B (sectB (listB 1 [])))
      rw [hdl]
      exact Rd.left (Rd.left rdx38)
    · exact Rd.left (Rd.right rdx49)
    · show Rd w0 _ (.slice x45 32 x46) 1 (sectB (faceB (a : Int) (b : Int))).length (B (sectB (faceB (a : Int) (b : Int))))
      rw [hfl2]
      exact Rd.right rdx48
  have hok : ∀ p ∈ (fmtRows (sectB (listB 1 [])) (sectB (faceB (a : Int) (b : Int))) x35 x36 ad49 cap49 x45 x46), okRow (rc p) := fun p hp => by
    simp only [List.mem_cons, List.not_mem_nil, or_false] at hp
    rcases hp with rfl | rfl | rfl
    · exact ⟨by show 1 ≤ 15; decide, hdl⟩
    · exact ⟨by show 2 ≤ 15; decide, by show (List.replicate 32 (0 : UInt8)).length = 32; simp⟩
    · exact ⟨by show 0 ≤ 15; decide, hfl2⟩
  have hdz : zs = doneF (imgB bs) (((fmtRows (sectB (listB 1 [])) (sectB (faceB (a : Int) (b : Int))) x35 x36 ad49 cap49 x45 x46).map rc).take (Int.toNat 3)) := hzd
  refine Run.mem (A' := A * pts bx1 (.cells (Value.agg #[u, .int .i64 (a : Int), .int .i64 (b : Int), .int .i64 n]).cells 100 (0, 0)) * x3 * x6 * x11 * pts x5 (.cells (B (zs) ++ [Value.int .i64 ((-1))]).toArray 177 (0, 0)) * x29 * own 5 1 vx28 (3 + 5 * 0) (B (listB 1 [])) * x37 * own 5 1 vx40 5 [Value.int .u8 70, Value.int .u8 66, Value.int .u8 ((a / 256 : Nat) : Int), Value.int .u8 ((a : Int) % 256), Value.int .u8 (b : Int)] * x47 * own 104 2 vr 3 (Fl encT104 (fmtRows (sectB (listB 1 [])) (sectB (faceB (a : Int) (b : Int))) x35 x36 ad49 cap49 x45 x46)) * M) ?_ ?_
  · rw [← hM]
    simp only [← sep_assoc]
    exact (frc (frl (frl rfl)) (frc (frl rfl) (frc (frl (frl (frl rfl))) rfl)))
  (apply Run.drawD [] (by rfl) (Eq.trans (frc (frl (frl (frl (frl (frl (frl (frl rfl))))))) rfl) rfl); case hchk => kernel_rfl)
  refine Sd.quiet 0 _ _ rfl rfl rfl rfl rfl (QOp.ok (fun X => OpOk.move rfl)) ?_
  refine Sd.quiet 3 _ _ rfl rfl rfl rfl rfl (QOp.ok (fun X => OpOk.move rfl)) ?_
  refine Sd.quiet 5 _ _ rfl rfl rfl rfl rfl (QOp.ok (fun X => OpOk.move rfl)) ?_
  refine Sd.quiet 6 _ _ rfl rfl rfl rfl rfl (QOp.ok (fun X => OpOk.move rfl)) ?_
  (refine Sd.exec 1 rfl rfl rfl rfl rfl ?hrest (by rfl) (fun Xz1 Kz1 hKz1 => ?_); case hrest => kernel_rfl)
  refine RunL.mem (fl2 (sep_emp _) rfl) ?_
  refine RunL.call cal49 rfl (s49 (by assumption)) rfl (fun vz2 Az2 hz2 => ?_)
  obtain rfl := hz2
  refine RunL.know (fun w s => (s.conv rfl).ownRd0) (fun rdz3 => ?_)
  refine Sd.ret hKz1 (Eq.trans rfl (gp2 (sep_emp _).symm (asg rfl))) ⟨_, (emp_sep _).symm⟩ ?_
  refine Sd.quiet 2 _ _ rfl rfl rfl rfl rfl (QOp.ok (fun X => OpOk.strOf rfl rfl rfl rfl (Rd.right (Rd.right rdz3)).left)) ?_
  (refine Sd.exec 4 rfl rfl rfl rfl rfl ?hrest (by rfl) (fun Xz4 Kz4 hKz4 => ?_); case hrest => kernel_rfl)
  refine RunL.mem (fl2 (flS rfl) (sep_emp _)) ?_
  refine RunL.call cal41 rfl (s41 rd.left.left.left.left.left.left.left.left.left.left.left.left.left.left) rfl (fun vz5 Az5 hz5 => ?_)
  obtain rfl := hz5
  refine RunL.know (fun w s => (s.conv rfl).ownRd0) (fun rdz6 => ?_)
  refine Sd.ret hKz4 (Eq.trans rfl (gp2 (sep_emp _).symm (asg (asg rfl)))) ⟨_, rfl⟩ ?_
  (refine Sd.exec 7 rfl rfl rfl rfl rfl ?hrest (by rfl) (fun Xz7 Kz7 hKz7 => ?_); case hrest => kernel_rfl)
  refine RunL.mem (fl2 (flS (flS rfl)) (sep_emp _)) ?_
  refine RunL.call cal54 rfl (s54a (Rd.right rdz6) (Rd.right rdy1).left.left.left.left.left (Alls.right al).left.left.left.left rfl rfl (by assumption) (by omega)) rfl (fun vz8 Az8 hz8 => ?_)
  obtain ⟨z9, rfl⟩ := hz8
  refine RunL.know (fun w s => (s.conv rfl).ownRd0) (fun rdz10 => ?_)
  refine Sd.ret hKz7 (Eq.trans rfl (gp2 (sep_emp _).symm (asg (asg (asg (asg rfl)))))) ⟨_, (asg rfl)⟩ ?_
  refine Sd.quiet 8 _ _ rfl rfl rfl rfl rfl (QOp.ok (fun X => OpOk.strOf rfl rfl rfl rfl (Rd.right (Rd.right rdz10)).left)) ?_
  refine Sd.quiet 9 _ _ rfl rfl rfl rfl rfl (QOp.ok (fun X => OpOk.as (c := false) (OpOk.neqSS rfl rfl) (by rw [decide_eq_true (by omega)]; rfl))) ?_
  refine Sd.quiet 10 _ _ rfl rfl rfl rfl rfl (QOp.ok (fun X => OpOk.move rfl)) ?_
  refine Sd.quiet 11 _ _ rfl rfl rfl rfl rfl (QOp.ok (fun X => OpOk.move rfl)) ?_
  refine Sd.quiet 12 _ _ rfl rfl rfl rfl rfl (QOp.ok (fun X => OpOk.asT (OpOk.eql rfl rfl) (by omega))) ?_
  refine Sd.quiet 13 _ _ rfl rfl rfl rfl rfl (QOp.ok (fun X => OpOk.move rfl)) ?_
  refine Sd.quiet 14 _ _ rfl rfl rfl rfl rfl (QOp.ok (fun X => OpOk.asT (OpOk.eql rfl rfl) (by omega))) ?_
  refine Sd.quiet 15 _ _ rfl rfl rfl rfl rfl (QOp.ok (fun X => OpOk.neqB rfl rfl rfl)) ?_
  refine Sd.quiet 16 _ _ rfl rfl rfl rfl rfl (QOp.ok (fun X => OpOk.pickF rfl rfl)) ?_
  refine Sd.quiet 17 _ _ rfl rfl rfl rfl rfl (QOp.ok (fun X => OpOk.move rfl)) ?_
  refine Sd.quiet 18 _ _ rfl rfl rfl rfl rfl (QOp.ok (fun X => OpOk.move rfl)) ?_
  refine Sd.quiet 19 _ _ rfl rfl rfl rfl rfl (QOp.ok (fun X => OpOk.asF (OpOk.lss rfl rfl) (by omega))) ?_
  refine Sd.quiet 20 _ _ rfl rfl rfl rfl rfl (QOp.ok (fun X => OpOk.move rfl)) ?_
  refine Sd.skip 21 _ rfl rfl rfl rfl rfl ?_
  refine Sd.skip 22 _ rfl rfl rfl rfl rfl ?_
  refine Sd.quiet 23 _ _ rfl rfl rfl rfl rfl (QOp.ok (fun X => OpOk.pickF rfl rfl)) ?_
  refine Sd.quiet 24 _ _ rfl rfl rfl rfl rfl (QOp.ok (fun X => OpOk.pickF rfl rfl)) ?_
  (apply Sd.tail; case hall => kernel_rfl)
  refine RunL.mem (fl2 (flS (flS (flS (flS rfl)))) (sep_emp _)) ?_
  refine RunL.nil ?_
  refine Run.condF rfl ?_
  refine Run.skip ?_
  refine Run.seq ?_
  refine Run.seq ?_
  refine Run.region ?_
  refine RunL.ok (OpOk.move rfl) rfl ?_
  refine RunL.ok (OpOk.asF (OpOk.lss rfl rfl) (by omega)) rfl ?_
  refine RunL.nil ?_
  refine Run.condF rfl ?_
  refine Run.skip ?_
  refine Run.seq ?_
  refine Run.region ?_
  refine RunL.ok (OpOk.move rfl) rfl ?_
  refine RunL.mem (frc (frl (frl (frl (frl rfl)))) rfl) ?_
  refine RunL.call cal39 rfl (s39f (by assumption)) rfl (fun vz15 Az15 hz15 => ?_)
  obtain ⟨z16, ⟨z17, ⟨z18, ⟨rfl, rfl⟩⟩⟩⟩ := hz15
  refine RunL.ok (OpOk.move rfl) rfl ?_
  refine RunL.ok (OpOk.ext20 rfl) rfl ?_
  refine RunL.ok (OpOk.ext21 rfl) rfl ?_
  refine RunL.alloc ti86 rfl (fun bz19 => ?_)
  refine RunL.storeAll ti86 rfl rfl rfl (ones rfl) rfl rfl ?_
  refine RunL.ok (OpOk.assign rfl) rfl ?_
  refine RunL.nil ?_
  refine Run.seq ?_
  rw [rw_c]
  rw [rw_i]
  refine Run.region ?_
  refine RunL.ok (OpOk.move rfl) rfl ?_
  refine RunL.ok (OpOk.asT (OpOk.eql rfl rfl) (by omega)) rfl ?_
  refine RunL.ok (OpOk.move rfl) rfl ?_
  refine RunL.on rfl rfl ?_
  refine RunL.ok (OpOk.fieldAddr fld86_0 rfl) rfl ?_
  refine RunL.on rfl rfl ?_
  refine RunL.ok (OpOk.load rfl rfl rfl (Blk.out Blk.pts _ _ (by first | rfl | assumption))) rfl ?_
  refine RunL.on rfl rfl ?_
  refine RunL.ok (OpOk.move rfl) rfl ?_
  refine RunL.on rfl rfl ?_
  refine RunL.ok (OpOk.asT (OpOk.eql rfl rfl) (by omega)) rfl ?_
  refine RunL.ok (OpOk.pickT rfl rfl) rfl ?_
  refine RunL.ok (OpOk.move rfl) rfl ?_
  refine RunL.on rfl rfl ?_
  refine RunL.ok (OpOk.fieldAddr fld86_1 rfl) rfl ?_
  refine RunL.on rfl rfl ?_
  refine RunL.ok (OpOk.load rfl rfl rfl (Blk.out Blk.pts _ _ (by first | rfl | assumption))) rfl ?_
  refine RunL.on rfl rfl ?_
  refine RunL.ok (OpOk.move rfl) rfl ?_
  refine RunL.on rfl rfl ?_
  refine RunL.ok (OpOk.asT (OpOk.eql rfl rfl) (by omega)) rfl ?_
  refine RunL.ok (OpOk.pickT rfl rfl) rfl ?_
  refine RunL.ok (OpOk.move rfl) rfl ?_
  refine RunL.on rfl rfl ?_
  refine RunL.ok (OpOk.fieldAddr fld86_2 rfl) rfl ?_
  refine RunL.on rfl rfl ?_
  refine RunL.ok (OpOk.load rfl rfl rfl (Blk.out Blk.pts _ _ (by first | rfl | assumption))) rfl ?_
  refine RunL.on rfl rfl ?_
  refine RunL.ok (OpOk.asT (OpOk.eql rfl rfl) (by omega)) rfl ?_
  refine RunL.ok (OpOk.pickT rfl rfl) rfl ?_
  refine RunL.ok (OpOk.move rfl) rfl ?_
  refine RunL.on rfl rfl ?_
  refine RunL.ok (OpOk.fieldAddr fld86_4 rfl) rfl ?_
  refine RunL.on rfl rfl ?_
  refine RunL.ok (OpOk.load rfl rfl rfl (Blk.out Blk.pts _ _ (by first | rfl | assumption))) rfl ?_
  refine RunL.on rfl rfl ?_
  refine RunL.ok (OpOk.lenV rfl rfl rfl) rfl ?_
  refine RunL.on rfl rfl ?_
  refine RunL.ok (OpOk.eql rfl rfl) rfl ?_
  refine RunL.ok (OpOk.pickT rfl rfl) rfl ?_
  refine RunL.ok (OpOk.assign rfl) rfl ?_
  refine RunL.nil ?_
  refine Run.ret1 Try.func11 rfl rfl ?_
  exact ⟨_, rfl, (asg (asg (asg (asg (asg (asg (asg (asg (asg (asg (asg (asg (asg (asg (asg (asg (asg (asg as1))))))))))))))))))⟩
theorem formats_two (rd : Rd w0 A u 1 m (B bs)) (hn : namedP a b) (h2 : n = 2) :
    Spec Try.prog w0 11 [.agg #[u, .int .i64 a, .int .i64 b, .int .i64 n]] A (fun v' A' => ∃ J, v' = .bool true ∧ A' = A * J) := by
  have hl := imgB_len bs
  have hn2 := hn
  obtain ⟨n1, n2, n3, n4⟩ := hn2
  have rdn : Rd w0 A (.slice none 0 0) 4 0 (Fl encT111 ([] : List En)) := Rd.nil 4
  have hes : ∀ e ∈ ([] : List En), okE e := fun e h => by cases h
  obtain ⟨a, rfl⟩ := Int.eq_ofNat_of_zero_le (by omega : 0 ≤ a)
  obtain ⟨b, rfl⟩ := Int.eq_ofNat_of_zero_le (by omega : 0 ≤ b)
  have hface := B_face (a := a) (b := b) (by omega) (by omega)
  have hfl : (faceB (a : Int) (b : Int)).length = 5 := rfl
  have hfl2 := face_len (a : Int) (b : Int)
  have hyl := fmt2_len hl
  have hdl := d0_len
  obtain ⟨zs, hzs⟩ : ∃ zs, fmt2 (imgB bs) = zs := ⟨_, rfl⟩
  have hzl : zs.length = 512 := by rw [← hzs]; exact hyl
  have hzd : zs = doneF (imgB bs) [(1, sectB (listB 1 [])), (2, List.replicate 32 0)] := hzs.symm
  have hW : Wrote (imgB bs) (max n (-1)) 1 [sectB (listB 1 []), List.replicate 32 0] zs 0 0 := ⟨by rw [show max n (-1) = 2 by omega, ← hzs]; rfl⟩
  have hw : max n (-1) ≤ 9223372036854775807 := by omega
  have hW2 : Wrote zs 0 0 [sectB (faceB (a : Int) (b : Int))] zs 0 30 := ⟨rfl⟩
  refine Spec.of_run [(0, .agg #[u, .int .i64 (a : Int), .int .i64 (b : Int), .int .i64 n])] Try.func11 rfl (Nat.le_of_ble_eq_true rfl) (by repeat (first | exact trivial | refine ⟨rfl, ?_⟩)) ?_
  refine Run.seq ?_
  refine Run.region ?_
  refine RunL.box rfl rfl (fun bx1 => ?_)
  refine RunL.ok (OpOk.assign rfl) rfl ?_
  refine RunL.nil ?_
  refine Run.seq ?_
  (apply Run.drawD [] (by rfl) (sep_emp _).symm; case hchk => kernel_rfl)
  refine Sd.quiet 0 _ _ rfl rfl rfl rfl rfl (QOp.ok (fun X => OpOk.fieldAddr fld100_0 rfl)) ?_
  refine Sd.quiet 1 _ _ rfl rfl rfl rfl rfl (QOp.ok (fun X => OpOk.load rfl rfl rfl (Blk.out Blk.pts.left.left _ _ (by first | rfl | assumption)))) ?_
  refine Sd.quiet 2 _ _ rfl rfl rfl rfl rfl (QOp.ok (fun X => OpOk.fieldAddr fld100_1 rfl)) ?_
  refine Sd.quiet 3 _ _ rfl rfl rfl rfl rfl (QOp.ok (fun X => OpOk.load rfl rfl rfl (Blk.out Blk.pts.left.left _ _ (by first | rfl | assumption)))) ?_
  refine Sd.quiet 4 _ _ rfl rfl rfl rfl rfl (QOp.ok (fun X => OpOk.fieldAddr fld100_2 rfl)) ?_
  refine Sd.quiet 5 _ _ rfl rfl rfl rfl rfl (QOp.ok (fun X => OpOk.load rfl rfl rfl (Blk.out Blk.pts.left.left _ _ (by first | rfl | assumption)))) ?_
  refine Sd.quiet 6 _ _ rfl rfl rfl rfl rfl (QOp.ok (fun X => OpOk.fieldAddr fld100_3 rfl)) ?_
  refine Sd.quiet 7 _ _ rfl rfl rfl rfl rfl (QOp.ok (fun X => OpOk.load rfl rfl rfl (Blk.out Blk.pts.left.left _ _ (by first | rfl | assumption)))) ?_
  refine Sd.quiet 8 _ _ rfl rfl rfl rfl rfl (QOp.ok (fun X => OpOk.assign rfl)) ?_
  refine Sd.quiet 9 _ _ rfl rfl rfl rfl rfl (QOp.ok (fun X => OpOk.assign rfl)) ?_
  refine Sd.quiet 10 _ _ rfl rfl rfl rfl rfl (QOp.ok (fun X => OpOk.assign rfl)) ?_
  refine Sd.quiet 11 _ _ rfl rfl rfl rfl rfl (QOp.ok (fun X => OpOk.assign rfl)) ?_
  (apply Sd.tail; case hall => kernel_rfl)
  refine RunL.mem (fl2 (sep_emp _) (sep_emp _)) ?_
  refine RunL.nil ?_
  refine Run.seq ?_
  refine Run.seq ?_
  refine Run.region ?_
  refine RunL.call cal37 rfl (s37) rfl (fun vx2 Ax2 hx2 => ?_)
  obtain ⟨x3, ⟨rfl, rfl⟩⟩ := hx2
  refine RunL.ok (OpOk.not rfl) rfl ?_
  refine RunL.nil ?_
  refine Run.condF rfl ?_
  refine Run.skip ?_
  refine Run.seq ?_
  refine Run.region ?_
  refine RunL.ok (OpOk.move rfl) rfl ?_
  refine RunL.call cal38 rfl (s38 rd.left.left) rfl (fun vx4 Ax4 hx4 => ?_)
  obtain ⟨x5, ⟨x6, ⟨rfl, rfl⟩⟩⟩ := hx4
  refine RunL.ok (OpOk.assign rfl) rfl ?_
  refine RunL.nil ?_
  refine Run.seq ?_
  refine Run.seq ?_
  refine Run.region ?_
  refine RunL.ok (OpOk.move rfl) rfl ?_
  refine RunL.ok (OpOk.eqlPN rfl rfl) rfl ?_
  refine RunL.nil ?_
  refine Run.condF rfl ?_
  refine Run.skip ?_
  refine Run.seq ?_
  refine Run.region ?_
  refine RunL.ok (OpOk.move rfl) rfl ?_
  refine RunL.ok (OpOk.move rfl) rfl ?_
  refine RunL.call cal50 rfl (s50 (by assumption)) rfl (fun vx7 Ax7 hx7 => ?_)
  obtain ⟨rfl, rfl⟩ := hx7
  refine RunL.nil ?_
  refine Run.seq ?_
  refine Run.region ?_
  refine RunL.ok (OpOk.move rfl) rfl ?_
  refine RunL.ok (OpOk.move rfl) rfl ?_
  refine RunL.ok (OpOk.move rfl) rfl ?_
  refine RunL.call cal51 rfl (s51c (by assumption) (by assumption) (by assumption) (by assumption) (by assumption) (by assumption) (by omega) rfl) rfl (fun vx10 Ax10 hx10 => ?_)
  obtain ⟨x11, ⟨rfl, rfl⟩⟩ := hx10
  refine RunL.ok (OpOk.assign rfl) rfl ?_
  refine RunL.nil ?_
  refine Run.seq ?_
  refine Run.seq ?_
  refine Run.region ?_
  refine RunL.ok (OpOk.move rfl) rfl ?_
  refine RunL.ok (OpOk.asF (OpOk.lss rfl rfl) (by omega)) rfl ?_
  refine RunL.ok (OpOk.move rfl) rfl ?_
  refine RunL.on rfl rfl ?_
  refine RunL.ok (OpOk.move rfl) rfl ?_
  refine RunL.on rfl rfl ?_
  refine RunL.ok (OpOk.asF (OpOk.gtr rfl rfl) (by omega)) rfl ?_
  refine RunL.ok (OpOk.pickF rfl rfl) rfl ?_
  refine RunL.ok (OpOk.move rfl) rfl ?_
  refine RunL.on rfl rfl ?_
  refine RunL.ok (OpOk.move rfl) rfl ?_
  refine RunL.on rfl rfl ?_
  refine RunL.ok (OpOk.asF (OpOk.lss rfl rfl) (by omega)) rfl ?_
  refine RunL.ok (OpOk.pickF rfl rfl) rfl ?_
  refine RunL.ok (OpOk.move rfl) rfl ?_
  refine RunL.on rfl rfl ?_
  refine RunL.ok (OpOk.move rfl) rfl ?_
  refine RunL.on rfl rfl ?_
  refine RunL.ok (OpOk.asF (OpOk.gtr rfl rfl) (by omega)) rfl ?_
  refine RunL.ok (OpOk.pickF rfl rfl) rfl ?_
  refine RunL.nil ?_
  refine Run.condF rfl ?_
  refine Run.skip ?_
  refine Run.seq ?_
  (apply Run.drawD [] (by rfl) (sep_emp _).symm; case hchk => kernel_rfl)
  refine Sd.quiet 5 _ _ rfl rfl rfl rfl rfl (QOp.ok (fun X => OpOk.move rfl)) ?_
  refine Sd.quiet 6 _ _ rfl rfl rfl rfl rfl (QOp.ok (fun X => OpOk.quoN _ 256 rfl rfl rfl rfl (by omega) (by omega))) ?_
  refine Sd.quiet 7 _ _ rfl rfl rfl rfl rfl (QOp.ok (fun X => OpOk.convInt rfl rfl rfl (wrapU8 (by omega) (by omega)))) ?_
  refine Sd.quiet 8 _ _ rfl rfl rfl rfl rfl (QOp.ok (fun X => OpOk.move rfl)) ?_
  refine Sd.quiet 9 _ _ rfl rfl rfl rfl rfl (QOp.ok (fun X => OpOk.convInt rfl rfl rfl (wrapU8m _))) ?_
  refine Sd.quiet 10 _ _ rfl rfl rfl rfl rfl (QOp.ok (fun X => OpOk.move rfl)) ?_
  refine Sd.quiet 11 _ _ rfl rfl rfl rfl rfl (QOp.ok (fun X => OpOk.convInt rfl rfl rfl (wrapU8 (by omega) (by omega)))) ?_
  apply Sd.make 12 (by rfl) (by rfl) (by rfl) (by rfl) (by rfl) (by rfl)
  case h =>
    intro Xx15 Kx15 hKx15
    refine RunL.mem (sep_emp _) ?_
    refine RunL.lits rfl ti5 rfl rfl rfl (by simp [Value.cells]) (by decide) rfl (fun vx16 rdx16 => ?_)
    exact RunL.mem (Eq.trans rfl (gp2 rfl (sep_emp _).symm)) (hKx15 _)
  apply Sd.make 3 (by rfl) (by rfl) (by rfl) (by rfl) (by rfl) (by rfl)
  case h =>
    intro Xx20 Kx20 hKx20
    refine RunL.mem (sep_emp _) ?_
    refine RunL.makeB (m := 32) rfl ti5 rfl rfl (by omega) rfl (fun vx21 rdx21 => ?_)
    exact RunL.mem (Eq.trans rfl (gp2 rfl (sep_emp _).symm)) (hKx20 _)
  refine Sd.link 4 3 _ _ (fun u => Value.agg #[.int (IntKind.i64) (2), u]) (List.mem_cons_self ..) (by rfl) (by rfl) (by rfl) (fun _ => by rfl) (by rfl) (by rfl) (fun u hu => (by obtain ⟨ad, cap, rfl, _, _⟩ := (rdOf hu).form; exact QOp.ok (fun X => OpOk.build rfl (fun w => run_build w 104 _ _ (by rfl))))) ?_
  (refine Sd.exec 0 rfl rfl rfl rfl rfl ?hrest (by rfl) (fun Xx27 Kx27 hKx27 => ?_); case hrest => kernel_rfl)
  refine RunL.mem (fl2 (sep_emp _) (sep_emp _)) ?_
  refine RunL.call cal53 rfl (s53 rdn.left.left.left.left.left.left (by omega) (by omega) (by omega) (by assumption)) rfl (fun vx28 Ax28 hx28 => ?_)
  obtain ⟨x29, rfl⟩ := hx28
  refine RunL.know (fun w s => (s.conv rfl).ownRd0) (fun rdx30 => ?_)
  refine Sd.ret hKx27 (Eq.trans rfl (gp2 (sep_emp _).symm (asg rfl))) ⟨_, (emp_sep _).symm⟩ ?_
  (refine Sd.exec 1 rfl rfl rfl rfl rfl ?hrest (by rfl) (fun Xx33 Kx33 hKx33 => ?_); case hrest => kernel_rfl)
  refine RunL.mem (fl2 (flS rfl) (sep_emp _)) ?_
  refine RunL.call cal52 rfl (s52a (Rd.right rdx30) (by omega)) rfl (fun vx34 Ax34 hx34 => ?_)
  obtain ⟨x35, ⟨x36, ⟨x37, ⟨rfl, rfl⟩⟩⟩⟩ := hx34
  refine RunL.know (fun w s => (s.conv rfl).ownRd0) (fun rdx38 => ?_)
  refine Sd.ret hKx33 (Eq.trans rfl (gp2 (sep_emp _).symm (asg (asg (asg rfl))))) ⟨_, (asg rfl)⟩ ?_
  refine Sd.quiet 2 _ _ rfl rfl rfl rfl rfl (QOp.ok (fun X => OpOk.build (cells := #[.int (IntKind.i64) (1), .slice (x35) (32) (x36)]) rfl (fun w => run_build w 104 _ _ (by rfl)))) ?_
  (refine Sd.swap ?_; refine Sd.take 12 _ ?hrest (fun vx40 hvx40 => ?_); case hrest => kernel_rfl)
  have rdx40 := rdOf hvx40
  (refine Sd.exec 13 rfl rfl rfl rfl rfl ?hrest (by rfl) (fun Xx42 Kx42 hKx42 => ?_); case hrest => kernel_rfl)
  refine RunL.mem (fl2 (flS (flS (flS (flS rfl)))) (sep_emp _)) ?_
  refine RunL.call cal52 rfl (s52b (Rd.right rdx40) (by assumption) (by omega)) rfl (fun vx44 Ax44 hx44 => ?_)
  obtain ⟨x45, ⟨x46, ⟨x47, ⟨rfl, rfl⟩⟩⟩⟩ := hx44
  refine RunL.know (fun w s => (s.conv rfl).ownRd0) (fun rdx48 => ?_)
  refine Sd.ret hKx42 (Eq.trans rfl (gp2 (sep_emp _).symm (asg (asg (asg (asg (asg (asg rfl)))))))) ⟨_, (asg rfl)⟩ ?_
  refine Sd.quiet 14 _ _ rfl rfl rfl rfl rfl (QOp.ok (fun X => OpOk.build (cells := #[.int (IntKind.i64) (0), .slice (x45) (32) (x46)]) rfl (fun w => run_build w 104 _ _ (by rfl)))) ?_
  (refine Sd.take 3 _ ?hrest (fun vx49 hvx49 => ?_); case hrest => kernel_rfl)
  have rdx49 := rdOf hvx49
  refine Sd.told 4 3 _ _ _ (by rfl) ?_
  (refine Sd.exec 15 rfl rfl rfl rfl rfl ?hrest (by rfl) (fun Xx50 Kx50 hKx50 => ?_); case hrest => kernel_rfl)
  refine RunL.mem (fl2 (flS (flS (flS (flS (flS (flS (flS rfl))))))) (sep_emp _)) ?_
  obtain ⟨ad49, cap49, rfl, _, _⟩ := rdx49.form
  refine RunL.litFl (enc := encT104) (fmtRows (sectB (listB 1 [])) (sectB (faceB (a : Int) (b : Int))) x35 x36 ad49 cap49 x45 x46) rfl ti104 rfl (fun _ => rfl) rfl rfl (by decide) (by decide) rfl (fun vr rdr => ?_)
  have drawStop : True := trivial
  refine RunL.know (fun w s => (s.conv rfl).ownRd0) (fun rdy1 => ?_)
  refine Sd.ret hKx50 (Eq.trans rfl (gp2 (sep_emp _).symm (asg (asg (asg (asg (asg (asg (asg (asg rfl)))))))))) ⟨_, rfl⟩ ?_
  refine Sd.quiet 16 _ _ rfl rfl rfl rfl rfl (QOp.ok (fun X => OpOk.assign rfl)) ?_
  (apply Sd.tail; case hall => kernel_rfl)
  refine RunL.mem (fl2 (flS (flS (flS (flS (flS (flS (flS (flS rfl)))))))) (sep_emp _)) ?_
  refine RunL.nil ?_
  refine Run.seq ?_
  refine Run.region ?_
  refine RunL.ok (OpOk.assign rfl) rfl ?_
  refine RunL.nil ?_
  refine Run.seq ?_
  refine Run.seq ?_
  refine Run.region ?_
  refine RunL.ok (OpOk.move rfl) rfl ?_
  refine RunL.ok (OpOk.asT (OpOk.geq rfl rfl) (by omega)) rfl ?_
  refine RunL.ok (OpOk.move rfl) rfl ?_
  refine RunL.on rfl rfl ?_
  refine RunL.ok (OpOk.move rfl) rfl ?_
  refine RunL.on rfl rfl ?_
  refine RunL.ok (OpOk.asT (OpOk.lss rfl rfl) (by omega)) rfl ?_
  refine RunL.ok (OpOk.pickT rfl rfl) rfl ?_
  refine RunL.nil ?_
  refine Run.condT rfl ?_
  refine Run.region ?_
  refine RunL.ok (OpOk.move rfl) rfl ?_
  refine RunL.ok (OpOk.assign rfl) rfl ?_
  refine RunL.nil ?_
  refine Run.seq ?_
  refine Run.seq ?_
  clear drawStop
  obtain ⟨M, hM⟩ : ∃ M, own 5 1 (.slice x35 32 x36) 32 (B (sectB (listB 1 []))) * own 5 1 (.slice ad49 32 cap49) 32 (B (List.replicate 32 0)) * own 5 1 (.slice x45 32 x46) 32 (B (sectB (faceB (a : Int) (b : Int)))) = M := ⟨_, rfl⟩
  have al : Alls (GR w0) M (fmtRows (sectB (listB 1 [])) (sectB (faceB (a : Int) (b : Int))) x35 x36 ad49 cap49 x45 x46) := by
    rw [← hM]
    refine Alls.cons ?_ (Alls.cons ?_ (Alls.cons ?_ Alls.nil))
    · show Rd w0 _ (.slice x35 32 x36) 1 (sectB (listB 1 [])).length (B (sectB (listB 1 [])))
      rw [hdl]
      exact Rd.left (Rd.left rdx38)
    · exact Rd.left (Rd.right rdx49)
    · show Rd w0 _ (.slice x45 32 x46) 1 (sectB (faceB (a : Int) (b : Int))).length (B (sectB (faceB (a : Int) (b : Int))))
      rw [hfl2]
      exact Rd.right rdx48
  have hok : ∀ p ∈ (fmtRows (sectB (listB 1 [])) (sectB (faceB (a : Int) (b : Int))) x35 x36 ad49 cap49 x45 x46), okRow (rc p) := fun p hp => by
    simp only [List.mem_cons, List.not_mem_nil, or_false] at hp
    rcases hp with rfl | rfl | rfl
    · exact ⟨by show 1 ≤ 15; decide, hdl⟩
    · exact ⟨by show 2 ≤ 15; decide, by show (List.replicate 32 (0 : UInt8)).length = 32; simp⟩
    · exact ⟨by show 0 ≤ 15; decide, hfl2⟩
  have hdz : zs = doneF (imgB bs) (((fmtRows (sectB (listB 1 [])) (sectB (faceB (a : Int) (b : Int))) x35 x36 ad49 cap49 x45 x46).map rc).take n.toNat) := (by rw [h2]; exact hzd)
  refine Run.mem (A' := A * pts bx1 (.cells (Value.agg #[u, .int .i64 (a : Int), .int .i64 (b : Int), .int .i64 n]).cells 100 (0, 0)) * x3 * x6 * x11 * pts x5 (.cells (B (zs) ++ [Value.int .i64 (0)]).toArray 177 (0, 0)) * x29 * own 5 1 vx28 (3 + 5 * 0) (B (listB 1 [])) * x37 * own 5 1 vx40 5 [Value.int .u8 70, Value.int .u8 66, Value.int .u8 ((a / 256 : Nat) : Int), Value.int .u8 ((a : Int) % 256), Value.int .u8 (b : Int)] * x47 * own 104 2 vr 3 (Fl encT104 (fmtRows (sectB (listB 1 [])) (sectB (faceB (a : Int) (b : Int))) x35 x36 ad49 cap49 x45 x46)) * M) ?_ ?_
  · rw [← hM]
    simp only [← sep_assoc]
    exact (frc (frl (frl rfl)) (frc (frl rfl) (frc (frl (frl (frl rfl))) rfl)))
  (apply Run.drawD [] (by rfl) (Eq.trans (frc (frl (frl (frl (frl (frl (frl (frl rfl))))))) rfl) rfl); case hchk => kernel_rfl)
  refine Sd.quiet 0 _ _ rfl rfl rfl rfl rfl (QOp.ok (fun X => OpOk.move rfl)) ?_
  refine Sd.quiet 3 _ _ rfl rfl rfl rfl rfl (QOp.ok (fun X => OpOk.move rfl)) ?_
  refine Sd.quiet 5 _ _ rfl rfl rfl rfl rfl (QOp.ok (fun X => OpOk.move rfl)) ?_
  refine Sd.quiet 6 _ _ rfl rfl rfl rfl rfl (QOp.ok (fun X => OpOk.move rfl)) ?_
  (refine Sd.exec 1 rfl rfl rfl rfl rfl ?hrest (by rfl) (fun Xz1 Kz1 hKz1 => ?_); case hrest => kernel_rfl)
  refine RunL.mem (fl2 (sep_emp _) rfl) ?_
  refine RunL.call cal49 rfl (s49 (by assumption)) rfl (fun vz2 Az2 hz2 => ?_)
  obtain rfl := hz2
  refine RunL.know (fun w s => (s.conv rfl).ownRd0) (fun rdz3 => ?_)
  refine Sd.ret hKz1 (Eq.trans rfl (gp2 (sep_emp _).symm (asg rfl))) ⟨_, (emp_sep _).symm⟩ ?_
  refine Sd.quiet 2 _ _ rfl rfl rfl rfl rfl (QOp.ok (fun X => OpOk.strOf rfl rfl rfl rfl (Rd.right (Rd.right rdz3)).left)) ?_
  (refine Sd.exec 4 rfl rfl rfl rfl rfl ?hrest (by rfl) (fun Xz4 Kz4 hKz4 => ?_); case hrest => kernel_rfl)
  refine RunL.mem (fl2 (flS rfl) (sep_emp _)) ?_
  refine RunL.call cal41 rfl (s41 rd.left.left.left.left.left.left.left.left.left.left.left.left.left.left) rfl (fun vz5 Az5 hz5 => ?_)
  obtain rfl := hz5
  refine RunL.know (fun w s => (s.conv rfl).ownRd0) (fun rdz6 => ?_)
  refine Sd.ret hKz4 (Eq.trans rfl (gp2 (sep_emp _).symm (asg (asg rfl)))) ⟨_, rfl⟩ ?_
  (refine Sd.exec 7 rfl rfl rfl rfl rfl ?hrest (by rfl) (fun Xz7 Kz7 hKz7 => ?_); case hrest => kernel_rfl)
  refine RunL.mem (fl2 (flS (flS rfl)) (sep_emp _)) ?_
  refine RunL.call cal54 rfl (s54a (Rd.right rdz6) (Rd.right rdy1).left.left.left.left.left (Alls.right al).left.left.left.left rfl rfl (by assumption) (by omega)) rfl (fun vz8 Az8 hz8 => ?_)
  obtain ⟨z9, rfl⟩ := hz8
  refine RunL.know (fun w s => (s.conv rfl).ownRd0) (fun rdz10 => ?_)
  refine Sd.ret hKz7 (Eq.trans rfl (gp2 (sep_emp _).symm (asg (asg (asg (asg rfl)))))) ⟨_, (asg rfl)⟩ ?_
  refine Sd.quiet 8 _ _ rfl rfl rfl rfl rfl (QOp.ok (fun X => OpOk.strOf rfl rfl rfl rfl (Rd.right (Rd.right rdz10)).left)) ?_
  refine Sd.quiet 9 _ _ rfl rfl rfl rfl rfl (QOp.ok (fun X => OpOk.as (c := false) (OpOk.neqSS rfl rfl) (by rw [decide_eq_true (by omega)]; rfl))) ?_
  refine Sd.quiet 10 _ _ rfl rfl rfl rfl rfl (QOp.ok (fun X => OpOk.move rfl)) ?_
  refine Sd.quiet 11 _ _ rfl rfl rfl rfl rfl (QOp.ok (fun X => OpOk.move rfl)) ?_
  refine Sd.quiet 12 _ _ rfl rfl rfl rfl rfl (QOp.ok (fun X => OpOk.asF (OpOk.eql rfl rfl) (by omega))) ?_
  refine Sd.quiet 13 _ _ rfl rfl rfl rfl rfl (QOp.ok (fun X => OpOk.move rfl)) ?_
  refine Sd.quiet 14 _ _ rfl rfl rfl rfl rfl (QOp.ok (fun X => OpOk.asF (OpOk.eql rfl rfl) (by omega))) ?_
  refine Sd.quiet 15 _ _ rfl rfl rfl rfl rfl (QOp.ok (fun X => OpOk.neqB rfl rfl rfl)) ?_
  refine Sd.quiet 16 _ _ rfl rfl rfl rfl rfl (QOp.ok (fun X => OpOk.pickF rfl rfl)) ?_
  refine Sd.quiet 17 _ _ rfl rfl rfl rfl rfl (QOp.ok (fun X => OpOk.move rfl)) ?_
  refine Sd.quiet 18 _ _ rfl rfl rfl rfl rfl (QOp.ok (fun X => OpOk.move rfl)) ?_
  refine Sd.quiet 19 _ _ rfl rfl rfl rfl rfl (QOp.ok (fun X => OpOk.asT (OpOk.lss rfl rfl) (by omega))) ?_
  refine Sd.quiet 20 _ _ rfl rfl rfl rfl rfl (QOp.ok (fun X => OpOk.move rfl)) ?_
  refine Sd.quiet 21 _ _ rfl rfl rfl rfl rfl (QOp.ok (fun X => OpOk.move rfl)) ?_
  refine Sd.quiet 22 _ _ rfl rfl rfl rfl rfl (QOp.ok (fun X => OpOk.as (c := false) (OpOk.neq rfl rfl) (by rw [decide_eq_true (by omega)]; rfl))) ?_
  refine Sd.quiet 23 _ _ rfl rfl rfl rfl rfl (QOp.ok (fun X => OpOk.pickT rfl rfl)) ?_
  refine Sd.quiet 24 _ _ rfl rfl rfl rfl rfl (QOp.ok (fun X => OpOk.pickF rfl rfl)) ?_
  (apply Sd.tail; case hall => kernel_rfl)
  refine RunL.mem (fl2 (flS (flS (flS (flS rfl)))) (sep_emp _)) ?_
  refine RunL.nil ?_
  refine Run.condF rfl ?_
  refine Run.skip ?_
  refine Run.seq ?_
  refine Run.seq ?_
  refine Run.region ?_
  refine RunL.ok (OpOk.move rfl) rfl ?_
  refine RunL.ok (OpOk.asT (OpOk.lss rfl rfl) (by omega)) rfl ?_
  refine RunL.nil ?_
  refine Run.condT rfl ?_
  refine Run.seq ?_
  refine Run.region ?_
  refine RunL.ok (OpOk.assign rfl) rfl ?_
  refine RunL.nil ?_
  refine Run.ret1 Try.func11 rfl rfl ?_
  exact ⟨_, rfl, (asg (asg (asg (asg (asg (asg (asg (asg (asg (asg (asg (asg (asg (asg (asg as1)))))))))))))))⟩
theorem formats_one (rd : Rd w0 A u 1 m (B bs)) (hn : namedP a b) (h1 : n = 1) :
    Spec Try.prog w0 11 [.agg #[u, .int .i64 a, .int .i64 b, .int .i64 n]] A (fun v' A' => ∃ J, v' = .bool true ∧ A' = A * J) := by
  have hl := imgB_len bs
  have hn2 := hn
  obtain ⟨n1, n2, n3, n4⟩ := hn2
  have rdn : Rd w0 A (.slice none 0 0) 4 0 (Fl encT111 ([] : List En)) := Rd.nil 4
  have hes : ∀ e ∈ ([] : List En), okE e := fun e h => by cases h
  obtain ⟨a, rfl⟩ := Int.eq_ofNat_of_zero_le (by omega : 0 ≤ a)
  obtain ⟨b, rfl⟩ := Int.eq_ofNat_of_zero_le (by omega : 0 ≤ b)
  have hface := B_face (a := a) (b := b) (by omega) (by omega)
  have hfl : (faceB (a : Int) (b : Int)).length = 5 := rfl
  have hfl2 := face_len (a : Int) (b : Int)
  have hyl := fmt2_len hl
  have hdl := d0_len
  obtain ⟨zs, hzs⟩ : ∃ zs, setSec (imgB bs) 1 (sectB (listB 1 [])) = zs := ⟨_, rfl⟩
  have hzl : zs.length = 512 := by rw [← hzs]; exact setSec_len hl (by decide) hdl
  have hzd : zs = doneF (imgB bs) [(1, sectB (listB 1 []))] := hzs.symm
  have hW : Wrote (imgB bs) (max n (-1)) 1 [sectB (listB 1 []), List.replicate 32 0] zs 0 30 := ⟨by rw [show max n (-1) = 1 by omega, ← hzs]; rfl⟩
  have hw : max n (-1) ≤ 9223372036854775807 := by omega
  refine Spec.of_run [(0, .agg #[u, .int .i64 (a : Int), .int .i64 (b : Int), .int .i64 n])] Try.func11 rfl (Nat.le_of_ble_eq_true rfl) (by repeat (first | exact trivial | refine ⟨rfl, ?_⟩)) ?_
  refine Run.seq ?_
  refine Run.region ?_
  refine RunL.box rfl rfl (fun bx1 => ?_)
  refine RunL.ok (OpOk.assign rfl) rfl ?_
  refine RunL.nil ?_
  refine Run.seq ?_
  (apply Run.drawD [] (by rfl) (sep_emp _).symm; case hchk => kernel_rfl)
  refine Sd.quiet 0 _ _ rfl rfl rfl rfl rfl (QOp.ok (fun X => OpOk.fieldAddr fld100_0 rfl)) ?_
  refine Sd.quiet 1 _ _ rfl rfl rfl rfl rfl (QOp.ok (fun X => OpOk.load rfl rfl rfl (Blk.out Blk.pts.left.left _ _ (by first | rfl | assumption)))) ?_
  refine Sd.quiet 2 _ _ rfl rfl rfl rfl rfl (QOp.ok (fun X => OpOk.fieldAddr fld100_1 rfl)) ?_
  refine Sd.quiet 3 _ _ rfl rfl rfl rfl rfl (QOp.ok (fun X => OpOk.load rfl rfl rfl (Blk.out Blk.pts.left.left _ _ (by first | rfl | assumption)))) ?_
  refine Sd.quiet 4 _ _ rfl rfl rfl rfl rfl (QOp.ok (fun X => OpOk.fieldAddr fld100_2 rfl)) ?_
  refine Sd.quiet 5 _ _ rfl rfl rfl rfl rfl (QOp.ok (fun X => OpOk.load rfl rfl rfl (Blk.out Blk.pts.left.left _ _ (by first | rfl | assumption)))) ?_
  refine Sd.quiet 6 _ _ rfl rfl rfl rfl rfl (QOp.ok (fun X => OpOk.fieldAddr fld100_3 rfl)) ?_
  refine Sd.quiet 7 _ _ rfl rfl rfl rfl rfl (QOp.ok (fun X => OpOk.load rfl rfl rfl (Blk.out Blk.pts.left.left _ _ (by first | rfl | assumption)))) ?_
  refine Sd.quiet 8 _ _ rfl rfl rfl rfl rfl (QOp.ok (fun X => OpOk.assign rfl)) ?_
  refine Sd.quiet 9 _ _ rfl rfl rfl rfl rfl (QOp.ok (fun X => OpOk.assign rfl)) ?_
  refine Sd.quiet 10 _ _ rfl rfl rfl rfl rfl (QOp.ok (fun X => OpOk.assign rfl)) ?_
  refine Sd.quiet 11 _ _ rfl rfl rfl rfl rfl (QOp.ok (fun X => OpOk.assign rfl)) ?_
  (apply Sd.tail; case hall => kernel_rfl)
  refine RunL.mem (fl2 (sep_emp _) (sep_emp _)) ?_
  refine RunL.nil ?_
  refine Run.seq ?_
  refine Run.seq ?_
  refine Run.region ?_
  refine RunL.call cal37 rfl (s37) rfl (fun vx2 Ax2 hx2 => ?_)
  obtain ⟨x3, ⟨rfl, rfl⟩⟩ := hx2
  refine RunL.ok (OpOk.not rfl) rfl ?_
  refine RunL.nil ?_
  refine Run.condF rfl ?_
  refine Run.skip ?_
  refine Run.seq ?_
  refine Run.region ?_
  refine RunL.ok (OpOk.move rfl) rfl ?_
  refine RunL.call cal38 rfl (s38 rd.left.left) rfl (fun vx4 Ax4 hx4 => ?_)
  obtain ⟨x5, ⟨x6, ⟨rfl, rfl⟩⟩⟩ := hx4
  refine RunL.ok (OpOk.assign rfl) rfl ?_
  refine RunL.nil ?_
  refine Run.seq ?_
  refine Run.seq ?_
  refine Run.region ?_
  refine RunL.ok (OpOk.move rfl) rfl ?_
  refine RunL.ok (OpOk.eqlPN rfl rfl) rfl ?_
  refine RunL.nil ?_
  refine Run.condF rfl ?_
  refine Run.skip ?_
  refine Run.seq ?_
  refine Run.region ?_
  refine RunL.ok (OpOk.move rfl) rfl ?_
  refine RunL.ok (OpOk.move rfl) rfl ?_
  refine RunL.call cal50 rfl (s50 (by assumption)) rfl (fun vx7 Ax7 hx7 => ?_)
  obtain ⟨rfl, rfl⟩ := hx7
  refine RunL.nil ?_
  refine Run.seq ?_
  refine Run.region ?_
  refine RunL.ok (OpOk.move rfl) rfl ?_
  refine RunL.ok (OpOk.move rfl) rfl ?_
  refine RunL.ok (OpOk.move rfl) rfl ?_
  refine RunL.call cal51 rfl (s51b (by assumption) (by assumption) (by assumption) (by assumption) rfl) rfl (fun vx9 Ax9 hx9 => ?_)
  obtain ⟨x10, ⟨rfl, rfl⟩⟩ := hx9
  refine RunL.ok (OpOk.assign rfl) rfl ?_
  refine RunL.nil ?_
  refine Run.seq ?_
  refine Run.seq ?_
  refine Run.region ?_
  refine RunL.ok (OpOk.move rfl) rfl ?_
  refine RunL.ok (OpOk.asF (OpOk.lss rfl rfl) (by omega)) rfl ?_
  refine RunL.ok (OpOk.move rfl) rfl ?_
  refine RunL.on rfl rfl ?_
  refine RunL.ok (OpOk.move rfl) rfl ?_
  refine RunL.on rfl rfl ?_
  refine RunL.ok (OpOk.asF (OpOk.gtr rfl rfl) (by omega)) rfl ?_
  refine RunL.ok (OpOk.pickF rfl rfl) rfl ?_
  refine RunL.ok (OpOk.move rfl) rfl ?_
  refine RunL.on rfl rfl ?_
  refine RunL.ok (OpOk.move rfl) rfl ?_
  refine RunL.on rfl rfl ?_
  refine RunL.ok (OpOk.asF (OpOk.lss rfl rfl) (by omega)) rfl ?_
  refine RunL.ok (OpOk.pickF rfl rfl) rfl ?_
  refine RunL.ok (OpOk.move rfl) rfl ?_
  refine RunL.on rfl rfl ?_
  refine RunL.ok (OpOk.move rfl) rfl ?_
  refine RunL.on rfl rfl ?_
  refine RunL.ok (OpOk.asF (OpOk.gtr rfl rfl) (by omega)) rfl ?_
  refine RunL.ok (OpOk.pickF rfl rfl) rfl ?_
  refine RunL.nil ?_
  refine Run.condF rfl ?_
  refine Run.skip ?_
  refine Run.seq ?_
  (apply Run.drawD [] (by rfl) (sep_emp _).symm; case hchk => kernel_rfl)
  refine Sd.quiet 5 _ _ rfl rfl rfl rfl rfl (QOp.ok (fun X => OpOk.move rfl)) ?_
  refine Sd.quiet 6 _ _ rfl rfl rfl rfl rfl (QOp.ok (fun X => OpOk.quoN _ 256 rfl rfl rfl rfl (by omega) (by omega))) ?_
  refine Sd.quiet 7 _ _ rfl rfl rfl rfl rfl (QOp.ok (fun X => OpOk.convInt rfl rfl rfl (wrapU8 (by omega) (by omega)))) ?_
  refine Sd.quiet 8 _ _ rfl rfl rfl rfl rfl (QOp.ok (fun X => OpOk.move rfl)) ?_
  refine Sd.quiet 9 _ _ rfl rfl rfl rfl rfl (QOp.ok (fun X => OpOk.convInt rfl rfl rfl (wrapU8m _))) ?_
  refine Sd.quiet 10 _ _ rfl rfl rfl rfl rfl (QOp.ok (fun X => OpOk.move rfl)) ?_
  refine Sd.quiet 11 _ _ rfl rfl rfl rfl rfl (QOp.ok (fun X => OpOk.convInt rfl rfl rfl (wrapU8 (by omega) (by omega)))) ?_
  apply Sd.make 12 (by rfl) (by rfl) (by rfl) (by rfl) (by rfl) (by rfl)
  case h =>
    intro Xx14 Kx14 hKx14
    refine RunL.mem (sep_emp _) ?_
    refine RunL.lits rfl ti5 rfl rfl rfl (by simp [Value.cells]) (by decide) rfl (fun vx15 rdx15 => ?_)
    exact RunL.mem (Eq.trans rfl (gp2 rfl (sep_emp _).symm)) (hKx14 _)
  apply Sd.make 3 (by rfl) (by rfl) (by rfl) (by rfl) (by rfl) (by rfl)
  case h =>
    intro Xx19 Kx19 hKx19
    refine RunL.mem (sep_emp _) ?_
    refine RunL.makeB (m := 32) rfl ti5 rfl rfl (by omega) rfl (fun vx20 rdx20 => ?_)
    exact RunL.mem (Eq.trans rfl (gp2 rfl (sep_emp _).symm)) (hKx19 _)
  refine Sd.link 4 3 _ _ (fun u => Value.agg #[.int (IntKind.i64) (2), u]) (List.mem_cons_self ..) (by rfl) (by rfl) (by rfl) (fun _ => by rfl) (by rfl) (by rfl) (fun u hu => (by obtain ⟨ad, cap, rfl, _, _⟩ := (rdOf hu).form; exact QOp.ok (fun X => OpOk.build rfl (fun w => run_build w 104 _ _ (by rfl))))) ?_
  (refine Sd.exec 0 rfl rfl rfl rfl rfl ?hrest (by rfl) (fun Xx26 Kx26 hKx26 => ?_); case hrest => kernel_rfl)
  refine RunL.mem (fl2 (sep_emp _) (sep_emp _)) ?_
  refine RunL.call cal53 rfl (s53 rdn.left.left.left.left.left.left (by omega) (by omega) (by omega) (by assumption)) rfl (fun vx27 Ax27 hx27 => ?_)
  obtain ⟨x28, rfl⟩ := hx27
  refine RunL.know (fun w s => (s.conv rfl).ownRd0) (fun rdx29 => ?_)
  refine Sd.ret hKx26 (Eq.trans rfl (gp2 (sep_emp _).symm (asg rfl))) ⟨_, (emp_sep _).symm⟩ ?_
  (refine Sd.exec 1 rfl rfl rfl rfl rfl ?hrest (by rfl) (fun Xx32 Kx32 hKx32 => ?_); case hrest => kernel_rfl)
  refine RunL.mem (fl2 (flS rfl) (sep_emp _)) ?_
  refine RunL.call cal52 rfl (s52a (Rd.right rdx29) (by omega)) rfl (fun vx33 Ax33 hx33 => ?_)
  obtain ⟨x34, ⟨x35, ⟨x36, ⟨rfl, rfl⟩⟩⟩⟩ := hx33
  refine RunL.know (fun w s => (s.conv rfl).ownRd0) (fun rdx37 => ?_)
  refine Sd.ret hKx32 (Eq.trans rfl (gp2 (sep_emp _).symm (asg (asg (asg rfl))))) ⟨_, (asg rfl)⟩ ?_
  refine Sd.quiet 2 _ _ rfl rfl rfl rfl rfl (QOp.ok (fun X => OpOk.build (cells := #[.int (IntKind.i64) (1), .slice (x34) (32) (x35)]) rfl (fun w => run_build w 104 _ _ (by rfl)))) ?_
  (refine Sd.swap ?_; refine Sd.take 12 _ ?hrest (fun vx39 hvx39 => ?_); case hrest => kernel_rfl)
  have rdx39 := rdOf hvx39
  (refine Sd.exec 13 rfl rfl rfl rfl rfl ?hrest (by rfl) (fun Xx41 Kx41 hKx41 => ?_); case hrest => kernel_rfl)
  refine RunL.mem (fl2 (flS (flS (flS (flS rfl)))) (sep_emp _)) ?_
  refine RunL.call cal52 rfl (s52b (Rd.right rdx39) (by assumption) (by omega)) rfl (fun vx43 Ax43 hx43 => ?_)
  obtain ⟨x44, ⟨x45, ⟨x46, ⟨rfl, rfl⟩⟩⟩⟩ := hx43
  refine RunL.know (fun w s => (s.conv rfl).ownRd0) (fun rdx47 => ?_)
  refine Sd.ret hKx41 (Eq.trans rfl (gp2 (sep_emp _).symm (asg (asg (asg (asg (asg (asg rfl)))))))) ⟨_, (asg rfl)⟩ ?_
  refine Sd.quiet 14 _ _ rfl rfl rfl rfl rfl (QOp.ok (fun X => OpOk.build (cells := #[.int (IntKind.i64) (0), .slice (x44) (32) (x45)]) rfl (fun w => run_build w 104 _ _ (by rfl)))) ?_
  (refine Sd.take 3 _ ?hrest (fun vx48 hvx48 => ?_); case hrest => kernel_rfl)
  have rdx48 := rdOf hvx48
  refine Sd.told 4 3 _ _ _ (by rfl) ?_
  (refine Sd.exec 15 rfl rfl rfl rfl rfl ?hrest (by rfl) (fun Xx49 Kx49 hKx49 => ?_); case hrest => kernel_rfl)
  refine RunL.mem (fl2 (flS (flS (flS (flS (flS (flS (flS rfl))))))) (sep_emp _)) ?_
  obtain ⟨ad49, cap49, rfl, _, _⟩ := rdx48.form
  refine RunL.litFl (enc := encT104) (fmtRows (sectB (listB 1 [])) (sectB (faceB (a : Int) (b : Int))) x34 x35 ad49 cap49 x44 x45) rfl ti104 rfl (fun _ => rfl) rfl rfl (by decide) (by decide) rfl (fun vr rdr => ?_)
  have drawStop : True := trivial
  refine RunL.know (fun w s => (s.conv rfl).ownRd0) (fun rdy1 => ?_)
  refine Sd.ret hKx49 (Eq.trans rfl (gp2 (sep_emp _).symm (asg (asg (asg (asg (asg (asg (asg (asg rfl)))))))))) ⟨_, rfl⟩ ?_
  refine Sd.quiet 16 _ _ rfl rfl rfl rfl rfl (QOp.ok (fun X => OpOk.assign rfl)) ?_
  (apply Sd.tail; case hall => kernel_rfl)
  refine RunL.mem (fl2 (flS (flS (flS (flS (flS (flS (flS (flS rfl)))))))) (sep_emp _)) ?_
  refine RunL.nil ?_
  refine Run.seq ?_
  refine Run.region ?_
  refine RunL.ok (OpOk.assign rfl) rfl ?_
  refine RunL.nil ?_
  refine Run.seq ?_
  refine Run.seq ?_
  refine Run.region ?_
  refine RunL.ok (OpOk.move rfl) rfl ?_
  refine RunL.ok (OpOk.asT (OpOk.geq rfl rfl) (by omega)) rfl ?_
  refine RunL.ok (OpOk.move rfl) rfl ?_
  refine RunL.on rfl rfl ?_
  refine RunL.ok (OpOk.move rfl) rfl ?_
  refine RunL.on rfl rfl ?_
  refine RunL.ok (OpOk.asT (OpOk.lss rfl rfl) (by omega)) rfl ?_
  refine RunL.ok (OpOk.pickT rfl rfl) rfl ?_
  refine RunL.nil ?_
  refine Run.condT rfl ?_
  refine Run.region ?_
  refine RunL.ok (OpOk.move rfl) rfl ?_
  refine RunL.ok (OpOk.assign rfl) rfl ?_
  refine RunL.nil ?_
  refine Run.seq ?_
  refine Run.seq ?_
  clear drawStop
  obtain ⟨M, hM⟩ : ∃ M, own 5 1 (.slice x34 32 x35) 32 (B (sectB (listB 1 []))) * own 5 1 (.slice ad49 32 cap49) 32 (B (List.replicate 32 0)) * own 5 1 (.slice x44 32 x45) 32 (B (sectB (faceB (a : Int) (b : Int)))) = M := ⟨_, rfl⟩
  have al : Alls (GR w0) M (fmtRows (sectB (listB 1 [])) (sectB (faceB (a : Int) (b : Int))) x34 x35 ad49 cap49 x44 x45) := by
    rw [← hM]
    refine Alls.cons ?_ (Alls.cons ?_ (Alls.cons ?_ Alls.nil))
    · show Rd w0 _ (.slice x34 32 x35) 1 (sectB (listB 1 [])).length (B (sectB (listB 1 [])))
      rw [hdl]
      exact Rd.left (Rd.left rdx37)
    · exact Rd.left (Rd.right rdx48)
    · show Rd w0 _ (.slice x44 32 x45) 1 (sectB (faceB (a : Int) (b : Int))).length (B (sectB (faceB (a : Int) (b : Int))))
      rw [hfl2]
      exact Rd.right rdx47
  have hok : ∀ p ∈ (fmtRows (sectB (listB 1 [])) (sectB (faceB (a : Int) (b : Int))) x34 x35 ad49 cap49 x44 x45), okRow (rc p) := fun p hp => by
    simp only [List.mem_cons, List.not_mem_nil, or_false] at hp
    rcases hp with rfl | rfl | rfl
    · exact ⟨by show 1 ≤ 15; decide, hdl⟩
    · exact ⟨by show 2 ≤ 15; decide, by show (List.replicate 32 (0 : UInt8)).length = 32; simp⟩
    · exact ⟨by show 0 ≤ 15; decide, hfl2⟩
  have hdz : zs = doneF (imgB bs) (((fmtRows (sectB (listB 1 [])) (sectB (faceB (a : Int) (b : Int))) x34 x35 ad49 cap49 x44 x45).map rc).take n.toNat) := (by rw [h1]; exact hzd)
  refine Run.mem (A' := A * pts bx1 (.cells (Value.agg #[u, .int .i64 (a : Int), .int .i64 (b : Int), .int .i64 n]).cells 100 (0, 0)) * x3 * x6 * x10 * pts x5 (.cells (B (zs) ++ [Value.int .i64 (0)]).toArray 177 (0, 0)) * x28 * own 5 1 vx27 (3 + 5 * 0) (B (listB 1 [])) * x36 * own 5 1 vx39 5 [Value.int .u8 70, Value.int .u8 66, Value.int .u8 ((a / 256 : Nat) : Int), Value.int .u8 ((a : Int) % 256), Value.int .u8 (b : Int)] * x46 * own 104 2 vr 3 (Fl encT104 (fmtRows (sectB (listB 1 [])) (sectB (faceB (a : Int) (b : Int))) x34 x35 ad49 cap49 x44 x45)) * M) ?_ ?_
  · rw [← hM]
    simp only [← sep_assoc]
    exact (frc (frl (frl rfl)) (frc (frl rfl) (frc (frl (frl (frl rfl))) rfl)))
  (apply Run.drawD [] (by rfl) (Eq.trans (frc (frl (frl (frl (frl (frl (frl (frl rfl))))))) rfl) rfl); case hchk => kernel_rfl)
  refine Sd.quiet 0 _ _ rfl rfl rfl rfl rfl (QOp.ok (fun X => OpOk.move rfl)) ?_
  refine Sd.quiet 3 _ _ rfl rfl rfl rfl rfl (QOp.ok (fun X => OpOk.move rfl)) ?_
  refine Sd.quiet 5 _ _ rfl rfl rfl rfl rfl (QOp.ok (fun X => OpOk.move rfl)) ?_
  refine Sd.quiet 6 _ _ rfl rfl rfl rfl rfl (QOp.ok (fun X => OpOk.move rfl)) ?_
  (refine Sd.exec 1 rfl rfl rfl rfl rfl ?hrest (by rfl) (fun Xz1 Kz1 hKz1 => ?_); case hrest => kernel_rfl)
  refine RunL.mem (fl2 (sep_emp _) rfl) ?_
  refine RunL.call cal49 rfl (s49 (by assumption)) rfl (fun vz2 Az2 hz2 => ?_)
  obtain rfl := hz2
  refine RunL.know (fun w s => (s.conv rfl).ownRd0) (fun rdz3 => ?_)
  refine Sd.ret hKz1 (Eq.trans rfl (gp2 (sep_emp _).symm (asg rfl))) ⟨_, (emp_sep _).symm⟩ ?_
  refine Sd.quiet 2 _ _ rfl rfl rfl rfl rfl (QOp.ok (fun X => OpOk.strOf rfl rfl rfl rfl (Rd.right (Rd.right rdz3)).left)) ?_
  (refine Sd.exec 4 rfl rfl rfl rfl rfl ?hrest (by rfl) (fun Xz4 Kz4 hKz4 => ?_); case hrest => kernel_rfl)
  refine RunL.mem (fl2 (flS rfl) (sep_emp _)) ?_
  refine RunL.call cal41 rfl (s41 rd.left.left.left.left.left.left.left.left.left.left.left.left.left.left) rfl (fun vz5 Az5 hz5 => ?_)
  obtain rfl := hz5
  refine RunL.know (fun w s => (s.conv rfl).ownRd0) (fun rdz6 => ?_)
  refine Sd.ret hKz4 (Eq.trans rfl (gp2 (sep_emp _).symm (asg (asg rfl)))) ⟨_, rfl⟩ ?_
  (refine Sd.exec 7 rfl rfl rfl rfl rfl ?hrest (by rfl) (fun Xz7 Kz7 hKz7 => ?_); case hrest => kernel_rfl)
  refine RunL.mem (fl2 (flS (flS rfl)) (sep_emp _)) ?_
  refine RunL.call cal54 rfl (s54a (Rd.right rdz6) (Rd.right rdy1).left.left.left.left.left (Alls.right al).left.left.left.left rfl rfl (by assumption) (by omega)) rfl (fun vz8 Az8 hz8 => ?_)
  obtain ⟨z9, rfl⟩ := hz8
  refine RunL.know (fun w s => (s.conv rfl).ownRd0) (fun rdz10 => ?_)
  refine Sd.ret hKz7 (Eq.trans rfl (gp2 (sep_emp _).symm (asg (asg (asg (asg rfl)))))) ⟨_, (asg rfl)⟩ ?_
  refine Sd.quiet 8 _ _ rfl rfl rfl rfl rfl (QOp.ok (fun X => OpOk.strOf rfl rfl rfl rfl (Rd.right (Rd.right rdz10)).left)) ?_
  refine Sd.quiet 9 _ _ rfl rfl rfl rfl rfl (QOp.ok (fun X => OpOk.as (c := false) (OpOk.neqSS rfl rfl) (by rw [decide_eq_true (by omega)]; rfl))) ?_
  refine Sd.quiet 10 _ _ rfl rfl rfl rfl rfl (QOp.ok (fun X => OpOk.move rfl)) ?_
  refine Sd.quiet 11 _ _ rfl rfl rfl rfl rfl (QOp.ok (fun X => OpOk.move rfl)) ?_
  refine Sd.quiet 12 _ _ rfl rfl rfl rfl rfl (QOp.ok (fun X => OpOk.asF (OpOk.eql rfl rfl) (by omega))) ?_
  refine Sd.quiet 13 _ _ rfl rfl rfl rfl rfl (QOp.ok (fun X => OpOk.move rfl)) ?_
  refine Sd.quiet 14 _ _ rfl rfl rfl rfl rfl (QOp.ok (fun X => OpOk.asF (OpOk.eql rfl rfl) (by omega))) ?_
  refine Sd.quiet 15 _ _ rfl rfl rfl rfl rfl (QOp.ok (fun X => OpOk.neqB rfl rfl rfl)) ?_
  refine Sd.quiet 16 _ _ rfl rfl rfl rfl rfl (QOp.ok (fun X => OpOk.pickF rfl rfl)) ?_
  refine Sd.quiet 17 _ _ rfl rfl rfl rfl rfl (QOp.ok (fun X => OpOk.move rfl)) ?_
  refine Sd.quiet 18 _ _ rfl rfl rfl rfl rfl (QOp.ok (fun X => OpOk.move rfl)) ?_
  refine Sd.quiet 19 _ _ rfl rfl rfl rfl rfl (QOp.ok (fun X => OpOk.asT (OpOk.lss rfl rfl) (by omega))) ?_
  refine Sd.quiet 20 _ _ rfl rfl rfl rfl rfl (QOp.ok (fun X => OpOk.move rfl)) ?_
  refine Sd.quiet 21 _ _ rfl rfl rfl rfl rfl (QOp.ok (fun X => OpOk.move rfl)) ?_
  refine Sd.quiet 22 _ _ rfl rfl rfl rfl rfl (QOp.ok (fun X => OpOk.as (c := false) (OpOk.neq rfl rfl) (by rw [decide_eq_true (by omega)]; rfl))) ?_
  refine Sd.quiet 23 _ _ rfl rfl rfl rfl rfl (QOp.ok (fun X => OpOk.pickT rfl rfl)) ?_
  refine Sd.quiet 24 _ _ rfl rfl rfl rfl rfl (QOp.ok (fun X => OpOk.pickF rfl rfl)) ?_
  (apply Sd.tail; case hall => kernel_rfl)
  refine RunL.mem (fl2 (flS (flS (flS (flS rfl)))) (sep_emp _)) ?_
  refine RunL.nil ?_
  refine Run.condF rfl ?_
  refine Run.skip ?_
  refine Run.seq ?_
  refine Run.seq ?_
  refine Run.region ?_
  refine RunL.ok (OpOk.move rfl) rfl ?_
  refine RunL.ok (OpOk.asT (OpOk.lss rfl rfl) (by omega)) rfl ?_
  refine RunL.nil ?_
  refine Run.condT rfl ?_
  refine Run.seq ?_
  refine Run.region ?_
  refine RunL.ok (OpOk.assign rfl) rfl ?_
  refine RunL.nil ?_
  refine Run.ret1 Try.func11 rfl rfl ?_
  exact ⟨_, rfl, (asg (asg (asg (asg (asg (asg (asg (asg (asg (asg (asg (asg (asg (asg (asg as1)))))))))))))))⟩
theorem formats_zero (rd : Rd w0 A u 1 m (B bs)) (hn : namedP a b) (h0 : n = 0) :
    Spec Try.prog w0 11 [.agg #[u, .int .i64 a, .int .i64 b, .int .i64 n]] A (fun v' A' => ∃ J, v' = .bool true ∧ A' = A * J) := by
  have hl := imgB_len bs
  have hn2 := hn
  obtain ⟨n1, n2, n3, n4⟩ := hn2
  have rdn : Rd w0 A (.slice none 0 0) 4 0 (Fl encT111 ([] : List En)) := Rd.nil 4
  have hes : ∀ e ∈ ([] : List En), okE e := fun e h => by cases h
  obtain ⟨a, rfl⟩ := Int.eq_ofNat_of_zero_le (by omega : 0 ≤ a)
  obtain ⟨b, rfl⟩ := Int.eq_ofNat_of_zero_le (by omega : 0 ≤ b)
  have hface := B_face (a := a) (b := b) (by omega) (by omega)
  have hfl : (faceB (a : Int) (b : Int)).length = 5 := rfl
  have hfl2 := face_len (a : Int) (b : Int)
  have hyl := fmt2_len hl
  have hdl := d0_len
  obtain ⟨zs, hzs⟩ : ∃ zs, imgB bs = zs := ⟨_, rfl⟩
  have hzl : zs.length = 512 := by rw [← hzs]; exact hl
  have hzd : zs = doneF (imgB bs) [] := hzs.symm
  have hW : Wrote (imgB bs) (max n (-1)) 1 [sectB (listB 1 []), List.replicate 32 0] zs 0 30 := ⟨by rw [show max n (-1) = 0 by omega, ← hzs]; rfl⟩
  have hw : max n (-1) ≤ 9223372036854775807 := by omega
  refine Spec.of_run [(0, .agg #[u, .int .i64 (a : Int), .int .i64 (b : Int), .int .i64 n])] Try.func11 rfl (Nat.le_of_ble_eq_true rfl) (by repeat (first | exact trivial | refine ⟨rfl, ?_⟩)) ?_
  refine Run.seq ?_
  refine Run.region ?_
  refine RunL.box rfl rfl (fun bx1 => ?_)
  refine RunL.ok (OpOk.assign rfl) rfl ?_
  refine RunL.nil ?_
  refine Run.seq ?_
  (apply Run.drawD [] (by rfl) (sep_emp _).symm; case hchk => kernel_rfl)
  refine Sd.quiet 0 _ _ rfl rfl rfl rfl rfl (QOp.ok (fun X => OpOk.fieldAddr fld100_0 rfl)) ?_
  refine Sd.quiet 1 _ _ rfl rfl rfl rfl rfl (QOp.ok (fun X => OpOk.load rfl rfl rfl (Blk.out Blk.pts.left.left _ _ (by first | rfl | assumption)))) ?_
  refine Sd.quiet 2 _ _ rfl rfl rfl rfl rfl (QOp.ok (fun X => OpOk.fieldAddr fld100_1 rfl)) ?_
  refine Sd.quiet 3 _ _ rfl rfl rfl rfl rfl (QOp.ok (fun X => OpOk.load rfl rfl rfl (Blk.out Blk.pts.left.left _ _ (by first | rfl | assumption)))) ?_
  refine Sd.quiet 4 _ _ rfl rfl rfl rfl rfl (QOp.ok (fun X => OpOk.fieldAddr fld100_2 rfl)) ?_
  refine Sd.quiet 5 _ _ rfl rfl rfl rfl rfl (QOp.ok (fun X => OpOk.load rfl rfl rfl (Blk.out Blk.pts.left.left _ _ (by first | rfl | assumption)))) ?_
  refine Sd.quiet 6 _ _ rfl rfl rfl rfl rfl (QOp.ok (fun X => OpOk.fieldAddr fld100_3 rfl)) ?_
  refine Sd.quiet 7 _ _ rfl rfl rfl rfl rfl (QOp.ok (fun X => OpOk.load rfl rfl rfl (Blk.out Blk.pts.left.left _ _ (by first | rfl | assumption)))) ?_
  refine Sd.quiet 8 _ _ rfl rfl rfl rfl rfl (QOp.ok (fun X => OpOk.assign rfl)) ?_
  refine Sd.quiet 9 _ _ rfl rfl rfl rfl rfl (QOp.ok (fun X => OpOk.assign rfl)) ?_
  refine Sd.quiet 10 _ _ rfl rfl rfl rfl rfl (QOp.ok (fun X => OpOk.assign rfl)) ?_
  refine Sd.quiet 11 _ _ rfl rfl rfl rfl rfl (QOp.ok (fun X => OpOk.assign rfl)) ?_
  (apply Sd.tail; case hall => kernel_rfl)
  refine RunL.mem (fl2 (sep_emp _) (sep_emp _)) ?_
  refine RunL.nil ?_
  refine Run.seq ?_
  refine Run.seq ?_
  refine Run.region ?_
  refine RunL.call cal37 rfl (s37) rfl (fun vx2 Ax2 hx2 => ?_)
  obtain ⟨x3, ⟨rfl, rfl⟩⟩ := hx2
  refine RunL.ok (OpOk.not rfl) rfl ?_
  refine RunL.nil ?_
  refine Run.condF rfl ?_
  refine Run.skip ?_
  refine Run.seq ?_
  refine Run.region ?_
  refine RunL.ok (OpOk.move rfl) rfl ?_
  refine RunL.call cal38 rfl (s38 rd.left.left) rfl (fun vx4 Ax4 hx4 => ?_)
  obtain ⟨x5, ⟨x6, ⟨rfl, rfl⟩⟩⟩ := hx4
  refine RunL.ok (OpOk.assign rfl) rfl ?_
  refine RunL.nil ?_
  refine Run.seq ?_
  refine Run.seq ?_
  refine Run.region ?_
  refine RunL.ok (OpOk.move rfl) rfl ?_
  refine RunL.ok (OpOk.eqlPN rfl rfl) rfl ?_
  refine RunL.nil ?_
  refine Run.condF rfl ?_
  refine Run.skip ?_
  refine Run.seq ?_
  refine Run.region ?_
  refine RunL.ok (OpOk.move rfl) rfl ?_
  refine RunL.ok (OpOk.move rfl) rfl ?_
  refine RunL.call cal50 rfl (s50 (by assumption)) rfl (fun vx7 Ax7 hx7 => ?_)
  obtain ⟨rfl, rfl⟩ := hx7
  refine RunL.nil ?_
  refine Run.seq ?_
  refine Run.region ?_
  refine RunL.ok (OpOk.move rfl) rfl ?_
  refine RunL.ok (OpOk.move rfl) rfl ?_
  refine RunL.ok (OpOk.move rfl) rfl ?_
  refine RunL.call cal51 rfl (s51b (by assumption) (by assumption) (by assumption) (by assumption) rfl) rfl (fun vx9 Ax9 hx9 => ?_)
  obtain ⟨x10, ⟨rfl, rfl⟩⟩ := hx9
  refine RunL.ok (OpOk.assign rfl) rfl ?_
  refine RunL.nil ?_
  refine Run.seq ?_
  refine Run.seq ?_
  refine Run.region ?_
  refine RunL.ok (OpOk.move rfl) rfl ?_
  refine RunL.ok (OpOk.asF (OpOk.lss rfl rfl) (by omega)) rfl ?_
  refine RunL.ok (OpOk.move rfl) rfl ?_
  refine RunL.on rfl rfl ?_
  refine RunL.ok (OpOk.move rfl) rfl ?_
  refine RunL.on rfl rfl ?_
  refine RunL.ok (OpOk.asF (OpOk.gtr rfl rfl) (by omega)) rfl ?_
  refine RunL.ok (OpOk.pickF rfl rfl) rfl ?_
  refine RunL.ok (OpOk.move rfl) rfl ?_
  refine RunL.on rfl rfl ?_
  refine RunL.ok (OpOk.move rfl) rfl ?_
  refine RunL.on rfl rfl ?_
  refine RunL.ok (OpOk.asF (OpOk.lss rfl rfl) (by omega)) rfl ?_
  refine RunL.ok (OpOk.pickF rfl rfl) rfl ?_
  refine RunL.ok (OpOk.move rfl) rfl ?_
  refine RunL.on rfl rfl ?_
  refine RunL.ok (OpOk.move rfl) rfl ?_
  refine RunL.on rfl rfl ?_
  refine RunL.ok (OpOk.asF (OpOk.gtr rfl rfl) (by omega)) rfl ?_
  refine RunL.ok (OpOk.pickF rfl rfl) rfl ?_
  refine RunL.nil ?_
  refine Run.condF rfl ?_
  refine Run.skip ?_
  refine Run.seq ?_
  (apply Run.drawD [] (by rfl) (sep_emp _).symm; case hchk => kernel_rfl)
  refine Sd.quiet 5 _ _ rfl rfl rfl rfl rfl (QOp.ok (fun X => OpOk.move rfl)) ?_
  refine Sd.quiet 6 _ _ rfl rfl rfl rfl rfl (QOp.ok (fun X => OpOk.quoN _ 256 rfl rfl rfl rfl (by omega) (by omega))) ?_
  refine Sd.quiet 7 _ _ rfl rfl rfl rfl rfl (QOp.ok (fun X => OpOk.convInt rfl rfl rfl (wrapU8 (by omega) (by omega)))) ?_
  refine Sd.quiet 8 _ _ rfl rfl rfl rfl rfl (QOp.ok (fun X => OpOk.move rfl)) ?_
  refine Sd.quiet 9 _ _ rfl rfl rfl rfl rfl (QOp.ok (fun X => OpOk.convInt rfl rfl rfl (wrapU8m _))) ?_
  refine Sd.quiet 10 _ _ rfl rfl rfl rfl rfl (QOp.ok (fun X => OpOk.move rfl)) ?_
  refine Sd.quiet 11 _ _ rfl rfl rfl rfl rfl (QOp.ok (fun X => OpOk.convInt rfl rfl rfl (wrapU8 (by omega) (by omega)))) ?_
  apply Sd.make 12 (by rfl) (by rfl) (by rfl) (by rfl) (by rfl) (by rfl)
  case h =>
    intro Xx14 Kx14 hKx14
    refine RunL.mem (sep_emp _) ?_
    refine RunL.lits rfl ti5 rfl rfl rfl (by simp [Value.cells]) (by decide) rfl (fun vx15 rdx15 => ?_)
    exact RunL.mem (Eq.trans rfl (gp2 rfl (sep_emp _).symm)) (hKx14 _)
  apply Sd.make 3 (by rfl) (by rfl) (by rfl) (by rfl) (by rfl) (by rfl)
  case h =>
    intro Xx19 Kx19 hKx19
    refine RunL.mem (sep_emp _) ?_
    refine RunL.makeB (m := 32) rfl ti5 rfl rfl (by omega) rfl (fun vx20 rdx20 => ?_)
    exact RunL.mem (Eq.trans rfl (gp2 rfl (sep_emp _).symm)) (hKx19 _)
  refine Sd.link 4 3 _ _ (fun u => Value.agg #[.int (IntKind.i64) (2), u]) (List.mem_cons_self ..) (by rfl) (by rfl) (by rfl) (fun _ => by rfl) (by rfl) (by rfl) (fun u hu => (by obtain ⟨ad, cap, rfl, _, _⟩ := (rdOf hu).form; exact QOp.ok (fun X => OpOk.build rfl (fun w => run_build w 104 _ _ (by rfl))))) ?_
  (refine Sd.exec 0 rfl rfl rfl rfl rfl ?hrest (by rfl) (fun Xx26 Kx26 hKx26 => ?_); case hrest => kernel_rfl)
  refine RunL.mem (fl2 (sep_emp _) (sep_emp _)) ?_
  refine RunL.call cal53 rfl (s53 rdn.left.left.left.left.left.left (by omega) (by omega) (by omega) (by assumption)) rfl (fun vx27 Ax27 hx27 => ?_)
  obtain ⟨x28, rfl⟩ := hx27
  refine RunL.know (fun w s => (s.conv rfl).ownRd0) (fun rdx29 => ?_)
  refine Sd.ret hKx26 (Eq.trans rfl (gp2 (sep_emp _).symm (asg rfl))) ⟨_, (emp_sep _).symm⟩ ?_
  (refine Sd.exec 1 rfl rfl rfl rfl rfl ?hrest (by rfl) (fun Xx32 Kx32 hKx32 => ?_); case hrest => kernel_rfl)
  refine RunL.mem (fl2 (flS rfl) (sep_emp _)) ?_
  refine RunL.call cal52 rfl (s52a (Rd.right rdx29) (by omega)) rfl (fun vx33 Ax33 hx33 => ?_)
  obtain ⟨x34, ⟨x35, ⟨x36, ⟨rfl, rfl⟩⟩⟩⟩ := hx33
  refine RunL.know (fun w s => (s.conv rfl).ownRd0) (fun rdx37 => ?_)
  refine Sd.ret hKx32 (Eq.trans rfl (gp2 (sep_emp _).symm (asg (asg (asg rfl))))) ⟨_, (asg rfl)⟩ ?_
  refine Sd.quiet 2 _ _ rfl rfl rfl rfl rfl (QOp.ok (fun X => OpOk.build (cells := #[.int (IntKind.i64) (1), .slice (x34) (32) (x35)]) rfl (fun w => run_build w 104 _ _ (by rfl)))) ?_
  (refine Sd.swap ?_; refine Sd.take 12 _ ?hrest (fun vx39 hvx39 => ?_); case hrest => kernel_rfl)
  have rdx39 := rdOf hvx39
  (refine Sd.exec 13 rfl rfl rfl rfl rfl ?hrest (by rfl) (fun Xx41 Kx41 hKx41 => ?_); case hrest => kernel_rfl)
  refine RunL.mem (fl2 (flS (flS (flS (flS rfl)))) (sep_emp _)) ?_
  refine RunL.call cal52 rfl (s52b (Rd.right rdx39) (by assumption) (by omega)) rfl (fun vx43 Ax43 hx43 => ?_)
  obtain ⟨x44, ⟨x45, ⟨x46, ⟨rfl, rfl⟩⟩⟩⟩ := hx43
  refine RunL.know (fun w s => (s.conv rfl).ownRd0) (fun rdx47 => ?_)
  refine Sd.ret hKx41 (Eq.trans rfl (gp2 (sep_emp _).symm (asg (asg (asg (asg (asg (asg rfl)))))))) ⟨_, (asg rfl)⟩ ?_
  refine Sd.quiet 14 _ _ rfl rfl rfl rfl rfl (QOp.ok (fun X => OpOk.build (cells := #[.int (IntKind.i64) (0), .slice (x44) (32) (x45)]) rfl (fun w => run_build w 104 _ _ (by rfl)))) ?_
  (refine Sd.take 3 _ ?hrest (fun vx48 hvx48 => ?_); case hrest => kernel_rfl)
  have rdx48 := rdOf hvx48
  refine Sd.told 4 3 _ _ _ (by rfl) ?_
  (refine Sd.exec 15 rfl rfl rfl rfl rfl ?hrest (by rfl) (fun Xx49 Kx49 hKx49 => ?_); case hrest => kernel_rfl)
  refine RunL.mem (fl2 (flS (flS (flS (flS (flS (flS (flS rfl))))))) (sep_emp _)) ?_
  obtain ⟨ad49, cap49, rfl, _, _⟩ := rdx48.form
  refine RunL.litFl (enc := encT104) (fmtRows (sectB (listB 1 [])) (sectB (faceB (a : Int) (b : Int))) x34 x35 ad49 cap49 x44 x45) rfl ti104 rfl (fun _ => rfl) rfl rfl (by decide) (by decide) rfl (fun vr rdr => ?_)
  have drawStop : True := trivial
  refine RunL.know (fun w s => (s.conv rfl).ownRd0) (fun rdy1 => ?_)
  refine Sd.ret hKx49 (Eq.trans rfl (gp2 (sep_emp _).symm (asg (asg (asg (asg (asg (asg (asg (asg rfl)))))))))) ⟨_, rfl⟩ ?_
  refine Sd.quiet 16 _ _ rfl rfl rfl rfl rfl (QOp.ok (fun X => OpOk.assign rfl)) ?_
  (apply Sd.tail; case hall => kernel_rfl)
  refine RunL.mem (fl2 (flS (flS (flS (flS (flS (flS (flS (flS rfl)))))))) (sep_emp _)) ?_
  refine RunL.nil ?_
  refine Run.seq ?_
  refine Run.region ?_
  refine RunL.ok (OpOk.assign rfl) rfl ?_
  refine RunL.nil ?_
  refine Run.seq ?_
  refine Run.seq ?_
  refine Run.region ?_
  refine RunL.ok (OpOk.move rfl) rfl ?_
  refine RunL.ok (OpOk.asT (OpOk.geq rfl rfl) (by omega)) rfl ?_
  refine RunL.ok (OpOk.move rfl) rfl ?_
  refine RunL.on rfl rfl ?_
  refine RunL.ok (OpOk.move rfl) rfl ?_
  refine RunL.on rfl rfl ?_
  refine RunL.ok (OpOk.asT (OpOk.lss rfl rfl) (by omega)) rfl ?_
  refine RunL.ok (OpOk.pickT rfl rfl) rfl ?_
  refine RunL.nil ?_
  refine Run.condT rfl ?_
  refine Run.region ?_
  refine RunL.ok (OpOk.move rfl) rfl ?_
  refine RunL.ok (OpOk.assign rfl) rfl ?_
  refine RunL.nil ?_
  refine Run.seq ?_
  refine Run.seq ?_
  clear drawStop
  obtain ⟨M, hM⟩ : ∃ M, own 5 1 (.slice x34 32 x35) 32 (B (sectB (listB 1 []))) * own 5 1 (.slice ad49 32 cap49) 32 (B (List.replicate 32 0)) * own 5 1 (.slice x44 32 x45) 32 (B (sectB (faceB (a : Int) (b : Int)))) = M := ⟨_, rfl⟩
  have al : Alls (GR w0) M (fmtRows (sectB (listB 1 [])) (sectB (faceB (a : Int) (b : Int))) x34 x35 ad49 cap49 x44 x45) := by
    rw [← hM]
    refine Alls.cons ?_ (Alls.cons ?_ (Alls.cons ?_ Alls.nil))
    · show Rd w0 _ (.slice x34 32 x35) 1 (sectB (listB 1 [])).length (B (sectB (listB 1 [])))
      rw [hdl]
      exact Rd.left (Rd.left rdx37)
    · exact Rd.left (Rd.right rdx48)
    · show Rd w0 _ (.slice x44 32 x45) 1 (sectB (faceB (a : Int) (b : Int))).length (B (sectB (faceB (a : Int) (b : Int))))
      rw [hfl2]
      exact Rd.right rdx47
  have hok : ∀ p ∈ (fmtRows (sectB (listB 1 [])) (sectB (faceB (a : Int) (b : Int))) x34 x35 ad49 cap49 x44 x45), okRow (rc p) := fun p hp => by
    simp only [List.mem_cons, List.not_mem_nil, or_false] at hp
    rcases hp with rfl | rfl | rfl
    · exact ⟨by show 1 ≤ 15; decide, hdl⟩
    · exact ⟨by show 2 ≤ 15; decide, by show (List.replicate 32 (0 : UInt8)).length = 32; simp⟩
    · exact ⟨by show 0 ≤ 15; decide, hfl2⟩
  have hdz : zs = doneF (imgB bs) (((fmtRows (sectB (listB 1 [])) (sectB (faceB (a : Int) (b : Int))) x34 x35 ad49 cap49 x44 x45).map rc).take n.toNat) := (by rw [h0]; exact hzd)
  refine Run.mem (A' := A * pts bx1 (.cells (Value.agg #[u, .int .i64 (a : Int), .int .i64 (b : Int), .int .i64 n]).cells 100 (0, 0)) * x3 * x6 * x10 * pts x5 (.cells (B (zs) ++ [Value.int .i64 (0)]).toArray 177 (0, 0)) * x28 * own 5 1 vx27 (3 + 5 * 0) (B (listB 1 [])) * x36 * own 5 1 vx39 5 [Value.int .u8 70, Value.int .u8 66, Value.int .u8 ((a / 256 : Nat) : Int), Value.int .u8 ((a : Int) % 256), Value.int .u8 (b : Int)] * x46 * own 104 2 vr 3 (Fl encT104 (fmtRows (sectB (listB 1 [])) (sectB (faceB (a : Int) (b : Int))) x34 x35 ad49 cap49 x44 x45)) * M) ?_ ?_
  · rw [← hM]
    simp only [← sep_assoc]
    exact (frc (frl (frl rfl)) (frc (frl rfl) (frc (frl (frl (frl rfl))) rfl)))
  (apply Run.drawD [] (by rfl) (Eq.trans (frc (frl (frl (frl (frl (frl (frl (frl rfl))))))) rfl) rfl); case hchk => kernel_rfl)
  refine Sd.quiet 0 _ _ rfl rfl rfl rfl rfl (QOp.ok (fun X => OpOk.move rfl)) ?_
  refine Sd.quiet 3 _ _ rfl rfl rfl rfl rfl (QOp.ok (fun X => OpOk.move rfl)) ?_
  refine Sd.quiet 5 _ _ rfl rfl rfl rfl rfl (QOp.ok (fun X => OpOk.move rfl)) ?_
  refine Sd.quiet 6 _ _ rfl rfl rfl rfl rfl (QOp.ok (fun X => OpOk.move rfl)) ?_
  (refine Sd.exec 1 rfl rfl rfl rfl rfl ?hrest (by rfl) (fun Xz1 Kz1 hKz1 => ?_); case hrest => kernel_rfl)
  refine RunL.mem (fl2 (sep_emp _) rfl) ?_
  refine RunL.call cal49 rfl (s49 (by assumption)) rfl (fun vz2 Az2 hz2 => ?_)
  obtain rfl := hz2
  refine RunL.know (fun w s => (s.conv rfl).ownRd0) (fun rdz3 => ?_)
  refine Sd.ret hKz1 (Eq.trans rfl (gp2 (sep_emp _).symm (asg rfl))) ⟨_, (emp_sep _).symm⟩ ?_
  refine Sd.quiet 2 _ _ rfl rfl rfl rfl rfl (QOp.ok (fun X => OpOk.strOf rfl rfl rfl rfl (Rd.right (Rd.right rdz3)).left)) ?_
  (refine Sd.exec 4 rfl rfl rfl rfl rfl ?hrest (by rfl) (fun Xz4 Kz4 hKz4 => ?_); case hrest => kernel_rfl)
  refine RunL.mem (fl2 (flS rfl) (sep_emp _)) ?_
  refine RunL.call cal41 rfl (s41 rd.left.left.left.left.left.left.left.left.left.left.left.left.left.left) rfl (fun vz5 Az5 hz5 => ?_)
  obtain rfl := hz5
  refine RunL.know (fun w s => (s.conv rfl).ownRd0) (fun rdz6 => ?_)
  refine Sd.ret hKz4 (Eq.trans rfl (gp2 (sep_emp _).symm (asg (asg rfl)))) ⟨_, rfl⟩ ?_
  (refine Sd.exec 7 rfl rfl rfl rfl rfl ?hrest (by rfl) (fun Xz7 Kz7 hKz7 => ?_); case hrest => kernel_rfl)
  refine RunL.mem (fl2 (flS (flS rfl)) (sep_emp _)) ?_
  refine RunL.call cal54 rfl (s54a (Rd.right rdz6) (Rd.right rdy1).left.left.left.left.left (Alls.right al).left.left.left.left rfl rfl (by assumption) (by omega)) rfl (fun vz8 Az8 hz8 => ?_)
  obtain ⟨z9, rfl⟩ := hz8
  refine RunL.know (fun w s => (s.conv rfl).ownRd0) (fun rdz10 => ?_)
  refine Sd.ret hKz7 (Eq.trans rfl (gp2 (sep_emp _).symm (asg (asg (asg (asg rfl)))))) ⟨_, (asg rfl)⟩ ?_
  refine Sd.quiet 8 _ _ rfl rfl rfl rfl rfl (QOp.ok (fun X => OpOk.strOf rfl rfl rfl rfl (Rd.right (Rd.right rdz10)).left)) ?_
  refine Sd.quiet 9 _ _ rfl rfl rfl rfl rfl (QOp.ok (fun X => OpOk.as (c := false) (OpOk.neqSS rfl rfl) (by rw [decide_eq_true (by omega)]; rfl))) ?_
  refine Sd.quiet 10 _ _ rfl rfl rfl rfl rfl (QOp.ok (fun X => OpOk.move rfl)) ?_
  refine Sd.quiet 11 _ _ rfl rfl rfl rfl rfl (QOp.ok (fun X => OpOk.move rfl)) ?_
  refine Sd.quiet 12 _ _ rfl rfl rfl rfl rfl (QOp.ok (fun X => OpOk.asF (OpOk.eql rfl rfl) (by omega))) ?_
  refine Sd.quiet 13 _ _ rfl rfl rfl rfl rfl (QOp.ok (fun X => OpOk.move rfl)) ?_
  refine Sd.quiet 14 _ _ rfl rfl rfl rfl rfl (QOp.ok (fun X => OpOk.asF (OpOk.eql rfl rfl) (by omega))) ?_
  refine Sd.quiet 15 _ _ rfl rfl rfl rfl rfl (QOp.ok (fun X => OpOk.neqB rfl rfl rfl)) ?_
  refine Sd.quiet 16 _ _ rfl rfl rfl rfl rfl (QOp.ok (fun X => OpOk.pickF rfl rfl)) ?_
  refine Sd.quiet 17 _ _ rfl rfl rfl rfl rfl (QOp.ok (fun X => OpOk.move rfl)) ?_
  refine Sd.quiet 18 _ _ rfl rfl rfl rfl rfl (QOp.ok (fun X => OpOk.move rfl)) ?_
  refine Sd.quiet 19 _ _ rfl rfl rfl rfl rfl (QOp.ok (fun X => OpOk.asT (OpOk.lss rfl rfl) (by omega))) ?_
  refine Sd.quiet 20 _ _ rfl rfl rfl rfl rfl (QOp.ok (fun X => OpOk.move rfl)) ?_
  refine Sd.quiet 21 _ _ rfl rfl rfl rfl rfl (QOp.ok (fun X => OpOk.move rfl)) ?_
  refine Sd.quiet 22 _ _ rfl rfl rfl rfl rfl (QOp.ok (fun X => OpOk.as (c := false) (OpOk.neq rfl rfl) (by rw [decide_eq_true (by omega)]; rfl))) ?_
  refine Sd.quiet 23 _ _ rfl rfl rfl rfl rfl (QOp.ok (fun X => OpOk.pickT rfl rfl)) ?_
  refine Sd.quiet 24 _ _ rfl rfl rfl rfl rfl (QOp.ok (fun X => OpOk.pickF rfl rfl)) ?_
  (apply Sd.tail; case hall => kernel_rfl)
  refine RunL.mem (fl2 (flS (flS (flS (flS rfl)))) (sep_emp _)) ?_
  refine RunL.nil ?_
  refine Run.condF rfl ?_
  refine Run.skip ?_
  refine Run.seq ?_
  refine Run.seq ?_
  refine Run.region ?_
  refine RunL.ok (OpOk.move rfl) rfl ?_
  refine RunL.ok (OpOk.asT (OpOk.lss rfl rfl) (by omega)) rfl ?_
  refine RunL.nil ?_
  refine Run.condT rfl ?_
  refine Run.seq ?_
  refine Run.region ?_
  refine RunL.ok (OpOk.assign rfl) rfl ?_
  refine RunL.nil ?_
  refine Run.ret1 Try.func11 rfl rfl ?_
  exact ⟨_, rfl, (asg (asg (asg (asg (asg (asg (asg (asg (asg (asg (asg (asg (asg (asg (asg as1)))))))))))))))⟩
theorem formats_spec (rd : Rd w0 A u 1 m (B bs)) (hnm : n ≤ 9223372036854775807) :
    Spec Try.prog w0 11 [.agg #[u, .int .i64 a, .int .i64 b, .int .i64 n]] A (fun v' A' => ∃ J, v' = .bool true ∧ A' = A * J) := by
  by_cases hn : namedP a b
  · by_cases h1 : n < 0
    · exact formats_neg rd hn h1
    · by_cases h2 : 3 ≤ n
      · exact formats_full rd hn h2 hnm
      · by_cases h3 : n = 2
        · exact formats_two rd hn h3
        · by_cases h4 : n = 1
          · exact formats_one rd hn h4
          · exact formats_zero rd hn (by omega)
  · exact formats_bad rd hn
end
end Go.Proofs.Yteopadjihklkmaa
end
