/- Rows of a journal. -/
import Derived.Test.YteopadjihklkmaaFiA
import Derived.Test.YteopadjihklkmaaCrW
namespace Go.Proofs.Yteopadjihklkmaa
open Go Go.Proofs
set_option maxRecDepth 100000
set_option maxHeartbeats 4000000
set_option linter.unusedSimpArgs false
theorem wrapU8n (n : Nat) : IntKind.u8.wrap (n : Int) = ((UInt8.ofNat n).toNat : Int) := by
  rw [wrapU8m, UInt8.toNat_ofNat']
  omega
theorem Run.ret4 {P : Program} {n : Nat} {w0 : World} {E : Env} {A : Asn} {f : FuncId} {fn : Func} {R' : Value → Asn → Prop} {t u x y : Tmp} {v v' v2 v3 : Value} {todo : List Item} (hf : P.funcs[f]? = some fn) (hr : fn.results = #[.tmp t, .tmp u, .tmp x, .tmp y]) (hv : lk E t = some v) (hu : lk E u = some v') (hx : lk E x = some v2) (hy : lk E y = some v3)
    (hR : R' (.tuple #[v, v', v2, v3]) A) : Run P ⟨f, none, []⟩ n (Post w0 R') w0 (.code .ret :: todo) E A := by
  refine ⟨fun a w he hs => ?_⟩
  refine Runs.ret hf he.defers (v := .tuple #[v, v', v2, v3]) ?_ hR hs
  simp only [results, hr]
  rw [← he.look t v hv, ← he.look u v' hu, ← he.look x v2 hx, ← he.look y v3 hy]
  simp
/-- A row's bytes. -/
def headB (k : UInt8) (b : List UInt8) : List UInt8 := [k, UInt8.ofNat (b.length / 2 ^ 8), UInt8.ofNat b.length]
def rowB (k : UInt8) (b : List UInt8) : List UInt8 := sealed (headB k b ++ b)
theorem rowB_len (k : UInt8) (b : List UInt8) : (rowB k b).length = b.length + 5 := by
  rw [rowB, sealed_length]; simp [headB]
section
variable {w0 : World} {A : Asn}
theorem s106 {k : UInt8} {u : Value} {m : Nat} {bs : List UInt8} (rd : Rd w0 A u 1 m (B bs)) (hm : m ≤ 65535) : Spec Try.prog w0 106 [.int .u8 ((k.toNat : Nat) : Int), u] A (fun v' A' => ∃ J, A' = A * J * own 5 1 v' (m + 5) (B (rowB k bs))) := by
  have hl := rd.lenB
  subst hl
  have asBytes : True := trivial
  refine Spec.of_run [(0, .int .u8 ((k.toNat : Nat) : Int)), (1, u)] Try.func106 rfl (Nat.le_of_ble_eq_true rfl) (by repeat (first | exact trivial | refine ⟨rfl, ?_⟩)) ?_
  refine Run.seq ?_
  refine Run.region ?_
  refine RunL.ok (OpOk.assign rfl) rfl ?_
  refine RunL.nil ?_
  refine Run.seq ?_
  refine Run.region ?_
  refine RunL.ok (OpOk.move rfl) rfl ?_
  refine RunL.ok (OpOk.move rfl) rfl ?_
  refine RunL.ok (OpOk.lenR rfl rfl rd rfl) rfl ?_
  refine RunL.ok (OpOk.shrN _ 8 rfl rfl rfl rfl (by omega)) rfl ?_
  refine RunL.ok (OpOk.convInt rfl rfl rfl (wrapU8n _)) rfl ?_
  refine RunL.ok (OpOk.move rfl) rfl ?_
  refine RunL.ok (OpOk.lenR rfl rfl rd rfl) rfl ?_
  refine RunL.ok (OpOk.convInt rfl rfl rfl (wrapU8n _)) rfl ?_
  refine RunL.litB (xs := [k, UInt8.ofNat (bs.length / 2 ^ 8), UInt8.ofNat bs.length]) rfl ti5 rfl rfl rfl (by decide) rfl (fun vx1 rdx1 => ?_)
  refine RunL.ok (OpOk.move rfl) rfl ?_
  refine RunL.know (fun w s => (s.conv rfl).ownRd0) (fun rdx3 => ?_)
  have alx2 : Alls (GB w0) _ [(vx1, [k, UInt8.ofNat (bs.length / 2 ^ 8), UInt8.ofNat bs.length]), (u, bs)] := (Alls.cons (GB.of rdx3.left) (Alls.cons (GB.of (Rd.right rd)) Alls.nil))
  refine RunL.litV (ls := [(vx1, [k, UInt8.ofNat (bs.length / 2 ^ 8), UInt8.ofNat bs.length]), (u, bs)]) (Alls.conv alx2 ((frc (sep_comm _ _) rfl) : _ = _).symm) rfl ti63 rfl rfl rfl (by decide) rfl (fun vx2 rdx2 => ?_)
  refine RunL.know (fun w s => (s.conv rfl).ownRd0) (fun rdx4 => ?_)
  refine RunL.call cal110 rfl (s110 (Rd.right rdx4) (Alls.conv alx2.left ((frc rfl (frc (sep_comm _ _) rfl)) : _ = _).symm) (by simp [flatB]; omega)) rfl (fun vx6 Ax6 hx6 => ?_)
  obtain ⟨x7, rfl⟩ := hx6
  refine RunL.ok (OpOk.assign rfl) rfl ?_
  refine RunL.nil ?_
  refine Run.ret1 Try.func106 rfl rfl ?_
  have e : flatB [(vx1, [k, UInt8.ofNat (bs.length / 2 ^ 8), UInt8.ofNat bs.length]), (u, bs)] = headB k bs ++ bs := by simp [flatB, headB]
  rw [e, show (headB k bs ++ bs).length + 2 = bs.length + 5 by simp [headB], show sealed (headB k bs ++ bs) = rowB k bs from rfl]
  refine ⟨own 5 1 vx1 3 (B [k, UInt8.ofNat (bs.length / 2 ^ 8), UInt8.ofNat bs.length]) * own 63 1 vx2 2 (Fl encV [(vx1, [k, UInt8.ofNat (bs.length / 2 ^ 8), UInt8.ofNat bs.length]), (u, bs)]) * x7, ?_⟩
  rw [← sep_assoc, ← sep_assoc]
theorem next_get {bs : List UInt8} {n : Nat} (hn : 5 ≤ n) (hl : n ≤ bs.length) : ((bs.take n).take (n - 2)).getD 0 0 = bs.getD 0 0 := by
  rw [List.take_take, List.getD_eq_getElem?_getD, List.getD_eq_getElem?_getD, List.getElem?_take, if_pos (by omega)]
theorem nextS {u : Value} {m n : Nat} {bs : List UInt8} (rd : Rd w0 A u 1 m (B bs)) (hn : n = (bs.getD 1 0).toNat * 256 + (bs.getD 2 0).toNat + 5) (hk : (bs.getD 0 0).toNat = 1 ∨ (bs.getD 0 0).toNat = 2) (hnm : n ≤ m) (hs : sealed ((bs.take n).take (n - 2)) = bs.take n) :
    Spec Try.prog w0 71 [u] A (fun v' A' => ∃ v J, v' = .tuple #[.int .u8 (((bs.getD 0 0).toNat : Nat) : Int), Go.Proofs.Yteopadjihklkmaa.cutV v 3 (n - 2) 1, .int .i64 (n : Int), .bool true] ∧ A' = A * J * own 5 1 v (n - 2) (B ((bs.take n).take (n - 2)))) := by
  have hmx := rd.max
  have hbl := rd.lenB
  have h1 : (bs.getD (Int.toNat 1) 0).toNat < 256 := UInt8.toNat_lt _
  have h2 : (bs.getD (Int.toNat 2) 0).toNat < 256 := UInt8.toNat_lt _
  have hn2 : n = (bs.getD (Int.toNat 1) 0).toNat * 256 + (bs.getD (Int.toNat 2) 0).toNat + 5 := hn
  have hk2 : (bs.getD (Int.toNat 0) 0).toNat = 1 ∨ (bs.getD (Int.toNat 0) 0).toNat = 2 := hk
  have rdc : Rd w0 A (Go.Proofs.Yteopadjihklkmaa.cutV u 0 n 1) 1 n (B (bs.take n)) := Rd.cutB0 rd (by omega)
  have hg := next_get (bs := bs) (n := n) (by omega) (by omega)
  have rw_n : 3 + (bs.getD (Int.toNat 1) 0).toNat * 2 ^ 8 + (bs.getD (Int.toNat 2) 0).toNat + 2 = n := by omega
  have hg2 : ((bs.take n).take (n - 2)).getD (Int.toNat 0) 0 = bs.getD 0 0 := hg
  refine Spec.of_run [(0, u)] Try.func71 rfl (Nat.le_of_ble_eq_true rfl) (by repeat (first | exact trivial | refine ⟨rfl, ?_⟩)) ?_
  rcases hk2 with hk2 | hk2
  · refine Run.seq ?_
    refine Run.region ?_
    refine RunL.ok (OpOk.assign rfl) rfl ?_
    refine RunL.ok (OpOk.assign rfl) rfl ?_
    refine RunL.ok (OpOk.assign rfl) rfl ?_
    refine RunL.ok (OpOk.assign rfl) rfl ?_
    refine RunL.nil ?_
    refine Run.seq ?_
    refine Run.seq ?_
    refine Run.region ?_
    refine RunL.ok (OpOk.move rfl) rfl ?_
    refine RunL.ok (OpOk.lenR rfl rfl rd rfl) rfl ?_
    refine RunL.ok (OpOk.asF (OpOk.lss rfl rfl) (by omega)) rfl ?_
    refine RunL.nil ?_
    refine Run.condF rfl ?_
    refine Run.skip ?_
    refine Run.seq ?_
    (apply Run.drawD [] (by rfl) (sep_emp _).symm; case hchk => kernel_rfl)
    refine Sd.quiet 0 _ _ rfl rfl rfl rfl rfl (QOp.ok (fun X => OpOk.move rfl)) ?_
    refine Sd.quiet 1 _ _ rfl rfl rfl rfl rfl (QOp.ok (fun X => OpOk.idx1 rfl ti5 rfl rd.left.left rfl (by omega) (by omega))) ?_
    refine Sd.quiet 2 _ _ rfl rfl rfl rfl rfl (QOp.ok (fun X => OpOk.load rfl rfl rfl (Rd.getB rd.left.left (by omega)))) ?_
    refine Sd.quiet 3 _ _ rfl rfl rfl rfl rfl (QOp.ok (fun X => OpOk.convInt rfl rfl rfl (wrapI (by omega) (by omega)))) ?_
    refine Sd.quiet 4 _ _ rfl rfl rfl rfl rfl (QOp.ok (fun X => OpOk.shlN _ 8 rfl rfl rfl rfl (by omega) (by omega))) ?_
    refine Sd.quiet 5 _ _ rfl rfl rfl rfl rfl (QOp.ok (fun X => OpOk.addN 3 _ rfl rfl rfl rfl (by omega))) ?_
    refine Sd.quiet 6 _ _ rfl rfl rfl rfl rfl (QOp.ok (fun X => OpOk.move rfl)) ?_
    refine Sd.quiet 7 _ _ rfl rfl rfl rfl rfl (QOp.ok (fun X => OpOk.idx1 rfl ti5 rfl rd.left.left rfl (by omega) (by omega))) ?_
    refine Sd.quiet 8 _ _ rfl rfl rfl rfl rfl (QOp.ok (fun X => OpOk.load rfl rfl rfl (Rd.getB rd.left.left (by omega)))) ?_
    refine Sd.quiet 9 _ _ rfl rfl rfl rfl rfl (QOp.ok (fun X => OpOk.convInt rfl rfl rfl (wrapI (by omega) (by omega)))) ?_
    refine Sd.quiet 10 _ _ rfl rfl rfl rfl rfl (QOp.ok (fun X => OpOk.addN _ _ rfl rfl rfl rfl (by omega))) ?_
    refine Sd.quiet 11 _ _ rfl rfl rfl rfl rfl (QOp.ok (fun X => OpOk.addN _ 2 rfl rfl rfl rfl (by omega))) ?_
    refine Sd.quiet 12 _ _ rfl rfl rfl rfl rfl (QOp.ok (fun X => OpOk.assign rfl)) ?_
    (apply Sd.tail; case hall => kernel_rfl)
    refine RunL.mem (fl2 (sep_emp _) (sep_emp _)) ?_
    refine RunL.nil ?_
    refine Run.seq ?_
    refine Run.seq ?_
    rw [rw_n]
    refine Run.region ?_
    refine RunL.ok (OpOk.move rfl) rfl ?_
    refine RunL.ok (OpOk.idx1 rfl ti5 rfl rd rfl (by omega) (by omega)) rfl ?_
    refine RunL.ok (OpOk.load rfl rfl rfl (Rd.getB rd (by omega))) rfl ?_
    refine RunL.ok (OpOk.as (c := false) (OpOk.neq rfl rfl) (by rw [decide_eq_true (by omega)]; rfl)) rfl ?_
    refine RunL.ok (OpOk.move rfl) rfl ?_
    refine RunL.off rfl rfl rfl rfl ?_
    refine RunL.off rfl rfl rfl rfl ?_
    refine RunL.off rfl rfl rfl rfl ?_
    refine RunL.off rfl rfl rfl rfl ?_
    refine RunL.ok (OpOk.pickF rfl rfl) rfl ?_
    refine RunL.ok (OpOk.move rfl) rfl ?_
    refine RunL.on rfl rfl ?_
    refine RunL.ok (OpOk.move rfl) rfl ?_
    refine RunL.on rfl rfl ?_
    refine RunL.ok (OpOk.lenR rfl rfl rd rfl) rfl ?_
    refine RunL.on rfl rfl ?_
    refine RunL.ok (OpOk.move rfl) rfl ?_
    refine RunL.on rfl rfl ?_
    refine RunL.ok (OpOk.asF (OpOk.lss rfl rfl) (by omega)) rfl ?_
    refine RunL.ok (OpOk.pickF rfl rfl) rfl ?_
    refine RunL.nil ?_
    refine Run.condF rfl ?_
    refine Run.skip ?_
    refine Run.seq ?_
    refine Run.region ?_
    refine RunL.ok (OpOk.move rfl) rfl ?_
    refine RunL.ok (OpOk.move rfl) rfl ?_
    refine RunL.ok (OpOk.cut rfl ti5 rfl rd rfl ⟨_, rfl⟩ (by omega) (by omega)) rfl ?_
    refine RunL.call cal83 rfl (s83b rdc (by omega) (by omega) (by assumption)) rfl (fun vx2 Ax2 hx2 => ?_)
    obtain ⟨x3, ⟨x4, ⟨rfl, rfl⟩⟩⟩ := hx2
    refine RunL.ok (OpOk.move rfl) rfl ?_
    refine RunL.ok (OpOk.ext20 rfl) rfl ?_
    refine RunL.ok (OpOk.ext21 rfl) rfl ?_
    refine RunL.ok (OpOk.assign rfl) rfl ?_
    refine RunL.ok (OpOk.assign rfl) rfl ?_
    refine RunL.nil ?_
    refine Run.seq ?_
    refine Run.seq ?_
    refine Run.region ?_
    refine RunL.ok (OpOk.move rfl) rfl ?_
    refine RunL.ok (OpOk.as (c := false) (OpOk.neq rfl rfl) (by rw [decide_eq_true (by omega)]; rfl)) rfl ?_
    refine RunL.nil ?_
    refine Run.condF rfl ?_
    refine Run.skip ?_
    refine Run.seq ?_
    refine Run.know (fun w s => (s.conv rfl).ownRd0) (fun rdx5 => ?_)
    refine Run.drop [2, 3, 4, 5] ?_
    (apply Run.drawD [] (by rfl) (sep_emp _).symm; case hchk => kernel_rfl)
    refine Sd.quiet 0 _ _ rfl rfl rfl rfl rfl (QOp.ok (fun X => OpOk.move rfl)) ?_
    refine Sd.quiet 1 _ _ rfl rfl rfl rfl rfl (QOp.ok (fun X => OpOk.idx1 rfl ti5 rfl (Rd.right rdx5).left.left rfl (by omega) (by omega))) ?_
    refine Sd.quiet 2 _ _ rfl rfl rfl rfl rfl (QOp.ok (fun X => OpOk.load rfl rfl rfl (Rd.getBE (by assumption) (Rd.right rdx5).left.left (by omega)))) ?_
    refine Sd.quiet 3 _ _ rfl rfl rfl rfl rfl (QOp.ok (fun X => OpOk.move rfl)) ?_
    refine Sd.quiet 4 _ _ rfl rfl rfl rfl rfl (QOp.ok (fun X => OpOk.cut (i := 3) rfl ti5 rfl (Rd.right rdx5).left.left ⟨_, rfl⟩ rfl (by omega) (by omega))) ?_
    refine Sd.quiet 5 _ _ rfl rfl rfl rfl rfl (QOp.ok (fun X => OpOk.move rfl)) ?_
    refine Sd.quiet 6 _ _ rfl rfl rfl rfl rfl (QOp.ok (fun X => OpOk.assign rfl)) ?_
    refine Sd.quiet 7 _ _ rfl rfl rfl rfl rfl (QOp.ok (fun X => OpOk.assign rfl)) ?_
    refine Sd.quiet 8 _ _ rfl rfl rfl rfl rfl (QOp.ok (fun X => OpOk.assign rfl)) ?_
    refine Sd.quiet 9 _ _ rfl rfl rfl rfl rfl (QOp.ok (fun X => OpOk.assign rfl)) ?_
    (apply Sd.tail; case hall => kernel_rfl)
    refine RunL.mem (fl2 (sep_emp _) (sep_emp _)) ?_
    refine RunL.nil ?_
    refine Run.ret4 Try.func71 rfl rfl rfl rfl rfl ?_
    exact ⟨_, _, rfl, (congrArg (· * _) as1)⟩
  · refine Run.seq ?_
    refine Run.region ?_
    refine RunL.ok (OpOk.assign rfl) rfl ?_
    refine RunL.ok (OpOk.assign rfl) rfl ?_
    refine RunL.ok (OpOk.assign rfl) rfl ?_
    refine RunL.ok (OpOk.assign rfl) rfl ?_
    refine RunL.nil ?_
    refine Run.seq ?_
    refine Run.seq ?_
    refine Run.region ?_
    refine RunL.ok (OpOk.move rfl) rfl ?_
    refine RunL.ok (OpOk.lenR rfl rfl rd rfl) rfl ?_
    refine RunL.ok (OpOk.asF (OpOk.lss rfl rfl) (by omega)) rfl ?_
    refine RunL.nil ?_
    refine Run.condF rfl ?_
    refine Run.skip ?_
    refine Run.seq ?_
    (apply Run.drawD [] (by rfl) (sep_emp _).symm; case hchk => kernel_rfl)
    refine Sd.quiet 0 _ _ rfl rfl rfl rfl rfl (QOp.ok (fun X => OpOk.move rfl)) ?_
    refine Sd.quiet 1 _ _ rfl rfl rfl rfl rfl (QOp.ok (fun X => OpOk.idx1 rfl ti5 rfl rd.left.left rfl (by omega) (by omega))) ?_
    refine Sd.quiet 2 _ _ rfl rfl rfl rfl rfl (QOp.ok (fun X => OpOk.load rfl rfl rfl (Rd.getB rd.left.left (by omega)))) ?_
    refine Sd.quiet 3 _ _ rfl rfl rfl rfl rfl (QOp.ok (fun X => OpOk.convInt rfl rfl rfl (wrapI (by omega) (by omega)))) ?_
    refine Sd.quiet 4 _ _ rfl rfl rfl rfl rfl (QOp.ok (fun X => OpOk.shlN _ 8 rfl rfl rfl rfl (by omega) (by omega))) ?_
    refine Sd.quiet 5 _ _ rfl rfl rfl rfl rfl (QOp.ok (fun X => OpOk.addN 3 _ rfl rfl rfl rfl (by omega))) ?_
    refine Sd.quiet 6 _ _ rfl rfl rfl rfl rfl (QOp.ok (fun X => OpOk.move rfl)) ?_
    refine Sd.quiet 7 _ _ rfl rfl rfl rfl rfl (QOp.ok (fun X => OpOk.idx1 rfl ti5 rfl rd.left.left rfl (by omega) (by omega))) ?_
    refine Sd.quiet 8 _ _ rfl rfl rfl rfl rfl (QOp.ok (fun X => OpOk.load rfl rfl rfl (Rd.getB rd.left.left (by omega)))) ?_
    refine Sd.quiet 9 _ _ rfl rfl rfl rfl rfl (QOp.ok (fun X => OpOk.convInt rfl rfl rfl (wrapI (by omega) (by omega)))) ?_
    refine Sd.quiet 10 _ _ rfl rfl rfl rfl rfl (QOp.ok (fun X => OpOk.addN _ _ rfl rfl rfl rfl (by omega))) ?_
    refine Sd.quiet 11 _ _ rfl rfl rfl rfl rfl (QOp.ok (fun X => OpOk.addN _ 2 rfl rfl rfl rfl (by omega))) ?_
    refine Sd.quiet 12 _ _ rfl rfl rfl rfl rfl (QOp.ok (fun X => OpOk.assign rfl)) ?_
    (apply Sd.tail; case hall => kernel_rfl)
    refine RunL.mem (fl2 (sep_emp _) (sep_emp _)) ?_
    refine RunL.nil ?_
    refine Run.seq ?_
    refine Run.seq ?_
    rw [rw_n]
    refine Run.region ?_
    refine RunL.ok (OpOk.move rfl) rfl ?_
    refine RunL.ok (OpOk.idx1 rfl ti5 rfl rd rfl (by omega) (by omega)) rfl ?_
    refine RunL.ok (OpOk.load rfl rfl rfl (Rd.getB rd (by omega))) rfl ?_
    refine RunL.ok (OpOk.as (c := true) (OpOk.neq rfl rfl) (by rw [decide_eq_false (by omega)]; rfl)) rfl ?_
    refine RunL.ok (OpOk.move rfl) rfl ?_
    refine RunL.on rfl rfl ?_
    refine RunL.ok (OpOk.move rfl) rfl ?_
    refine RunL.on rfl rfl ?_
    refine RunL.ok (OpOk.idx1 rfl ti5 rfl rd rfl (by omega) (by omega)) rfl ?_
    refine RunL.on rfl rfl ?_
    refine RunL.ok (OpOk.load rfl rfl rfl (Rd.getB rd (by omega))) rfl ?_
    refine RunL.on rfl rfl ?_
    refine RunL.ok (OpOk.as (c := false) (OpOk.neq rfl rfl) (by rw [decide_eq_true (by omega)]; rfl)) rfl ?_
    refine RunL.ok (OpOk.pickT rfl rfl) rfl ?_
    refine RunL.ok (OpOk.move rfl) rfl ?_
    refine RunL.on rfl rfl ?_
    refine RunL.ok (OpOk.move rfl) rfl ?_
    refine RunL.on rfl rfl ?_
    refine RunL.ok (OpOk.lenR rfl rfl rd rfl) rfl ?_
    refine RunL.on rfl rfl ?_
    refine RunL.ok (OpOk.move rfl) rfl ?_
    refine RunL.on rfl rfl ?_
    refine RunL.ok (OpOk.asF (OpOk.lss rfl rfl) (by omega)) rfl ?_
    refine RunL.ok (OpOk.pickF rfl rfl) rfl ?_
    refine RunL.nil ?_
    refine Run.condF rfl ?_
    refine Run.skip ?_
    refine Run.seq ?_
    refine Run.region ?_
    refine RunL.ok (OpOk.move rfl) rfl ?_
    refine RunL.ok (OpOk.move rfl) rfl ?_
    refine RunL.ok (OpOk.cut rfl ti5 rfl rd rfl ⟨_, rfl⟩ (by omega) (by omega)) rfl ?_
    refine RunL.call cal83 rfl (s83b rdc (by omega) (by omega) (by assumption)) rfl (fun vx2 Ax2 hx2 => ?_)
    obtain ⟨x3, ⟨x4, ⟨rfl, rfl⟩⟩⟩ := hx2
    refine RunL.ok (OpOk.move rfl) rfl ?_
    refine RunL.ok (OpOk.ext20 rfl) rfl ?_
    refine RunL.ok (OpOk.ext21 rfl) rfl ?_
    refine RunL.ok (OpOk.assign rfl) rfl ?_
    refine RunL.ok (OpOk.assign rfl) rfl ?_
    refine RunL.nil ?_
    refine Run.seq ?_
    refine Run.seq ?_
    refine Run.region ?_
    refine RunL.ok (OpOk.move rfl) rfl ?_
    refine RunL.ok (OpOk.as (c := false) (OpOk.neq rfl rfl) (by rw [decide_eq_true (by omega)]; rfl)) rfl ?_
    refine RunL.nil ?_
    refine Run.condF rfl ?_
    refine Run.skip ?_
    refine Run.seq ?_
    refine Run.know (fun w s => (s.conv rfl).ownRd0) (fun rdx5 => ?_)
    refine Run.drop [2, 3, 4, 5] ?_
    (apply Run.drawD [] (by rfl) (sep_emp _).symm; case hchk => kernel_rfl)
    refine Sd.quiet 0 _ _ rfl rfl rfl rfl rfl (QOp.ok (fun X => OpOk.move rfl)) ?_
    refine Sd.quiet 1 _ _ rfl rfl rfl rfl rfl (QOp.ok (fun X => OpOk.idx1 rfl ti5 rfl (Rd.right rdx5).left.left rfl (by omega) (by omega))) ?_
    refine Sd.quiet 2 _ _ rfl rfl rfl rfl rfl (QOp.ok (fun X => OpOk.load rfl rfl rfl (Rd.getBE (by assumption) (Rd.right rdx5).left.left (by omega)))) ?_
    refine Sd.quiet 3 _ _ rfl rfl rfl rfl rfl (QOp.ok (fun X => OpOk.move rfl)) ?_
    refine Sd.quiet 4 _ _ rfl rfl rfl rfl rfl (QOp.ok (fun X => OpOk.cut (i := 3) rfl ti5 rfl (Rd.right rdx5).left.left ⟨_, rfl⟩ rfl (by omega) (by omega))) ?_
    refine Sd.quiet 5 _ _ rfl rfl rfl rfl rfl (QOp.ok (fun X => OpOk.move rfl)) ?_
    refine Sd.quiet 6 _ _ rfl rfl rfl rfl rfl (QOp.ok (fun X => OpOk.assign rfl)) ?_
    refine Sd.quiet 7 _ _ rfl rfl rfl rfl rfl (QOp.ok (fun X => OpOk.assign rfl)) ?_
    refine Sd.quiet 8 _ _ rfl rfl rfl rfl rfl (QOp.ok (fun X => OpOk.assign rfl)) ?_
    refine Sd.quiet 9 _ _ rfl rfl rfl rfl rfl (QOp.ok (fun X => OpOk.assign rfl)) ?_
    (apply Sd.tail; case hall => kernel_rfl)
    refine RunL.mem (fl2 (sep_emp _) (sep_emp _)) ?_
    refine RunL.nil ?_
    refine Run.ret4 Try.func71 rfl rfl rfl rfl rfl ?_
    exact ⟨_, _, rfl, (congrArg (· * _) as1)⟩
theorem nextZ {u : Value} {m n : Nat} {bs : List UInt8} (rd : Rd w0 A u 1 m (B bs)) (hn : n = (bs.getD 1 0).toNat * 256 + (bs.getD 2 0).toNat + 5) (h : ¬ (3 ≤ m ∧ ((bs.getD 0 0).toNat = 1 ∨ (bs.getD 0 0).toNat = 2) ∧ n ≤ m ∧ sealed ((bs.take n).take (n - 2)) = bs.take n)) :
    Spec Try.prog w0 71 [u] A (fun v' A' => ∃ J, v' = .tuple #[.int .u8 0, .slice none 0 0, .int .i64 0, .bool false] ∧ A' = A * J) := by
  have hmx := rd.max
  have hbl := rd.lenB
  have h1 : (bs.getD (Int.toNat 1) 0).toNat < 256 := UInt8.toNat_lt _
  have h2 : (bs.getD (Int.toNat 2) 0).toNat < 256 := UInt8.toNat_lt _
  have hn2 : n = (bs.getD (Int.toNat 1) 0).toNat * 256 + (bs.getD (Int.toNat 2) 0).toNat + 5 := hn
  have rw_n : 3 + (bs.getD (Int.toNat 1) 0).toNat * 2 ^ 8 + (bs.getD (Int.toNat 2) 0).toNat + 2 = n := by omega
  refine Spec.of_run [(0, u)] Try.func71 rfl (Nat.le_of_ble_eq_true rfl) (by repeat (first | exact trivial | refine ⟨rfl, ?_⟩)) ?_
  rcases Nat.lt_or_ge m 3 with hm | hm
  · refine Run.seq ?_
    refine Run.region ?_
    refine RunL.ok (OpOk.assign rfl) rfl ?_
    refine RunL.ok (OpOk.assign rfl) rfl ?_
    refine RunL.ok (OpOk.assign rfl) rfl ?_
    refine RunL.ok (OpOk.assign rfl) rfl ?_
    refine RunL.nil ?_
    refine Run.seq ?_
    refine Run.seq ?_
    refine Run.region ?_
    refine RunL.ok (OpOk.move rfl) rfl ?_
    refine RunL.ok (OpOk.lenR rfl rfl rd rfl) rfl ?_
    refine RunL.ok (OpOk.asT (OpOk.lss rfl rfl) (by omega)) rfl ?_
    refine RunL.nil ?_
    refine Run.condT rfl ?_
    refine Run.seq ?_
    refine Run.region ?_
    refine RunL.ok (OpOk.assign rfl) rfl ?_
    refine RunL.ok (OpOk.assign rfl) rfl ?_
    refine RunL.ok (OpOk.assign rfl) rfl ?_
    refine RunL.ok (OpOk.assign rfl) rfl ?_
    refine RunL.nil ?_
    refine Run.ret4 Try.func71 rfl rfl rfl rfl rfl ?_
    exact ⟨_, rfl, as0⟩
  · rcases Decidable.em ((bs.getD 0 0).toNat = 1 ∨ (bs.getD 0 0).toNat = 2) with hk | hk
    · have hk2 : (bs.getD (Int.toNat 0) 0).toNat = 1 ∨ (bs.getD (Int.toNat 0) 0).toNat = 2 := hk
      rcases Nat.lt_or_ge m n with hnm | hnm
      · rcases hk2 with hk2 | hk2
        · refine Run.seq ?_
          refine Run.region ?_
          refine RunL.ok (OpOk.assign rfl) rfl ?_
          refine RunL.ok (OpOk.assign rfl) rfl ?_
          refine RunL.ok (OpOk.assign rfl) rfl ?_
          refine RunL.ok (OpOk.assign rfl) rfl ?_
          refine RunL.nil ?_
          refine Run.seq ?_
          refine Run.seq ?_
          refine Run.region ?_
          refine RunL.ok (OpOk.move rfl) rfl ?_
          refine RunL.ok (OpOk.lenR rfl rfl rd rfl) rfl ?_
          refine RunL.ok (OpOk.asF (OpOk.lss rfl rfl) (by omega)) rfl ?_
          refine RunL.nil ?_
          refine Run.condF rfl ?_
          refine Run.skip ?_
          refine Run.seq ?_
          (apply Run.drawD [] (by rfl) (sep_emp _).symm; case hchk => kernel_rfl)
          refine Sd.quiet 0 _ _ rfl rfl rfl rfl rfl (QOp.ok (fun X => OpOk.move rfl)) ?_
          refine Sd.quiet 1 _ _ rfl rfl rfl rfl rfl (QOp.ok (fun X => OpOk.idx1 rfl ti5 rfl rd.left.left rfl (by omega) (by omega))) ?_
          refine Sd.quiet 2 _ _ rfl rfl rfl rfl rfl (QOp.ok (fun X => OpOk.load rfl rfl rfl (Rd.getB rd.left.left (by omega)))) ?_
          refine Sd.quiet 3 _ _ rfl rfl rfl rfl rfl (QOp.ok (fun X => OpOk.convInt rfl rfl rfl (wrapI (by omega) (by omega)))) ?_
          refine Sd.quiet 4 _ _ rfl rfl rfl rfl rfl (QOp.ok (fun X => OpOk.shlN _ 8 rfl rfl rfl rfl (by omega) (by omega))) ?_
          refine Sd.quiet 5 _ _ rfl rfl rfl rfl rfl (QOp.ok (fun X => OpOk.addN 3 _ rfl rfl rfl rfl (by omega))) ?_
          refine Sd.quiet 6 _ _ rfl rfl rfl rfl rfl (QOp.ok (fun X => OpOk.move rfl)) ?_
          refine Sd.quiet 7 _ _ rfl rfl rfl rfl rfl (QOp.ok (fun X => OpOk.idx1 rfl ti5 rfl rd.left.left rfl (by omega) (by omega))) ?_
          refine Sd.quiet 8 _ _ rfl rfl rfl rfl rfl (QOp.ok (fun X => OpOk.load rfl rfl rfl (Rd.getB rd.left.left (by omega)))) ?_
          refine Sd.quiet 9 _ _ rfl rfl rfl rfl rfl (QOp.ok (fun X => OpOk.convInt rfl rfl rfl (wrapI (by omega) (by omega)))) ?_
          refine Sd.quiet 10 _ _ rfl rfl rfl rfl rfl (QOp.ok (fun X => OpOk.addN _ _ rfl rfl rfl rfl (by omega))) ?_
          refine Sd.quiet 11 _ _ rfl rfl rfl rfl rfl (QOp.ok (fun X => OpOk.addN _ 2 rfl rfl rfl rfl (by omega))) ?_
          refine Sd.quiet 12 _ _ rfl rfl rfl rfl rfl (QOp.ok (fun X => OpOk.assign rfl)) ?_
          (apply Sd.tail; case hall => kernel_rfl)
          refine RunL.mem (fl2 (sep_emp _) (sep_emp _)) ?_
          refine RunL.nil ?_
          refine Run.seq ?_
          refine Run.seq ?_
          rw [rw_n]
          refine Run.region ?_
          refine RunL.ok (OpOk.move rfl) rfl ?_
          refine RunL.ok (OpOk.idx1 rfl ti5 rfl rd rfl (by omega) (by omega)) rfl ?_
          refine RunL.ok (OpOk.load rfl rfl rfl (Rd.getB rd (by omega))) rfl ?_
          refine RunL.ok (OpOk.as (c := false) (OpOk.neq rfl rfl) (by rw [decide_eq_true (by omega)]; rfl)) rfl ?_
          refine RunL.ok (OpOk.move rfl) rfl ?_
          refine RunL.off rfl rfl rfl rfl ?_
          refine RunL.off rfl rfl rfl rfl ?_
          refine RunL.off rfl rfl rfl rfl ?_
          refine RunL.off rfl rfl rfl rfl ?_
          refine RunL.ok (OpOk.pickF rfl rfl) rfl ?_
          refine RunL.ok (OpOk.move rfl) rfl ?_
          refine RunL.on rfl rfl ?_
          refine RunL.ok (OpOk.move rfl) rfl ?_
          refine RunL.on rfl rfl ?_
          refine RunL.ok (OpOk.lenR rfl rfl rd rfl) rfl ?_
          refine RunL.on rfl rfl ?_
          refine RunL.ok (OpOk.move rfl) rfl ?_
          refine RunL.on rfl rfl ?_
          refine RunL.ok (OpOk.asT (OpOk.lss rfl rfl) (by omega)) rfl ?_
          refine RunL.ok (OpOk.pickF rfl rfl) rfl ?_
          refine RunL.nil ?_
          refine Run.condT rfl ?_
          refine Run.seq ?_
          refine Run.region ?_
          refine RunL.ok (OpOk.assign rfl) rfl ?_
          refine RunL.ok (OpOk.assign rfl) rfl ?_
          refine RunL.ok (OpOk.assign rfl) rfl ?_
          refine RunL.ok (OpOk.assign rfl) rfl ?_
          refine RunL.nil ?_
          refine Run.ret4 Try.func71 rfl rfl rfl rfl rfl ?_
          exact ⟨_, rfl, as0⟩
        · refine Run.seq ?_
          refine Run.region ?_
          refine RunL.ok (OpOk.assign rfl) rfl ?_
          refine RunL.ok (OpOk.assign rfl) rfl ?_
          refine RunL.ok (OpOk.assign rfl) rfl ?_
          refine RunL.ok (OpOk.assign rfl) rfl ?_
          refine RunL.nil ?_
          refine Run.seq ?_
          refine Run.seq ?_
          refine Run.region ?_
          refine RunL.ok (OpOk.move rfl) rfl ?_
          refine RunL.ok (OpOk.lenR rfl rfl rd rfl) rfl ?_
          refine RunL.ok (OpOk.asF (OpOk.lss rfl rfl) (by omega)) rfl ?_
          refine RunL.nil ?_
          refine Run.condF rfl ?_
          refine Run.skip ?_
          refine Run.seq ?_
          (apply Run.drawD [] (by rfl) (sep_emp _).symm; case hchk => kernel_rfl)
          refine Sd.quiet 0 _ _ rfl rfl rfl rfl rfl (QOp.ok (fun X => OpOk.move rfl)) ?_
          refine Sd.quiet 1 _ _ rfl rfl rfl rfl rfl (QOp.ok (fun X => OpOk.idx1 rfl ti5 rfl rd.left.left rfl (by omega) (by omega))) ?_
          refine Sd.quiet 2 _ _ rfl rfl rfl rfl rfl (QOp.ok (fun X => OpOk.load rfl rfl rfl (Rd.getB rd.left.left (by omega)))) ?_
          refine Sd.quiet 3 _ _ rfl rfl rfl rfl rfl (QOp.ok (fun X => OpOk.convInt rfl rfl rfl (wrapI (by omega) (by omega)))) ?_
          refine Sd.quiet 4 _ _ rfl rfl rfl rfl rfl (QOp.ok (fun X => OpOk.shlN _ 8 rfl rfl rfl rfl (by omega) (by omega))) ?_
          refine Sd.quiet 5 _ _ rfl rfl rfl rfl rfl (QOp.ok (fun X => OpOk.addN 3 _ rfl rfl rfl rfl (by omega))) ?_
          refine Sd.quiet 6 _ _ rfl rfl rfl rfl rfl (QOp.ok (fun X => OpOk.move rfl)) ?_
          refine Sd.quiet 7 _ _ rfl rfl rfl rfl rfl (QOp.ok (fun X => OpOk.idx1 rfl ti5 rfl rd.left.left rfl (by omega) (by omega))) ?_
          refine Sd.quiet 8 _ _ rfl rfl rfl rfl rfl (QOp.ok (fun X => OpOk.load rfl rfl rfl (Rd.getB rd.left.left (by omega)))) ?_
          refine Sd.quiet 9 _ _ rfl rfl rfl rfl rfl (QOp.ok (fun X => OpOk.convInt rfl rfl rfl (wrapI (by omega) (by omega)))) ?_
          refine Sd.quiet 10 _ _ rfl rfl rfl rfl rfl (QOp.ok (fun X => OpOk.addN _ _ rfl rfl rfl rfl (by omega))) ?_
          refine Sd.quiet 11 _ _ rfl rfl rfl rfl rfl (QOp.ok (fun X => OpOk.addN _ 2 rfl rfl rfl rfl (by omega))) ?_
          refine Sd.quiet 12 _ _ rfl rfl rfl rfl rfl (QOp.ok (fun X => OpOk.assign rfl)) ?_
          (apply Sd.tail; case hall => kernel_rfl)
          refine RunL.mem (fl2 (sep_emp _) (sep_emp _)) ?_
          refine RunL.nil ?_
          refine Run.seq ?_
          refine Run.seq ?_
          rw [rw_n]
          refine Run.region ?_
          refine RunL.ok (OpOk.move rfl) rfl ?_
          refine RunL.ok (OpOk.idx1 rfl ti5 rfl rd rfl (by omega) (by omega)) rfl ?_
          refine RunL.ok (OpOk.load rfl rfl rfl (Rd.getB rd (by omega))) rfl ?_
          refine RunL.ok (OpOk.as (c := true) (OpOk.neq rfl rfl) (by rw [decide_eq_false (by omega)]; rfl)) rfl ?_
          refine RunL.ok (OpOk.move rfl) rfl ?_
          refine RunL.on rfl rfl ?_
          refine RunL.ok (OpOk.move rfl) rfl ?_
          refine RunL.on rfl rfl ?_
          refine RunL.ok (OpOk.idx1 rfl ti5 rfl rd rfl (by omega) (by omega)) rfl ?_
          refine RunL.on rfl rfl ?_
          refine RunL.ok (OpOk.load rfl rfl rfl (Rd.getB rd (by omega))) rfl ?_
          refine RunL.on rfl rfl ?_
          refine RunL.ok (OpOk.as (c := false) (OpOk.neq rfl rfl) (by rw [decide_eq_true (by omega)]; rfl)) rfl ?_
          refine RunL.ok (OpOk.pickT rfl rfl) rfl ?_
          refine RunL.ok (OpOk.move rfl) rfl ?_
          refine RunL.on rfl rfl ?_
          refine RunL.ok (OpOk.move rfl) rfl ?_
          refine RunL.on rfl rfl ?_
          refine RunL.ok (OpOk.lenR rfl rfl rd rfl) rfl ?_
          refine RunL.on rfl rfl ?_
          refine RunL.ok (OpOk.move rfl) rfl ?_
          refine RunL.on rfl rfl ?_
          refine RunL.ok (OpOk.asT (OpOk.lss rfl rfl) (by omega)) rfl ?_
          refine RunL.ok (OpOk.pickF rfl rfl) rfl ?_
          refine RunL.nil ?_
          refine Run.condT rfl ?_
          refine Run.seq ?_
          refine Run.region ?_
          refine RunL.ok (OpOk.assign rfl) rfl ?_
          refine RunL.ok (OpOk.assign rfl) rfl ?_
          refine RunL.ok (OpOk.assign rfl) rfl ?_
          refine RunL.ok (OpOk.assign rfl) rfl ?_
          refine RunL.nil ?_
          refine Run.ret4 Try.func71 rfl rfl rfl rfl rfl ?_
          exact ⟨_, rfl, as0⟩
      · have hs : sealed ((bs.take n).take (n - 2)) ≠ bs.take n := fun e => h ⟨hm, hk, hnm, e⟩
        have rdc : Rd w0 A (Go.Proofs.Yteopadjihklkmaa.cutV u 0 n 1) 1 n (B (bs.take n)) := Rd.cutB0 rd (by omega)
        rcases hk2 with hk2 | hk2
        · refine Run.seq ?_
          refine Run.region ?_
          refine RunL.ok (OpOk.assign rfl) rfl ?_
          refine RunL.ok (OpOk.assign rfl) rfl ?_
          refine RunL.ok (OpOk.assign rfl) rfl ?_
          refine RunL.ok (OpOk.assign rfl) rfl ?_
          refine RunL.nil ?_
          refine Run.seq ?_
          refine Run.seq ?_
          refine Run.region ?_
          refine RunL.ok (OpOk.move rfl) rfl ?_
          refine RunL.ok (OpOk.lenR rfl rfl rd rfl) rfl ?_
          refine RunL.ok (OpOk.asF (OpOk.lss rfl rfl) (by omega)) rfl ?_
          refine RunL.nil ?_
          refine Run.condF rfl ?_
          refine Run.skip ?_
          refine Run.seq ?_
          (apply Run.drawD [] (by rfl) (sep_emp _).symm; case hchk => kernel_rfl)
          refine Sd.quiet 0 _ _ rfl rfl rfl rfl rfl (QOp.ok (fun X => OpOk.move rfl)) ?_
          refine Sd.quiet 1 _ _ rfl rfl rfl rfl rfl (QOp.ok (fun X => OpOk.idx1 rfl ti5 rfl rd.left.left rfl (by omega) (by omega))) ?_
          refine Sd.quiet 2 _ _ rfl rfl rfl rfl rfl (QOp.ok (fun X => OpOk.load rfl rfl rfl (Rd.getB rd.left.left (by omega)))) ?_
          refine Sd.quiet 3 _ _ rfl rfl rfl rfl rfl (QOp.ok (fun X => OpOk.convInt rfl rfl rfl (wrapI (by omega) (by omega)))) ?_
          refine Sd.quiet 4 _ _ rfl rfl rfl rfl rfl (QOp.ok (fun X => OpOk.shlN _ 8 rfl rfl rfl rfl (by omega) (by omega))) ?_
          refine Sd.quiet 5 _ _ rfl rfl rfl rfl rfl (QOp.ok (fun X => OpOk.addN 3 _ rfl rfl rfl rfl (by omega))) ?_
          refine Sd.quiet 6 _ _ rfl rfl rfl rfl rfl (QOp.ok (fun X => OpOk.move rfl)) ?_
          refine Sd.quiet 7 _ _ rfl rfl rfl rfl rfl (QOp.ok (fun X => OpOk.idx1 rfl ti5 rfl rd.left.left rfl (by omega) (by omega))) ?_
          refine Sd.quiet 8 _ _ rfl rfl rfl rfl rfl (QOp.ok (fun X => OpOk.load rfl rfl rfl (Rd.getB rd.left.left (by omega)))) ?_
          refine Sd.quiet 9 _ _ rfl rfl rfl rfl rfl (QOp.ok (fun X => OpOk.convInt rfl rfl rfl (wrapI (by omega) (by omega)))) ?_
          refine Sd.quiet 10 _ _ rfl rfl rfl rfl rfl (QOp.ok (fun X => OpOk.addN _ _ rfl rfl rfl rfl (by omega))) ?_
          refine Sd.quiet 11 _ _ rfl rfl rfl rfl rfl (QOp.ok (fun X => OpOk.addN _ 2 rfl rfl rfl rfl (by omega))) ?_
          refine Sd.quiet 12 _ _ rfl rfl rfl rfl rfl (QOp.ok (fun X => OpOk.assign rfl)) ?_
          (apply Sd.tail; case hall => kernel_rfl)
          refine RunL.mem (fl2 (sep_emp _) (sep_emp _)) ?_
          refine RunL.nil ?_
          refine Run.seq ?_
          refine Run.seq ?_
          rw [rw_n]
          refine Run.region ?_
          refine RunL.ok (OpOk.move rfl) rfl ?_
          refine RunL.ok (OpOk.idx1 rfl ti5 rfl rd rfl (by omega) (by omega)) rfl ?_
          refine RunL.ok (OpOk.load rfl rfl rfl (Rd.getB rd (by omega))) rfl ?_
          refine RunL.ok (OpOk.as (c := false) (OpOk.neq rfl rfl) (by rw [decide_eq_true (by omega)]; rfl)) rfl ?_
          refine RunL.ok (OpOk.move rfl) rfl ?_
          refine RunL.off rfl rfl rfl rfl ?_
          refine RunL.off rfl rfl rfl rfl ?_
          refine RunL.off rfl rfl rfl rfl ?_
          refine RunL.off rfl rfl rfl rfl ?_
          refine RunL.ok (OpOk.pickF rfl rfl) rfl ?_
          refine RunL.ok (OpOk.move rfl) rfl ?_
          refine RunL.on rfl rfl ?_
          refine RunL.ok (OpOk.move rfl) rfl ?_
          refine RunL.on rfl rfl ?_
          refine RunL.ok (OpOk.lenR rfl rfl rd rfl) rfl ?_
          refine RunL.on rfl rfl ?_
          refine RunL.ok (OpOk.move rfl) rfl ?_
          refine RunL.on rfl rfl ?_
          refine RunL.ok (OpOk.asF (OpOk.lss rfl rfl) (by omega)) rfl ?_
          refine RunL.ok (OpOk.pickF rfl rfl) rfl ?_
          refine RunL.nil ?_
          refine Run.condF rfl ?_
          refine Run.skip ?_
          refine Run.seq ?_
          refine Run.region ?_
          refine RunL.ok (OpOk.move rfl) rfl ?_
          refine RunL.ok (OpOk.move rfl) rfl ?_
          refine RunL.ok (OpOk.cut rfl ti5 rfl rd rfl ⟨_, rfl⟩ (by omega) (by omega)) rfl ?_
          refine RunL.call cal83 rfl (s83c rdc (by omega) (by omega) (by assumption)) rfl (fun vx3 Ax3 hx3 => ?_)
          obtain ⟨x4, ⟨rfl, rfl⟩⟩ := hx3
          refine RunL.ok (OpOk.move rfl) rfl ?_
          refine RunL.ok (OpOk.ext20 rfl) rfl ?_
          refine RunL.ok (OpOk.ext21 rfl) rfl ?_
          refine RunL.ok (OpOk.assign rfl) rfl ?_
          refine RunL.ok (OpOk.assign rfl) rfl ?_
          refine RunL.nil ?_
          refine Run.seq ?_
          refine Run.seq ?_
          refine Run.region ?_
          refine RunL.ok (OpOk.move rfl) rfl ?_
          refine RunL.ok (OpOk.as (c := true) (OpOk.neq rfl rfl) (by rw [decide_eq_false (by omega)]; rfl)) rfl ?_
          refine RunL.nil ?_
          refine Run.condT rfl ?_
          refine Run.seq ?_
          refine Run.region ?_
          refine RunL.ok (OpOk.assign rfl) rfl ?_
          refine RunL.ok (OpOk.assign rfl) rfl ?_
          refine RunL.ok (OpOk.assign rfl) rfl ?_
          refine RunL.ok (OpOk.assign rfl) rfl ?_
          refine RunL.nil ?_
          refine Run.ret4 Try.func71 rfl rfl rfl rfl rfl ?_
          exact ⟨_, rfl, as1⟩
        · refine Run.seq ?_
          refine Run.region ?_
          refine RunL.ok (OpOk.assign rfl) rfl ?_
          refine RunL.ok (OpOk.assign rfl) rfl ?_
          refine RunL.ok (OpOk.assign rfl) rfl ?_
          refine RunL.ok (OpOk.assign rfl) rfl ?_
          refine RunL.nil ?_
          refine Run.seq ?_
          refine Run.seq ?_
          refine Run.region ?_
          refine RunL.ok (OpOk.move rfl) rfl ?_
          refine RunL.ok (OpOk.lenR rfl rfl rd rfl) rfl ?_
          refine RunL.ok (OpOk.asF (OpOk.lss rfl rfl) (by omega)) rfl ?_
          refine RunL.nil ?_
          refine Run.condF rfl ?_
          refine Run.skip ?_
          refine Run.seq ?_
          (apply Run.drawD [] (by rfl) (sep_emp _).symm; case hchk => kernel_rfl)
          refine Sd.quiet 0 _ _ rfl rfl rfl rfl rfl (QOp.ok (fun X => OpOk.move rfl)) ?_
          refine Sd.quiet 1 _ _ rfl rfl rfl rfl rfl (QOp.ok (fun X => OpOk.idx1 rfl ti5 rfl rd.left.left rfl (by omega) (by omega))) ?_
          refine Sd.quiet 2 _ _ rfl rfl rfl rfl rfl (QOp.ok (fun X => OpOk.load rfl rfl rfl (Rd.getB rd.left.left (by omega)))) ?_
          refine Sd.quiet 3 _ _ rfl rfl rfl rfl rfl (QOp.ok (fun X => OpOk.convInt rfl rfl rfl (wrapI (by omega) (by omega)))) ?_
          refine Sd.quiet 4 _ _ rfl rfl rfl rfl rfl (QOp.ok (fun X => OpOk.shlN _ 8 rfl rfl rfl rfl (by omega) (by omega))) ?_
          refine Sd.quiet 5 _ _ rfl rfl rfl rfl rfl (QOp.ok (fun X => OpOk.addN 3 _ rfl rfl rfl rfl (by omega))) ?_
          refine Sd.quiet 6 _ _ rfl rfl rfl rfl rfl (QOp.ok (fun X => OpOk.move rfl)) ?_
          refine Sd.quiet 7 _ _ rfl rfl rfl rfl rfl (QOp.ok (fun X => OpOk.idx1 rfl ti5 rfl rd.left.left rfl (by omega) (by omega))) ?_
          refine Sd.quiet 8 _ _ rfl rfl rfl rfl rfl (QOp.ok (fun X => OpOk.load rfl rfl rfl (Rd.getB rd.left.left (by omega)))) ?_
          refine Sd.quiet 9 _ _ rfl rfl rfl rfl rfl (QOp.ok (fun X => OpOk.convInt rfl rfl rfl (wrapI (by omega) (by omega)))) ?_
          refine Sd.quiet 10 _ _ rfl rfl rfl rfl rfl (QOp.ok (fun X => OpOk.addN _ _ rfl rfl rfl rfl (by omega))) ?_
          refine Sd.quiet 11 _ _ rfl rfl rfl rfl rfl (QOp.ok (fun X => OpOk.addN _ 2 rfl rfl rfl rfl (by omega))) ?_
          refine Sd.quiet 12 _ _ rfl rfl rfl rfl rfl (QOp.ok (fun X => OpOk.assign rfl)) ?_
          (apply Sd.tail; case hall => kernel_rfl)
          refine RunL.mem (fl2 (sep_emp _) (sep_emp _)) ?_
          refine RunL.nil ?_
          refine Run.seq ?_
          refine Run.seq ?_
          rw [rw_n]
          refine Run.region ?_
          refine RunL.ok (OpOk.move rfl) rfl ?_
          refine RunL.ok (OpOk.idx1 rfl ti5 rfl rd rfl (by omega) (by omega)) rfl ?_
          refine RunL.ok (OpOk.load rfl rfl rfl (Rd.getB rd (by omega))) rfl ?_
          refine RunL.ok (OpOk.as (c := true) (OpOk.neq rfl rfl) (by rw [decide_eq_false (by omega)]; rfl)) rfl ?_
          refine RunL.ok (OpOk.move rfl) rfl ?_
          refine RunL.on rfl rfl ?_
          refine RunL.ok (OpOk.move rfl) rfl ?_
          refine RunL.on rfl rfl ?_
          refine RunL.ok (OpOk.idx1 rfl ti5 rfl rd rfl (by omega) (by omega)) rfl ?_
          refine RunL.on rfl rfl ?_
          refine RunL.ok (OpOk.load rfl rfl rfl (Rd.getB rd (by omega))) rfl ?_
          refine RunL.on rfl rfl ?_
          refine RunL.ok (OpOk.as (c := false) (OpOk.neq rfl rfl) (by rw [decide_eq_true (by omega)]; rfl)) rfl ?_
          refine RunL.ok (OpOk.pickT rfl rfl) rfl ?_
          refine RunL.ok (OpOk.move rfl) rfl ?_
          refine RunL.on rfl rfl ?_
          refine RunL.ok (OpOk.move rfl) rfl ?_
          refine RunL.on rfl rfl ?_
          refine RunL.ok (OpOk.lenR rfl rfl rd rfl) rfl ?_
          refine RunL.on rfl rfl ?_
          refine RunL.ok (OpOk.move rfl) rfl ?_
          refine RunL.on rfl rfl ?_
          refine RunL.ok (OpOk.asF (OpOk.lss rfl rfl) (by omega)) rfl ?_
          refine RunL.ok (OpOk.pickF rfl rfl) rfl ?_
          refine RunL.nil ?_
          refine Run.condF rfl ?_
          refine Run.skip ?_
          refine Run.seq ?_
          refine Run.region ?_
          refine RunL.ok (OpOk.move rfl) rfl ?_
          refine RunL.ok (OpOk.move rfl) rfl ?_
          refine RunL.ok (OpOk.cut rfl ti5 rfl rd rfl ⟨_, rfl⟩ (by omega) (by omega)) rfl ?_
          refine RunL.call cal83 rfl (s83c rdc (by omega) (by omega) (by assumption)) rfl (fun vx3 Ax3 hx3 => ?_)
          obtain ⟨x4, ⟨rfl, rfl⟩⟩ := hx3
          refine RunL.ok (OpOk.move rfl) rfl ?_
          refine RunL.ok (OpOk.ext20 rfl) rfl ?_
          refine RunL.ok (OpOk.ext21 rfl) rfl ?_
          refine RunL.ok (OpOk.assign rfl) rfl ?_
          refine RunL.ok (OpOk.assign rfl) rfl ?_
          refine RunL.nil ?_
          refine Run.seq ?_
          refine Run.seq ?_
          refine Run.region ?_
          refine RunL.ok (OpOk.move rfl) rfl ?_
          refine RunL.ok (OpOk.as (c := true) (OpOk.neq rfl rfl) (by rw [decide_eq_false (by omega)]; rfl)) rfl ?_
          refine RunL.nil ?_
          refine Run.condT rfl ?_
          refine Run.seq ?_
          refine Run.region ?_
          refine RunL.ok (OpOk.assign rfl) rfl ?_
          refine RunL.ok (OpOk.assign rfl) rfl ?_
          refine RunL.ok (OpOk.assign rfl) rfl ?_
          refine RunL.ok (OpOk.assign rfl) rfl ?_
          refine RunL.nil ?_
          refine Run.ret4 Try.func71 rfl rfl rfl rfl rfl ?_
          exact ⟨_, rfl, as1⟩
    · have hk1 : ¬ (bs.getD (Int.toNat 0) 0).toNat = 1 := fun e => hk (.inl e)
      have hk2 : ¬ (bs.getD (Int.toNat 0) 0).toNat = 2 := fun e => hk (.inr e)
      refine Run.seq ?_
      refine Run.region ?_
      refine RunL.ok (OpOk.assign rfl) rfl ?_
      refine RunL.ok (OpOk.assign rfl) rfl ?_
      refine RunL.ok (OpOk.assign rfl) rfl ?_
      refine RunL.ok (OpOk.assign rfl) rfl ?_
      refine RunL.nil ?_
      refine Run.seq ?_
      refine Run.seq ?_
      refine Run.region ?_
      refine RunL.ok (OpOk.move rfl) rfl ?_
      refine RunL.ok (OpOk.lenR rfl rfl rd rfl) rfl ?_
      refine RunL.ok (OpOk.asF (OpOk.lss rfl rfl) (by omega)) rfl ?_
      refine RunL.nil ?_
      refine Run.condF rfl ?_
      refine Run.skip ?_
      refine Run.seq ?_
      (apply Run.drawD [] (by rfl) (sep_emp _).symm; case hchk => kernel_rfl)
      refine Sd.quiet 0 _ _ rfl rfl rfl rfl rfl (QOp.ok (fun X => OpOk.move rfl)) ?_
      refine Sd.quiet 1 _ _ rfl rfl rfl rfl rfl (QOp.ok (fun X => OpOk.idx1 rfl ti5 rfl rd.left.left rfl (by omega) (by omega))) ?_
      refine Sd.quiet 2 _ _ rfl rfl rfl rfl rfl (QOp.ok (fun X => OpOk.load rfl rfl rfl (Rd.getB rd.left.left (by omega)))) ?_
      refine Sd.quiet 3 _ _ rfl rfl rfl rfl rfl (QOp.ok (fun X => OpOk.convInt rfl rfl rfl (wrapI (by omega) (by omega)))) ?_
      refine Sd.quiet 4 _ _ rfl rfl rfl rfl rfl (QOp.ok (fun X => OpOk.shlN _ 8 rfl rfl rfl rfl (by omega) (by omega))) ?_
      refine Sd.quiet 5 _ _ rfl rfl rfl rfl rfl (QOp.ok (fun X => OpOk.addN 3 _ rfl rfl rfl rfl (by omega))) ?_
      refine Sd.quiet 6 _ _ rfl rfl rfl rfl rfl (QOp.ok (fun X => OpOk.move rfl)) ?_
      refine Sd.quiet 7 _ _ rfl rfl rfl rfl rfl (QOp.ok (fun X => OpOk.idx1 rfl ti5 rfl rd.left.left rfl (by omega) (by omega))) ?_
      refine Sd.quiet 8 _ _ rfl rfl rfl rfl rfl (QOp.ok (fun X => OpOk.load rfl rfl rfl (Rd.getB rd.left.left (by omega)))) ?_
      refine Sd.quiet 9 _ _ rfl rfl rfl rfl rfl (QOp.ok (fun X => OpOk.convInt rfl rfl rfl (wrapI (by omega) (by omega)))) ?_
      refine Sd.quiet 10 _ _ rfl rfl rfl rfl rfl (QOp.ok (fun X => OpOk.addN _ _ rfl rfl rfl rfl (by omega))) ?_
      refine Sd.quiet 11 _ _ rfl rfl rfl rfl rfl (QOp.ok (fun X => OpOk.addN _ 2 rfl rfl rfl rfl (by omega))) ?_
      refine Sd.quiet 12 _ _ rfl rfl rfl rfl rfl (QOp.ok (fun X => OpOk.assign rfl)) ?_
      (apply Sd.tail; case hall => kernel_rfl)
      refine RunL.mem (fl2 (sep_emp _) (sep_emp _)) ?_
      refine RunL.nil ?_
      refine Run.seq ?_
      refine Run.seq ?_
      rw [rw_n]
      refine Run.region ?_
      refine RunL.ok (OpOk.move rfl) rfl ?_
      refine RunL.ok (OpOk.idx1 rfl ti5 rfl rd rfl (by omega) (by omega)) rfl ?_
      refine RunL.ok (OpOk.load rfl rfl rfl (Rd.getB rd (by omega))) rfl ?_
      refine RunL.ok (OpOk.as (c := true) (OpOk.neq rfl rfl) (by rw [decide_eq_false (by omega)]; rfl)) rfl ?_
      refine RunL.ok (OpOk.move rfl) rfl ?_
      refine RunL.on rfl rfl ?_
      refine RunL.ok (OpOk.move rfl) rfl ?_
      refine RunL.on rfl rfl ?_
      refine RunL.ok (OpOk.idx1 rfl ti5 rfl rd rfl (by omega) (by omega)) rfl ?_
      refine RunL.on rfl rfl ?_
      refine RunL.ok (OpOk.load rfl rfl rfl (Rd.getB rd (by omega))) rfl ?_
      refine RunL.on rfl rfl ?_
      refine RunL.ok (OpOk.as (c := true) (OpOk.neq rfl rfl) (by rw [decide_eq_false (by omega)]; rfl)) rfl ?_
      refine RunL.ok (OpOk.pickT rfl rfl) rfl ?_
      refine RunL.ok (OpOk.move rfl) rfl ?_
      refine RunL.off rfl rfl rfl rfl ?_
      refine RunL.off rfl rfl rfl rfl ?_
      refine RunL.off rfl rfl rfl rfl ?_
      refine RunL.off rfl rfl rfl rfl ?_
      refine RunL.ok (OpOk.pickT rfl rfl) rfl ?_
      refine RunL.nil ?_
      refine Run.condT rfl ?_
      refine Run.seq ?_
      refine Run.region ?_
      refine RunL.ok (OpOk.assign rfl) rfl ?_
      refine RunL.ok (OpOk.assign rfl) rfl ?_
      refine RunL.ok (OpOk.assign rfl) rfl ?_
      refine RunL.ok (OpOk.assign rfl) rfl ?_
      refine RunL.nil ?_
      refine Run.ret4 Try.func71 rfl rfl rfl rfl rfl ?_
      exact ⟨_, rfl, as0⟩
/-- The first row of some bytes: its kind, its body, how many bytes it has. -/
def nextF (bs : List UInt8) : Option (UInt8 × List UInt8 × Nat) :=
  if 3 ≤ bs.length ∧ ((bs.getD 0 0).toNat = 1 ∨ (bs.getD 0 0).toNat = 2) ∧ (bs.getD 1 0).toNat * 256 + (bs.getD 2 0).toNat + 5 ≤ bs.length ∧ sealed ((bs.take ((bs.getD 1 0).toNat * 256 + (bs.getD 2 0).toNat + 5)).take ((bs.getD 1 0).toNat * 256 + (bs.getD 2 0).toNat + 5 - 2)) = bs.take ((bs.getD 1 0).toNat * 256 + (bs.getD 2 0).toNat + 5) then
    some (bs.getD 0 0, ((bs.take ((bs.getD 1 0).toNat * 256 + (bs.getD 2 0).toNat + 5)).take ((bs.getD 1 0).toNat * 256 + (bs.getD 2 0).toNat + 5 - 2)).drop 3, (bs.getD 1 0).toNat * 256 + (bs.getD 2 0).toNat + 5)
  else none
theorem s71a {u : Value} {m : Nat} {bs : List UInt8} (rd : Rd w0 A u 1 m (B bs)) (h : nextF bs = none) :
    Spec Try.prog w0 71 [u] A (fun v' A' => ∃ J, v' = .tuple #[.int .u8 0, .slice none 0 0, .int .i64 0, .bool false] ∧ A' = A * J) := by
  have hl := rd.lenB
  subst hl
  refine nextZ rd rfl (fun hc => ?_)
  rw [nextF, if_pos hc] at h
  cases h
theorem Spec.learn {P : Program} {w0 : World} {f : FuncId} {args : List Value} {A : Asn} {R R' : Value → Asn → Prop} (hr : ∀ v A' w, R v A' → Sat w0 w A' → R' v A') (h : Spec P w0 f args A R) : Spec P w0 f args A R' :=
  ⟨fun w hs => (h.out w hs).mono fun _ w' ⟨v, A', hR, he, hs'⟩ => ⟨v, A', hr v A' w' hR hs', he, hs'⟩⟩
theorem nextF_some {bs body : List UInt8} {k : UInt8} {n : Nat} (h : nextF bs = some (k, body, n)) : body = ((bs.take n).take (n - 2)).drop 3 ∧ 5 ≤ n ∧ n ≤ bs.length ∧ n ≤ 65540 ∧ (k.toNat = 1 ∨ k.toNat = 2) ∧ body.length = n - 5 := by
  have h1 := (bs.getD 1 0).toNat_lt
  have h2 := (bs.getD 2 0).toNat_lt
  rw [nextF] at h
  split at h
  · rename_i hc
    simp only [Option.some.injEq, Prod.mk.injEq] at h
    obtain ⟨rfl, h3, rfl⟩ := h
    refine ⟨h3.symm, by omega, hc.2.2.1, by omega, hc.2.1, ?_⟩
    rw [← h3, List.length_drop, List.length_take, List.length_take]
    omega
  · cases h
theorem nextY {u : Value} {m n : Nat} {k : UInt8} {bs body : List UInt8} (rd : Rd w0 A u 1 m (B bs)) (h : nextF bs = some (k, body, n)) :
    Spec Try.prog w0 71 [u] A (fun v' A' => ∃ v J, v' = .tuple #[.int .u8 ((k.toNat : Nat) : Int), Go.Proofs.Yteopadjihklkmaa.cutV v 3 (n - 2) 1, .int .i64 (n : Int), .bool true] ∧ A' = A * J * own 5 1 v (n - 2) (B ((bs.take n).take (n - 2)))) := by
  have hl := rd.lenB
  subst hl
  rw [nextF] at h
  split at h
  · rename_i hc
    simp only [Option.some.injEq, Prod.mk.injEq] at h
    obtain ⟨rfl, _, rfl⟩ := h
    exact nextS rd rfl hc.2.1 hc.2.2.1 hc.2.2.2
  · cases h
theorem s71b {u : Value} {m n : Nat} {k : UInt8} {bs body : List UInt8} (rd : Rd w0 A u 1 m (B bs)) (h : nextF bs = some (k, body, n)) :
    Spec Try.prog w0 71 [u] A (fun v' A' => ∃ v J, v' = .tuple #[.int .u8 ((k.toNat : Nat) : Int), Go.Proofs.Yteopadjihklkmaa.cutV v 3 (n - 2) 1, .int .i64 (n : Int), .bool true] ∧ A' = A * J * own 5 1 v (n - 2) (B ((bs.take n).take (n - 2))) ∧
      Rd w0 (own 5 1 v (n - 2) (B ((bs.take n).take (n - 2)))) (Go.Proofs.Yteopadjihklkmaa.cutV v 3 (n - 2) 1) 1 (n - 5) (B body)) := by
  obtain ⟨hb, h5, _, _, _, hbl⟩ := nextF_some h
  refine (nextY rd h).learn ?_
  rintro v' A' w ⟨v, J, rfl, rfl⟩ hs
  refine ⟨v, J, rfl, rfl, ?_⟩
  have := Rd.cutB hs.ownRd0 (show 3 ≤ n - 2 by omega) (Nat.le_refl (n - 2))
  have e : (((bs.take n).take (n - 2)).drop 3).take (n - 2 - 3) = body := by
    rw [← hb]
    exact List.take_of_length_le (by omega)
  rw [e, show n - 2 - 3 = n - 5 by omega] at this
  exact this
end
end Go.Proofs.Yteopadjihklkmaa
