/- Numbers read; the latest; the document's examples. -/
import Derived.Test.YtajjmephfoaiaaaSp2
import Derived.Test.YtajjmephfoaiaaaWs
namespace Go.Proofs.Ytajjmephfoaiaaa
open Go Go.Proofs
set_option maxRecDepth 100000
set_option maxHeartbeats 4000000
def okB (x : UInt8) : Bool := decide (x.toNat / 16 ≤ 9 ∧ x.toNat % 16 ≤ 9)
def numB (bs : List UInt8) : Nat := bs.foldl (fun n x => 100 * n + 10 * (x.toNat / 16) + x.toNat % 16) 0
def numE (bs : List UInt8) : Int := if bs.length = 0 then 10 else if 9 < bs.length then 11 else if bs.all okB then 0 else 12
def numV (bs : List UInt8) : Int := if numE bs = 0 then (numB bs : Int) else 0
theorem numB_next {bs : List UInt8} {i : Nat} (h : i < bs.length) : numB (bs.take (i + 1)) = 100 * numB (bs.take i) + 10 * ((bs.getD i 0).toNat / 16) + (bs.getD i 0).toNat % 16 := by
  rw [take_nextB h]; simp [numB]
theorem numB_lt {bs : List UInt8} (h : bs.all okB = true) : numB bs < 100 ^ bs.length := by
  have key : ∀ i, i ≤ bs.length → numB (bs.take i) < 100 ^ i := by
    intro i
    induction i with
    | zero => intro _; simp [numB]
    | succ i ih =>
      intro hi
      rw [numB_next (by omega), Nat.pow_succ]
      have h1 := ih (by omega)
      have h2 : okB (bs.getD i 0) = true := by rw [List.all_eq_true] at h; exact h _ (List.mem_of_getElem? (getD_at (by omega)))
      simp only [okB, decide_eq_true_eq] at h2
      omega
  have := key bs.length (Nat.le_refl _)
  rwa [List.take_length] at this
theorem u8shr4 (x : UInt8) : ((x.toNat : Int) / 2 ^ min (4 : Int).toNat IntKind.u8.bits) = ((x.toNat / 16 : Nat) : Int) := by
  have e : (2 : Int) ^ min (4 : Int).toNat IntKind.u8.bits = 16 := by decide
  rw [e]; omega
theorem u8and15 (x : UInt8) : IntKind.u8.wrap ((BitVec.ofInt IntKind.u8.bits (x.toNat : Int) &&& BitVec.ofInt IntKind.u8.bits 15).toNat : Int) = ((x.toNat % 16 : Nat) : Int) := by
  have key : ∀ c : Fin 256, IntKind.u8.wrap ((BitVec.ofInt IntKind.u8.bits ((UInt8.ofNat c.val).toNat : Int) &&& BitVec.ofInt IntKind.u8.bits 15).toNat : Int) = (((UInt8.ofNat c.val).toNat % 16 : Nat) : Int) := by decide +kernel
  have h := key ⟨x.toNat, x.toNat_lt⟩
  simpa using h
theorem all_split {α : Type} [Inhabited α] {p : α → Bool} {l : List α} {i : Nat} (h : i < l.length) (ha : (l.take i).all p = true) : l.all p = (p (l.getD i default) && (l.drop (i + 1)).all p) := by
  have hz : l.all p = ((l.take i).all p && (l.drop i).all p) := by rw [← List.all_append, List.take_append_drop]
  rw [hz, ha, Bool.true_and, drop_next h, List.all_cons]
theorem s26 {w0 : World} {A : Asn} {u : Value} {m : Nat} {bs : List UInt8} (rd : Rd w0 A u 1 m (B bs)) :
    Spec Try.prog w0 26 [u] A (fun v' A' => v' = .tuple #[.int .i64 (numV bs), .int .i64 (numE bs)] ∧ A' = A) := by
  have hl := rd.lenB
  subst hl
  have hmax := rd.max
  refine Spec.of_run [(0, u)] Try.func26 rfl (Nat.le_of_ble_eq_true rfl) (by repeat (first | exact trivial | refine ⟨rfl, ?_⟩)) ?_
  rcases Nat.eq_zero_or_pos bs.length with h0 | h0
  · have hE : numE bs = 10 := by simp [numE, h0]
    rw [hE, show numV bs = 0 by simp [numV, hE]]
    refine Run.seq ?_
    refine Run.region ?_
    refine RunL.ok (OpOk.assign rfl) rfl ?_
    refine RunL.ok (OpOk.assign rfl) rfl ?_
    refine RunL.nil ?_
    refine Run.seq ?_
    refine Run.block ?_
    refine Run.seq ?_
    refine Run.region ?_
    refine RunL.ok (OpOk.move rfl) rfl ?_
    refine RunL.ok (OpOk.lenR rfl rfl rd rfl) rfl ?_
    refine RunL.ok (OpOk.asT (OpOk.eql rfl rfl) (by omega)) rfl ?_
    refine RunL.ok (OpOk.assign rfl) rfl ?_
    refine RunL.nil ?_
    refine Run.condT rfl ?_
    refine Run.seq ?_
    refine Run.region ?_
    refine RunL.ok (OpOk.assign rfl) rfl ?_
    refine RunL.ok (OpOk.assign rfl) rfl ?_
    refine RunL.nil ?_
    refine Run.ret2 Try.func26 rfl rfl rfl ?_
    exact ⟨rfl, rfl⟩
  rcases Nat.lt_or_ge 9 bs.length with h9 | h9
  · have hE : numE bs = 11 := by simp only [numE]; rw [if_neg (by omega), if_pos h9]
    rw [hE, show numV bs = 0 by simp [numV, hE]]
    refine Run.seq ?_
    refine Run.region ?_
    refine RunL.ok (OpOk.assign rfl) rfl ?_
    refine RunL.ok (OpOk.assign rfl) rfl ?_
    refine RunL.nil ?_
    refine Run.seq ?_
    refine Run.block ?_
    refine Run.seq ?_
    refine Run.region ?_
    refine RunL.ok (OpOk.move rfl) rfl ?_
    refine RunL.ok (OpOk.lenR rfl rfl rd rfl) rfl ?_
    refine RunL.ok (OpOk.asF (OpOk.eql rfl rfl) (by omega)) rfl ?_
    refine RunL.ok (OpOk.assign rfl) rfl ?_
    refine RunL.nil ?_
    refine Run.condF rfl ?_
    refine Run.seq ?_
    refine Run.region ?_
    refine RunL.ok (OpOk.move rfl) rfl ?_
    refine RunL.ok (OpOk.lenR rfl rfl rd rfl) rfl ?_
    refine RunL.ok (OpOk.asT (OpOk.gtr rfl rfl) (by omega)) rfl ?_
    refine RunL.ok (OpOk.assign rfl) rfl ?_
    refine RunL.nil ?_
    refine Run.condT rfl ?_
    refine Run.seq ?_
    refine Run.region ?_
    refine RunL.ok (OpOk.assign rfl) rfl ?_
    refine RunL.ok (OpOk.assign rfl) rfl ?_
    refine RunL.nil ?_
    refine Run.ret2 Try.func26 rfl rfl rfl ?_
    exact ⟨rfl, rfl⟩
  refine Run.seq ?_
  refine Run.region ?_
  refine RunL.ok (OpOk.assign rfl) rfl ?_
  refine RunL.ok (OpOk.assign rfl) rfl ?_
  refine RunL.nil ?_
  refine Run.seq ?_
  refine Run.block ?_
  refine Run.seq ?_
  refine Run.region ?_
  refine RunL.ok (OpOk.move rfl) rfl ?_
  refine RunL.ok (OpOk.lenR rfl rfl rd rfl) rfl ?_
  refine RunL.ok (OpOk.asF (OpOk.eql rfl rfl) (by omega)) rfl ?_
  refine RunL.ok (OpOk.assign rfl) rfl ?_
  refine RunL.nil ?_
  refine Run.condF rfl ?_
  refine Run.seq ?_
  refine Run.region ?_
  refine RunL.ok (OpOk.move rfl) rfl ?_
  refine RunL.ok (OpOk.lenR rfl rfl rd rfl) rfl ?_
  refine RunL.ok (OpOk.asF (OpOk.gtr rfl rfl) (by omega)) rfl ?_
  refine RunL.ok (OpOk.assign rfl) rfl ?_
  refine RunL.nil ?_
  refine Run.condF rfl ?_
  refine Run.skip ?_
  refine Run.inBlock ?_
  refine Run.seq ?_
  refine Run.region ?_
  refine RunL.ok (OpOk.assign rfl) rfl ?_
  refine RunL.nil ?_
  refine Run.seq ?_
  refine Run.seq ?_
  refine Run.region ?_
  refine RunL.ok (OpOk.move rfl) rfl ?_
  refine RunL.ok (OpOk.lenR rfl rfl rd rfl) rfl ?_
  refine RunL.ok (OpOk.move rfl) rfl ?_
  refine RunL.nil ?_
  refine Run.block ?_
  refine Run.loop (X := Nat) (fun i => [(17, u), (18, .int .i64 (bs.length : Int)), (4, .int .i64 ((numB (bs.take i) : Nat) : Int)), (19, .int .i64 i)]) (fun _ => A) (fun i => i ≤ bs.length ∧ (bs.take i).all okB = true) (fun i => bs.length - i) 0 ⟨rfl, rfl, rfl, rfl, trivial⟩ rfl ⟨by omega, by simp⟩ (fun i hi ih => ?_)
  obtain ⟨hi, hall⟩ := hi
  have hlt9 := numB_lt hall
  rw [List.length_take] at hlt9
  rcases Nat.lt_or_ge i bs.length with hlt | hge
  · have hp : 100 ^ min i bs.length ≤ 100 ^ 8 := Nat.pow_le_pow_right (by decide) (by omega)
    have hz := all_split hlt hall
    have hn := numB_next hlt
    have ha : (bs.take (i + 1)).all okB = okB (bs.getD i 0) := by rw [take_nextB hlt, List.all_append, hall]; simp
    change bs.all okB = (okB (bs.getD i 0) && (bs.drop (i + 1)).all okB) at hz
    generalize hx : bs.getD i 0 = x at *
    have hx256 := x.toNat_lt
    refine Run.seq ?_
    refine Run.region ?_
    refine RunL.ok (OpOk.asT (OpOk.lss rfl rfl) (by omega)) rfl ?_
    refine RunL.nil ?_
    refine Run.seq ?_
    refine Run.condT rfl ?_
    refine Run.skip ?_
    refine Run.seq ?_
    refine Run.block ?_
    refine Run.seq ?_
    refine Run.region ?_
    refine RunL.ok (OpOk.idx1N rfl ti5 rfl rd rfl (by omega)) rfl ?_
    refine RunL.ok (OpOk.load rfl rfl rfl (Rd.getBE (by assumption) rd (by omega))) rfl ?_
    refine RunL.ok (OpOk.assign rfl) rfl ?_
    refine RunL.nil ?_
    refine Run.seq ?_
    refine Run.region ?_
    refine RunL.ok (OpOk.move rfl) rfl ?_
    refine RunL.ok (OpOk.shrU _ 4 rfl rfl rfl rfl (by omega)) rfl ?_
    refine RunL.ok (OpOk.convInt rfl rfl rfl (wrapI (by omega) (by omega))) rfl ?_
    refine RunL.ok (OpOk.move rfl) rfl ?_
    refine RunL.ok (OpOk.and rfl rfl (and15 _)) rfl ?_
    refine RunL.ok (OpOk.convInt rfl rfl rfl (wrapI (by omega) (by omega))) rfl ?_
    refine RunL.ok (OpOk.assign rfl) rfl ?_
    refine RunL.ok (OpOk.assign rfl) rfl ?_
    refine RunL.nil ?_
    refine Run.seq ?_
    refine Run.seq ?_
    refine Run.region ?_
    refine RunL.ok (OpOk.move rfl) rfl ?_
    refine RunL.ok (OpOk.gtr rfl rfl) rfl ?_
    refine RunL.ok (OpOk.move rfl) rfl ?_
    refine RunL.splitD (t := 31) rfl (fun y1 => ?_) (fun y1 => ?_)
    · refine RunL.off rfl rfl rfl rfl ?_
      refine RunL.off rfl rfl rfl rfl ?_
      refine RunL.ok (OpOk.pickT rfl rfl) rfl ?_
      refine RunL.nil ?_
      refine Run.condT rfl ?_
      refine Run.seq ?_
      refine Run.region ?_
      refine RunL.ok (OpOk.assign rfl) rfl ?_
      refine RunL.ok (OpOk.assign rfl) rfl ?_
      refine RunL.nil ?_
      refine Run.ret2 Try.func26 rfl rfl rfl ?_
      have hb : okB x = false := by simp [okB]; omega
      rw [hb, Bool.false_and] at hz
      have hE : numE bs = 12 := by simp only [numE]; rw [if_neg (by omega), if_neg (by omega), hz]; rfl
      rw [hE, show numV bs = 0 by simp [numV, hE]]
      exact ⟨rfl, rfl⟩
    refine RunL.on rfl rfl ?_
    refine RunL.ok (OpOk.move rfl) rfl ?_
    refine RunL.on rfl rfl ?_
    refine RunL.ok (OpOk.gtr rfl rfl) rfl ?_
    refine RunL.ok (OpOk.pickF rfl rfl) rfl ?_
    refine RunL.nil ?_
    refine Run.condD rfl (fun y2 => ?_) (fun y2 => ?_)
    · refine Run.seq ?_
      refine Run.region ?_
      refine RunL.ok (OpOk.assign rfl) rfl ?_
      refine RunL.ok (OpOk.assign rfl) rfl ?_
      refine RunL.nil ?_
      refine Run.ret2 Try.func26 rfl rfl rfl ?_
      have hb : okB x = false := by simp [okB]; omega
      rw [hb, Bool.false_and] at hz
      have hE : numE bs = 12 := by simp only [numE]; rw [if_neg (by omega), if_neg (by omega), hz]; rfl
      rw [hE, show numV bs = 0 by simp [numV, hE]]
      exact ⟨rfl, rfl⟩
    refine Run.skip ?_
    refine Run.region ?_
    refine RunL.ok (OpOk.move rfl) rfl ?_
    refine RunL.ok (OpOk.mulN 100 _ rfl rfl rfl rfl (by omega)) rfl ?_
    refine RunL.ok (OpOk.move rfl) rfl ?_
    refine RunL.ok (OpOk.mulN 10 _ rfl rfl rfl rfl (by omega)) rfl ?_
    refine RunL.ok (OpOk.addN _ _ rfl rfl rfl rfl (by omega)) rfl ?_
    refine RunL.ok (OpOk.move rfl) rfl ?_
    refine RunL.ok (OpOk.addN _ _ rfl rfl rfl rfl (by omega)) rfl ?_
    refine RunL.ok (OpOk.assign rfl) rfl ?_
    refine RunL.nil ?_
    refine Run.inBlock ?_
    refine Run.region ?_
    refine RunL.ok (OpOk.addN _ 1 rfl rfl rfl rfl (by omega)) rfl ?_
    refine RunL.ok (OpOk.move rfl) rfl ?_
    refine RunL.nil ?_
    have hb : okB x = true := by simp [okB]; omega
    refine Run.jump ((ih (i + 1) ⟨by omega, by rw [ha, hb]⟩ (by omega))) ⟨rfl, rfl, lkI rfl (by omega), rfl, trivial⟩ ((Grew.refl _))
  · obtain rfl : i = bs.length := by omega
    rw [List.take_length] at *
    have hE : numE bs = 0 := by simp only [numE]; rw [if_neg (by omega), if_neg (by omega), if_pos hall]
    rw [hE, show numV bs = (numB bs : Int) by simp [numV, hE]]
    refine Run.seq ?_
    refine Run.region ?_
    refine RunL.ok (OpOk.asF (OpOk.lss rfl rfl) (by omega)) rfl ?_
    refine RunL.nil ?_
    refine Run.seq ?_
    refine Run.condF rfl ?_
    refine Run.exit rfl ?_
    refine Run.seq ?_
    refine Run.region ?_
    refine RunL.ok (OpOk.move rfl) rfl ?_
    refine RunL.ok (OpOk.assign rfl) rfl ?_
    refine RunL.ok (OpOk.assign rfl) rfl ?_
    refine RunL.nil ?_
    refine Run.ret2 Try.func26 rfl rfl rfl ?_
    exact ⟨rfl, rfl⟩
theorem s27 {w0 : World} {A : Asn} {u : Value} {m : Nat} {bs : List UInt8} (rd : Rd w0 A u 1 m (B bs)) :
    Spec Try.prog w0 27 [u] A (fun v' A' => v' = .tuple #[.int .i64 (numV bs), .int .i64 (numE bs)] ∧ A' = A) := by
  have hl := rd.lenB
  subst hl
  have hmax := rd.max
  refine Spec.of_run [(0, u)] Try.func27 rfl (Nat.le_of_ble_eq_true rfl) (by repeat (first | exact trivial | refine ⟨rfl, ?_⟩)) ?_
  rcases Nat.eq_zero_or_pos bs.length with h0 | h0
  · have hE : numE bs = 10 := by simp [numE, h0]
    rw [hE, show numV bs = 0 by simp [numV, hE]]
    refine Run.seq ?_
    refine Run.region ?_
    refine RunL.ok (OpOk.assign rfl) rfl ?_
    refine RunL.ok (OpOk.assign rfl) rfl ?_
    refine RunL.nil ?_
    refine Run.seq ?_
    refine Run.seq ?_
    refine Run.region ?_
    refine RunL.ok (OpOk.move rfl) rfl ?_
    refine RunL.ok (OpOk.lenR rfl rfl rd rfl) rfl ?_
    refine RunL.ok (OpOk.asT (OpOk.eql rfl rfl) (by omega)) rfl ?_
    refine RunL.nil ?_
    refine Run.condT rfl ?_
    refine Run.seq ?_
    refine Run.region ?_
    refine RunL.ok (OpOk.assign rfl) rfl ?_
    refine RunL.ok (OpOk.assign rfl) rfl ?_
    refine RunL.nil ?_
    refine Run.ret2 Try.func27 rfl rfl rfl ?_
    exact ⟨rfl, rfl⟩
  rcases Nat.lt_or_ge 9 bs.length with h9 | h9
  · have hE : numE bs = 11 := by simp only [numE]; rw [if_neg (by omega), if_pos h9]
    rw [hE, show numV bs = 0 by simp [numV, hE]]
    refine Run.seq ?_
    refine Run.region ?_
    refine RunL.ok (OpOk.assign rfl) rfl ?_
    refine RunL.ok (OpOk.assign rfl) rfl ?_
    refine RunL.nil ?_
    refine Run.seq ?_
    refine Run.seq ?_
    refine Run.region ?_
    refine RunL.ok (OpOk.move rfl) rfl ?_
    refine RunL.ok (OpOk.lenR rfl rfl rd rfl) rfl ?_
    refine RunL.ok (OpOk.asF (OpOk.eql rfl rfl) (by omega)) rfl ?_
    refine RunL.nil ?_
    refine Run.condF rfl ?_
    refine Run.skip ?_
    refine Run.seq ?_
    refine Run.seq ?_
    refine Run.region ?_
    refine RunL.ok (OpOk.move rfl) rfl ?_
    refine RunL.ok (OpOk.lenR rfl rfl rd rfl) rfl ?_
    refine RunL.ok (OpOk.asT (OpOk.gtr rfl rfl) (by omega)) rfl ?_
    refine RunL.nil ?_
    refine Run.condT rfl ?_
    refine Run.seq ?_
    refine Run.region ?_
    refine RunL.ok (OpOk.assign rfl) rfl ?_
    refine RunL.ok (OpOk.assign rfl) rfl ?_
    refine RunL.nil ?_
    refine Run.ret2 Try.func27 rfl rfl rfl ?_
    exact ⟨rfl, rfl⟩
  refine Run.seq ?_
  refine Run.region ?_
  refine RunL.ok (OpOk.assign rfl) rfl ?_
  refine RunL.ok (OpOk.assign rfl) rfl ?_
  refine RunL.nil ?_
  refine Run.seq ?_
  refine Run.seq ?_
  refine Run.region ?_
  refine RunL.ok (OpOk.move rfl) rfl ?_
  refine RunL.ok (OpOk.lenR rfl rfl rd rfl) rfl ?_
  refine RunL.ok (OpOk.asF (OpOk.eql rfl rfl) (by omega)) rfl ?_
  refine RunL.nil ?_
  refine Run.condF rfl ?_
  refine Run.skip ?_
  refine Run.seq ?_
  refine Run.seq ?_
  refine Run.region ?_
  refine RunL.ok (OpOk.move rfl) rfl ?_
  refine RunL.ok (OpOk.lenR rfl rfl rd rfl) rfl ?_
  refine RunL.ok (OpOk.asF (OpOk.gtr rfl rfl) (by omega)) rfl ?_
  refine RunL.nil ?_
  refine Run.condF rfl ?_
  refine Run.skip ?_
  refine Run.seq ?_
  refine Run.region ?_
  refine RunL.ok (OpOk.assign rfl) rfl ?_
  refine RunL.nil ?_
  refine Run.seq ?_
  refine Run.seq ?_
  refine Run.region ?_
  refine RunL.ok (OpOk.assign rfl) rfl ?_
  refine RunL.nil ?_
  refine Run.block ?_
  refine Run.loop (X := Nat) (fun i => [(0, u), (4, .int .i64 ((numB (bs.take i) : Nat) : Int)), (5, .int .i64 i)]) (fun _ => A) (fun i => i ≤ bs.length ∧ (bs.take i).all okB = true) (fun i => bs.length - i) 0 ⟨rfl, rfl, rfl, trivial⟩ rfl ⟨by omega, by simp⟩ (fun i hi ih => ?_)
  obtain ⟨hi, hall⟩ := hi
  have hlt9 := numB_lt hall
  rw [List.length_take] at hlt9
  rcases Nat.lt_or_ge i bs.length with hlt | hge
  · have hp : 100 ^ min i bs.length ≤ 100 ^ 8 := Nat.pow_le_pow_right (by decide) (by omega)
    have hz := all_split hlt hall
    have hn := numB_next hlt
    have ha : (bs.take (i + 1)).all okB = okB (bs.getD i 0) := by rw [take_nextB hlt, List.all_append, hall]; simp
    change bs.all okB = (okB (bs.getD i 0) && (bs.drop (i + 1)).all okB) at hz
    generalize hx : bs.getD i 0 = x at *
    have hx256 := x.toNat_lt
    refine Run.seq ?_
    refine Run.seq ?_
    refine Run.region ?_
    refine RunL.ok (OpOk.move rfl) rfl ?_
    refine RunL.ok (OpOk.move rfl) rfl ?_
    refine RunL.ok (OpOk.lenR rfl rfl rd rfl) rfl ?_
    refine RunL.ok (OpOk.asT (OpOk.lss rfl rfl) (by omega)) rfl ?_
    refine RunL.nil ?_
    refine Run.condT rfl ?_
    refine Run.skip ?_
    refine Run.seq ?_
    refine Run.block ?_
    refine Run.seq ?_
    refine Run.seq ?_
    refine Run.region ?_
    refine RunL.ok (OpOk.move rfl) rfl ?_
    refine RunL.ok (OpOk.move rfl) rfl ?_
    refine RunL.ok (OpOk.idx1N rfl ti5 rfl rd rfl (by omega)) rfl ?_
    refine RunL.ok (OpOk.load rfl rfl rfl (Rd.getBE (by assumption) rd (by omega))) rfl ?_
    refine RunL.ok (OpOk.quoU _ 16 rfl rfl rfl rfl (by omega) (by omega)) rfl ?_
    refine RunL.ok (OpOk.gtr rfl rfl) rfl ?_
    refine RunL.ok (OpOk.move rfl) rfl ?_
    refine RunL.splitD (t := 24) rfl (fun y1 => ?_) (fun y1 => ?_)
    · refine RunL.off rfl rfl rfl rfl ?_
      refine RunL.off rfl rfl rfl rfl ?_
      refine RunL.off rfl rfl rfl rfl ?_
      refine RunL.off rfl rfl rfl rfl ?_
      refine RunL.off rfl rfl rfl rfl ?_
      refine RunL.off rfl rfl rfl rfl ?_
      refine RunL.ok (OpOk.pickT rfl rfl) rfl ?_
      refine RunL.nil ?_
      refine Run.condT rfl ?_
      refine Run.seq ?_
      refine Run.region ?_
      refine RunL.ok (OpOk.assign rfl) rfl ?_
      refine RunL.ok (OpOk.assign rfl) rfl ?_
      refine RunL.nil ?_
      refine Run.ret2 Try.func27 rfl rfl rfl ?_
      have hb : okB x = false := by simp [okB]; omega
      rw [hb, Bool.false_and] at hz
      have hE : numE bs = 12 := by simp only [numE]; rw [if_neg (by omega), if_neg (by omega), hz]; rfl
      rw [hE, show numV bs = 0 by simp [numV, hE]]
      exact ⟨rfl, rfl⟩
    refine RunL.on rfl rfl ?_
    refine RunL.ok (OpOk.move rfl) rfl ?_
    refine RunL.on rfl rfl ?_
    refine RunL.ok (OpOk.move rfl) rfl ?_
    refine RunL.on rfl rfl ?_
    refine RunL.ok (OpOk.idx1N rfl ti5 rfl rd rfl (by omega)) rfl ?_
    refine RunL.on rfl rfl ?_
    refine RunL.ok (OpOk.load rfl rfl rfl (Rd.getBE (by assumption) rd (by omega))) rfl ?_
    refine RunL.on rfl rfl ?_
    refine RunL.ok (OpOk.remU _ 16 rfl rfl rfl rfl (by omega)) rfl ?_
    refine RunL.on rfl rfl ?_
    refine RunL.ok (OpOk.gtr rfl rfl) rfl ?_
    refine RunL.ok (OpOk.pickF rfl rfl) rfl ?_
    refine RunL.nil ?_
    refine Run.condD rfl (fun y2 => ?_) (fun y2 => ?_)
    · refine Run.seq ?_
      refine Run.region ?_
      refine RunL.ok (OpOk.assign rfl) rfl ?_
      refine RunL.ok (OpOk.assign rfl) rfl ?_
      refine RunL.nil ?_
      refine Run.ret2 Try.func27 rfl rfl rfl ?_
      have hb : okB x = false := by simp [okB]; omega
      rw [hb, Bool.false_and] at hz
      have hE : numE bs = 12 := by simp only [numE]; rw [if_neg (by omega), if_neg (by omega), hz]; rfl
      rw [hE, show numV bs = 0 by simp [numV, hE]]
      exact ⟨rfl, rfl⟩
    refine Run.skip ?_
    (apply Run.drawD [17] (by rfl) (sep_emp _).symm; case hchk => kernel_rfl)
    refine Sd.quiet 0 _ _ rfl rfl rfl rfl rfl (QOp.ok (fun X => OpOk.move rfl)) ?_
    refine Sd.quiet 1 _ _ rfl rfl rfl rfl rfl (QOp.ok (fun X => OpOk.mulN 10 _ rfl rfl rfl rfl (by omega))) ?_
    refine Sd.quiet 2 _ _ rfl rfl rfl rfl rfl (QOp.ok (fun X => OpOk.move rfl)) ?_
    refine Sd.quiet 3 _ _ rfl rfl rfl rfl rfl (QOp.ok (fun X => OpOk.move rfl)) ?_
    refine Sd.quiet 4 _ _ rfl rfl rfl rfl rfl (QOp.ok (fun X => OpOk.idx1N rfl ti5 rfl rd.left.left rfl (by omega))) ?_
    refine Sd.quiet 5 _ _ rfl rfl rfl rfl rfl (QOp.ok (fun X => OpOk.load rfl rfl rfl (Rd.getBE (by assumption) rd.left.left (by omega)))) ?_
    refine Sd.quiet 6 _ _ rfl rfl rfl rfl rfl (QOp.ok (fun X => OpOk.quoU _ 16 rfl rfl rfl rfl (by omega) (by omega))) ?_
    refine Sd.quiet 7 _ _ rfl rfl rfl rfl rfl (QOp.ok (fun X => OpOk.convInt rfl rfl rfl (wrapI (by omega) (by omega)))) ?_
    refine Sd.quiet 8 _ _ rfl rfl rfl rfl rfl (QOp.ok (fun X => OpOk.addN _ _ rfl rfl rfl rfl (by omega))) ?_
    refine Sd.quiet 9 _ _ rfl rfl rfl rfl rfl (QOp.ok (fun X => OpOk.mulN 10 _ rfl rfl rfl rfl (by omega))) ?_
    refine Sd.quiet 10 _ _ rfl rfl rfl rfl rfl (QOp.ok (fun X => OpOk.move rfl)) ?_
    refine Sd.quiet 11 _ _ rfl rfl rfl rfl rfl (QOp.ok (fun X => OpOk.move rfl)) ?_
    refine Sd.quiet 12 _ _ rfl rfl rfl rfl rfl (QOp.ok (fun X => OpOk.idx1N rfl ti5 rfl rd.left.left rfl (by omega))) ?_
    refine Sd.quiet 13 _ _ rfl rfl rfl rfl rfl (QOp.ok (fun X => OpOk.load rfl rfl rfl (Rd.getBE (by assumption) rd.left.left (by omega)))) ?_
    refine Sd.quiet 14 _ _ rfl rfl rfl rfl rfl (QOp.ok (fun X => OpOk.remU _ 16 rfl rfl rfl rfl (by omega))) ?_
    refine Sd.quiet 15 _ _ rfl rfl rfl rfl rfl (QOp.ok (fun X => OpOk.convInt rfl rfl rfl (wrapI (by omega) (by omega)))) ?_
    refine Sd.quiet 16 _ _ rfl rfl rfl rfl rfl (QOp.ok (fun X => OpOk.addN _ _ rfl rfl rfl rfl (by omega))) ?_
    (apply Sd.tail; case hall => kernel_rfl)
    refine RunL.mem (fl2 (sep_emp _) (sep_emp _)) ?_
    refine RunL.ok (OpOk.assign rfl) rfl ?_
    refine RunL.nil ?_
    refine Run.inBlock ?_
    refine Run.region ?_
    refine RunL.ok (OpOk.move rfl) rfl ?_
    refine RunL.ok (OpOk.addN _ 1 rfl rfl rfl rfl (by omega)) rfl ?_
    refine RunL.ok (OpOk.assign rfl) rfl ?_
    refine RunL.nil ?_
    have hb : okB x = true := by simp [okB]; omega
    refine Run.jump ((ih (i + 1) ⟨by omega, by rw [ha, hb]⟩ (by omega))) ⟨rfl, lkI rfl (by omega), rfl, trivial⟩ ((Grew.refl _))
  · obtain rfl : i = bs.length := by omega
    rw [List.take_length] at *
    have hE : numE bs = 0 := by simp only [numE]; rw [if_neg (by omega), if_neg (by omega), if_pos hall]
    rw [hE, show numV bs = (numB bs : Int) by simp [numV, hE]]
    refine Run.seq ?_
    refine Run.seq ?_
    refine Run.region ?_
    refine RunL.ok (OpOk.move rfl) rfl ?_
    refine RunL.ok (OpOk.move rfl) rfl ?_
    refine RunL.ok (OpOk.lenR rfl rfl rd rfl) rfl ?_
    refine RunL.ok (OpOk.asF (OpOk.lss rfl rfl) (by omega)) rfl ?_
    refine RunL.nil ?_
    refine Run.condF rfl ?_
    refine Run.exit rfl ?_
    refine Run.seq ?_
    refine Run.region ?_
    refine RunL.ok (OpOk.move rfl) rfl ?_
    refine RunL.ok (OpOk.assign rfl) rfl ?_
    refine RunL.ok (OpOk.assign rfl) rfl ?_
    refine RunL.nil ?_
    refine Run.ret2 Try.func27 rfl rfl rfl ?_
    exact ⟨rfl, rfl⟩
def timeS (s : Int × Int) : Int := s.1 * 1440 + s.2
/-- What Latest answers. -/
def latOk (ss : List (Int × Int)) (s : Int × Int) (ok : Bool) : Prop := (ok = false ∧ s = (0, 0) ∧ (ss = [] ∨ ss.all rightS = false)) ∨ (ok = true ∧ ss.all rightS = true ∧ ∃ j, j < ss.length ∧ s = ss.getD j default ∧ ∀ k, k < ss.length → timeS (ss.getD k default) ≤ timeS s)
theorem s28 {w0 : World} {A : Asn} {u : Value} {m : Nat} {ss : List (Int × Int)} (rd : Rd w0 A u 2 m (Fl encF ss)) :
    Spec Try.prog w0 28 [u] A (fun v' A' => (∃ s ok, v' = .tuple #[.agg (encF s).toArray, .bool ok] ∧ latOk ss s ok) ∧ A' = A) := by
  have hl := rd.lenFl (fun _ => rfl) (by decide)
  subst hl
  have hmax := rd.max
  refine Spec.of_run [(0, u)] Try.func28 rfl (Nat.le_of_ble_eq_true rfl) (by repeat (first | exact trivial | refine ⟨rfl, ?_⟩)) ?_
  refine Run.seq ?_
  refine Run.region ?_
  refine RunL.alloc ti29 rfl (fun bx1 => ?_)
  refine RunL.ok (OpOk.assign rfl) rfl ?_
  refine RunL.nil ?_
  refine Run.seq ?_
  refine Run.region ?_
  refine RunL.ok (OpOk.assign rfl) rfl ?_
  refine RunL.nil ?_
  refine Run.seq ?_
  refine Run.seq ?_
  refine Run.region ?_
  refine RunL.ok (OpOk.move rfl) rfl ?_
  refine RunL.ok (OpOk.lenR rfl rfl rd.left rfl) rfl ?_
  refine RunL.ok (OpOk.move rfl) rfl ?_
  refine RunL.nil ?_
  refine Run.block ?_
  refine Run.loop (X := Nat × Int) (fun x => [(0, u), (2, .pointer (some ⟨bx1, 0, none⟩)), (4, .int .i64 x.2), (7, u), (8, .int .i64 (ss.length : Int)), (9, .int .i64 x.1)]) (fun _ => A * pts bx1 (.cells #[.int .i64 0, .int .i64 0] 29 (0, 0))) (fun x => x.1 ≤ ss.length ∧ (ss.take x.1).all rightS = true ∧ (x.2 = -1 ∧ x.1 = 0 ∨ ∃ j : Nat, x.2 = j ∧ j < x.1 ∧ ∀ k, k < x.1 → timeS (ss.getD k default) ≤ timeS (ss.getD j default))) (fun x => ss.length - x.1) (0, -1) ⟨rfl, rfl, rfl, rfl, rfl, rfl, trivial⟩ rfl ⟨by simp, by simp, .inl ⟨rfl, rfl⟩⟩ (fun x hx ih => ?_)
  obtain ⟨i, best⟩ := x
  simp only at hx ih ⊢
  obtain ⟨hi, hall, hbest⟩ := hx
  rcases Nat.lt_or_ge i ss.length with hlt | hge
  · have hz := all_split hlt hall
    have ha : (ss.take (i + 1)).all rightS = rightS (ss.getD i default) := by rw [take_next hlt, List.all_append, hall]; simp
    rcases hbest with ⟨rfl, rfl⟩ | ⟨j, rfl, hj, hmaxj⟩
    · generalize hs : ss.getD 0 default = s at *
      refine Run.seq ?_
      refine Run.region ?_
      refine RunL.ok (OpOk.asT (OpOk.lss rfl rfl) (by omega)) rfl ?_
      refine RunL.nil ?_
      refine Run.seq ?_
      refine Run.condT rfl ?_
      refine Run.skip ?_
      refine Run.seq ?_
      refine Run.block ?_
      refine Run.seq ?_
      refine Run.region ?_
      refine RunL.ok (OpOk.move rfl) rfl ?_
      refine RunL.ok (OpOk.idxN rfl ti29 rfl rd.left rfl (by omega)) rfl ?_
      refine RunL.ok (OpOk.loadFlE (by assumption) rfl rfl ti29 rfl rd.left (fun _ => rfl) rfl (by omega)) rfl ?_
      refine RunL.alloc ti29 rfl (fun by1 => ?_)
      refine RunL.ok (OpOk.assign rfl) rfl ?_
      refine RunL.storeAll ti29 rfl rfl rfl (ones rfl) rfl rfl ?_
      refine RunL.nil ?_
      refine Run.seq ?_
      refine Run.seq ?_
      refine Run.region ?_
      refine RunL.ok (OpOk.loadS rfl rfl ti29 rfl Blk.pts rfl) rfl ?_
      refine RunL.call cal29 rfl (s29) rfl (fun vy2 Ay2 hy2 => ?_)
      obtain ⟨rfl, rfl⟩ := hy2
      refine RunL.ok (OpOk.not rfl) rfl ?_
      refine RunL.nil ?_
      refine Run.condN rfl (fun y3 => ?_) (fun y3 => ?_)
      · refine Run.seq ?_
        refine Run.region ?_
        refine RunL.ok (OpOk.build rfl (fun w => run_build w 29 _ _ (by rfl))) rfl ?_
        refine RunL.storeAll ti29 rfl rfl rfl (ones rfl) (frl rfl) rfl ?_
        refine RunL.ok (OpOk.assign rfl) rfl ?_
        refine RunL.nil ?_
        refine Run.retC2 (A' := A) Try.func28 rfl rfl rfl ti29 rfl rfl Blk.pts rfl ((Grew.mul (Grew.mul (Grew.refl _) _) _)) ?_
        have hb : ss.all rightS = false := by rw [hz, show rightS s = false from decide_eq_false y3]; rfl
        exact ⟨⟨(0, 0), false, rfl, .inl ⟨rfl, rfl, .inr hb⟩⟩, rfl⟩
      refine Run.skip ?_
      refine Run.seq ?_
      (apply Run.drawD [] (by rfl) (sep_emp _).symm; case hchk => kernel_rfl)
      refine Sd.quiet 0 _ _ rfl rfl rfl rfl rfl (QOp.ok (fun X => OpOk.move rfl)) ?_
      refine Sd.quiet 1 _ _ rfl rfl rfl rfl rfl (QOp.ok (fun X => OpOk.asT (OpOk.lss rfl rfl) (by omega))) ?_
      refine Sd.quiet 2 _ _ rfl rfl rfl rfl rfl (QOp.ok (fun X => OpOk.move rfl)) ?_
      refine Sd.skip 3 _ rfl rfl rfl rfl rfl ?_
      refine Sd.skip 4 _ rfl rfl rfl rfl rfl ?_
      refine Sd.skip 5 _ rfl rfl rfl rfl rfl ?_
      refine Sd.skip 6 _ rfl rfl rfl rfl rfl ?_
      refine Sd.skip 7 _ rfl rfl rfl rfl rfl ?_
      refine Sd.skip 8 _ rfl rfl rfl rfl rfl ?_
      refine Sd.skip 9 _ rfl rfl rfl rfl rfl ?_
      refine Sd.quiet 10 _ _ rfl rfl rfl rfl rfl (QOp.ok (fun X => OpOk.pickT rfl rfl)) ?_
      (apply Sd.tail; case hall => kernel_rfl)
      refine RunL.mem (fl2 (sep_emp _) (sep_emp _)) ?_
      refine RunL.nil ?_
      refine Run.condT rfl ?_
      refine Run.region ?_
      refine RunL.ok (OpOk.move rfl) rfl ?_
      refine RunL.ok (OpOk.assign rfl) rfl ?_
      refine RunL.nil ?_
      refine Run.inBlock ?_
      refine Run.region ?_
      refine RunL.ok (OpOk.addN _ 1 rfl rfl rfl rfl (by omega)) rfl ?_
      refine RunL.ok (OpOk.move rfl) rfl ?_
      refine RunL.nil ?_
      have hb : rightS s = true := decide_eq_true y3
      refine Run.jump ((ih (0 + 1, 0) ⟨by simp; omega, by rw [ha, hb], .inr ⟨0, rfl, by simp, fun k hk => by simp at hk; subst hk; exact Int.le_refl _⟩⟩ (by simp; omega))) ⟨rfl, rfl, rfl, rfl, rfl, rfl, trivial⟩ ((Grew.mul (Grew.refl _) _))
    · have hrj : rightS (ss.getD j default) = true := by rw [List.all_eq_true] at hall; exact hall _ (List.mem_iff_getElem?.2 ⟨j, by rw [List.getElem?_take, if_pos hj]; exact getD_at (by omega)⟩)
      generalize hs : ss.getD i default = s at *
      generalize ht : ss.getD j default = t at *
      refine Run.seq ?_
      refine Run.region ?_
      refine RunL.ok (OpOk.asT (OpOk.lss rfl rfl) (by omega)) rfl ?_
      refine RunL.nil ?_
      refine Run.seq ?_
      refine Run.condT rfl ?_
      refine Run.skip ?_
      refine Run.seq ?_
      refine Run.block ?_
      refine Run.seq ?_
      refine Run.region ?_
      refine RunL.ok (OpOk.move rfl) rfl ?_
      refine RunL.ok (OpOk.idxN rfl ti29 rfl rd.left rfl (by omega)) rfl ?_
      refine RunL.ok (OpOk.loadFlE (by assumption) rfl rfl ti29 rfl rd.left (fun _ => rfl) rfl (by omega)) rfl ?_
      refine RunL.alloc ti29 rfl (fun bz1 => ?_)
      refine RunL.ok (OpOk.assign rfl) rfl ?_
      refine RunL.storeAll ti29 rfl rfl rfl (ones rfl) rfl rfl ?_
      refine RunL.nil ?_
      refine Run.seq ?_
      refine Run.seq ?_
      refine Run.region ?_
      refine RunL.ok (OpOk.loadS rfl rfl ti29 rfl Blk.pts rfl) rfl ?_
      refine RunL.call cal29 rfl (s29) rfl (fun vz2 Az2 hz2 => ?_)
      obtain ⟨rfl, rfl⟩ := hz2
      refine RunL.ok (OpOk.not rfl) rfl ?_
      refine RunL.nil ?_
      refine Run.condN rfl (fun z3 => ?_) (fun z3 => ?_)
      · refine Run.seq ?_
        refine Run.region ?_
        refine RunL.ok (OpOk.build rfl (fun w => run_build w 29 _ _ (by rfl))) rfl ?_
        refine RunL.storeAll ti29 rfl rfl rfl (ones rfl) (frl rfl) rfl ?_
        refine RunL.ok (OpOk.assign rfl) rfl ?_
        refine RunL.nil ?_
        refine Run.retC2 (A' := A) Try.func28 rfl rfl rfl ti29 rfl rfl Blk.pts rfl ((Grew.mul (Grew.mul (Grew.refl _) _) _)) ?_
        have hb : ss.all rightS = false := by rw [hz, show rightS s = false from decide_eq_false z3]; rfl
        exact ⟨⟨(0, 0), false, rfl, .inl ⟨rfl, rfl, .inr hb⟩⟩, rfl⟩
      refine Run.skip ?_
      refine Run.seq ?_
      (apply Run.drawD [] (by rfl) (sep_emp _).symm; case hchk => kernel_rfl)
      refine Sd.quiet 0 _ _ rfl rfl rfl rfl rfl (QOp.ok (fun X => OpOk.move rfl)) ?_
      refine Sd.quiet 1 _ _ rfl rfl rfl rfl rfl (QOp.ok (fun X => OpOk.asF (OpOk.lss rfl rfl) (by omega))) ?_
      refine Sd.quiet 2 _ _ rfl rfl rfl rfl rfl (QOp.ok (fun X => OpOk.move rfl)) ?_
      refine Sd.quiet 3 _ _ rfl rfl rfl rfl rfl (QOp.ok (fun X => OpOk.move rfl)) ?_
      refine Sd.quiet 4 _ _ rfl rfl rfl rfl rfl (QOp.ok (fun X => OpOk.move rfl)) ?_
      refine Sd.quiet 5 _ _ rfl rfl rfl rfl rfl (QOp.ok (fun X => OpOk.idxN rfl ti29 rfl rd.left.left.left.left rfl (by omega))) ?_
      refine Sd.quiet 6 _ _ rfl rfl rfl rfl rfl (QOp.ok (fun X => OpOk.loadFlE (by assumption) rfl rfl ti29 rfl rd.left.left.left.left (fun _ => rfl) rfl (by omega))) ?_
      refine Sd.quiet 7 _ _ rfl rfl rfl rfl rfl (QOp.ok (fun X => OpOk.loadS rfl rfl ti29 rfl Blk.pts.left.left rfl)) ?_
      refine Sd.quiet 8 _ _ rfl rfl rfl rfl rfl (QOp.call cal24 rfl (fun X => s24)) ?_
      have z4 := btw_fact (t.fst) (t.snd) (s.fst) (s.snd)
      refine Sd.quiet 9 _ _ rfl rfl rfl rfl rfl (QOp.ok (fun X => OpOk.gtr rfl rfl)) ?_
      refine Sd.quiet 10 _ _ rfl rfl rfl rfl rfl (QOp.ok (fun X => OpOk.pickF rfl rfl)) ?_
      (apply Sd.tail; case hall => kernel_rfl)
      refine RunL.mem (fl2 (sep_emp _) (sep_emp _)) ?_
      refine RunL.nil ?_
      refine Run.condD rfl (fun z5 => ?_) (fun z5 => ?_)
      · refine Run.region ?_
        refine RunL.ok (OpOk.move rfl) rfl ?_
        refine RunL.ok (OpOk.assign rfl) rfl ?_
        refine RunL.nil ?_
        refine Run.inBlock ?_
        refine Run.region ?_
        refine RunL.ok (OpOk.addN _ 1 rfl rfl rfl rfl (by omega)) rfl ?_
        refine RunL.ok (OpOk.move rfl) rfl ?_
        refine RunL.nil ?_
        have hb : rightS s = true := decide_eq_true z3
        have hrj2 := right_true.1 hrj
        have z5 : timeS t < timeS s := by unfold timeS; omega
        have hm : ∀ k, k < i + 1 → timeS (ss.getD k default) ≤ timeS (ss.getD i default) := fun k hk => by
          rw [hs]
          rcases Nat.lt_or_ge k i with h | h
          · have := hmaxj k h; omega
          · obtain rfl : k = i := by omega
            rw [hs]
            exact Int.le_refl _
        refine Run.jump ((ih (i + 1, i) ⟨by simp; omega, by rw [ha, hb], .inr ⟨i, rfl, by simp, hm⟩⟩ (by simp; omega))) ⟨rfl, rfl, rfl, rfl, rfl, rfl, trivial⟩ ((Grew.mul (Grew.refl _) _))
      refine Run.skip ?_
      refine Run.inBlock ?_
      refine Run.region ?_
      refine RunL.ok (OpOk.addN _ 1 rfl rfl rfl rfl (by omega)) rfl ?_
      refine RunL.ok (OpOk.move rfl) rfl ?_
      refine RunL.nil ?_
      have hb : rightS s = true := decide_eq_true z3
      have hrj2 := right_true.1 hrj
      have z5 : timeS s ≤ timeS t := by unfold timeS; omega
      have hm : ∀ k, k < i + 1 → timeS (ss.getD k default) ≤ timeS (ss.getD j default) := fun k hk => by
        rw [ht]
        rcases Nat.lt_or_ge k i with h | h
        · exact hmaxj k h
        · obtain rfl : k = i := by omega
          rw [hs]
          omega
      refine Run.jump ((ih (i + 1, j) ⟨by simp; omega, by rw [ha, hb], .inr ⟨j, rfl, by simp; omega, hm⟩⟩ (by simp; omega))) ⟨rfl, rfl, rfl, rfl, rfl, rfl, trivial⟩ ((Grew.mul (Grew.refl _) _))
  · obtain rfl : i = ss.length := by omega
    rw [List.take_length] at *
    rcases hbest with ⟨rfl, h0⟩ | ⟨j, rfl, hj, hmaxj⟩
    · refine Run.seq ?_
      refine Run.region ?_
      refine RunL.ok (OpOk.asF (OpOk.lss rfl rfl) (by omega)) rfl ?_
      refine RunL.nil ?_
      refine Run.seq ?_
      refine Run.condF rfl ?_
      refine Run.exit rfl ?_
      refine Run.seq ?_
      refine Run.seq ?_
      refine Run.region ?_
      refine RunL.ok (OpOk.move rfl) rfl ?_
      refine RunL.ok (OpOk.asT (OpOk.lss rfl rfl) (by omega)) rfl ?_
      refine RunL.nil ?_
      refine Run.condT rfl ?_
      refine Run.seq ?_
      refine Run.region ?_
      refine RunL.ok (OpOk.build rfl (fun w => run_build w 29 _ _ (by rfl))) rfl ?_
      refine RunL.storeAll ti29 rfl rfl rfl (ones rfl) rfl rfl ?_
      refine RunL.ok (OpOk.assign rfl) rfl ?_
      refine RunL.nil ?_
      refine Run.retC2 (A' := A) Try.func28 rfl rfl rfl ti29 rfl rfl Blk.pts rfl ((Grew.mul (Grew.refl _) _)) ?_
      exact ⟨⟨(0, 0), false, rfl, .inl ⟨rfl, rfl, .inl (List.eq_nil_of_length_eq_zero h0)⟩⟩, rfl⟩
    · generalize ht : ss.getD j default = t at *
      refine Run.seq ?_
      refine Run.region ?_
      refine RunL.ok (OpOk.asF (OpOk.lss rfl rfl) (by omega)) rfl ?_
      refine RunL.nil ?_
      refine Run.seq ?_
      refine Run.condF rfl ?_
      refine Run.exit rfl ?_
      refine Run.seq ?_
      refine Run.seq ?_
      refine Run.region ?_
      refine RunL.ok (OpOk.move rfl) rfl ?_
      refine RunL.ok (OpOk.asF (OpOk.lss rfl rfl) (by omega)) rfl ?_
      refine RunL.nil ?_
      refine Run.condF rfl ?_
      refine Run.skip ?_
      refine Run.seq ?_
      refine Run.region ?_
      refine RunL.ok (OpOk.move rfl) rfl ?_
      refine RunL.ok (OpOk.move rfl) rfl ?_
      refine RunL.ok (OpOk.idxN rfl ti29 rfl rd.left rfl (by omega)) rfl ?_
      refine RunL.ok (OpOk.loadFlE (by assumption) rfl rfl ti29 rfl rd.left (fun _ => rfl) rfl (by omega)) rfl ?_
      refine RunL.storeAll ti29 rfl rfl rfl (ones rfl) rfl rfl ?_
      refine RunL.ok (OpOk.assign rfl) rfl ?_
      refine RunL.nil ?_
      refine Run.retC2 (A' := A) Try.func28 rfl rfl rfl ti29 rfl rfl Blk.pts rfl ((Grew.mul (Grew.refl _) _)) ?_
      exact ⟨⟨t, true, rfl, .inr ⟨rfl, hall, j, hj, ht.symm, hmaxj⟩⟩, rfl⟩
theorem lat2 {a b s : Int × Int} {ok : Bool} (ha : 0 ≤ a.1 ∧ a.1 ≤ 65535 ∧ 0 ≤ a.2 ∧ a.2 < 1440) (hb : 0 ≤ b.1 ∧ b.1 ≤ 65535 ∧ 0 ≤ b.2 ∧ b.2 < 1440) (h : latOk [a, b] s ok) :
    ok = true ∧ (s.1 = a.1 ∧ s.2 = a.2 ∨ s.1 = b.1 ∧ s.2 = b.2) ∧ a.1 * 1440 + a.2 ≤ s.1 * 1440 + s.2 ∧ b.1 * 1440 + b.2 ≤ s.1 * 1440 + s.2 := by
  have hr : [a, b].all rightS = true := by simp only [List.all_cons, List.all_nil, Bool.and_true, Bool.and_eq_true]; exact ⟨decide_eq_true ha, decide_eq_true hb⟩
  rcases h with ⟨_, _, h | h⟩ | ⟨h1, _, j, hj, h2, h3⟩
  · cases h
  · rw [hr] at h; cases h
  · refine ⟨h1, ?_, h3 0 (by simp), h3 1 (by simp)⟩
    match j, hj with
    | 0, _ => exact .inl (by rw [h2]; exact ⟨rfl, rfl⟩)
    | 1, _ => exact .inr (by rw [h2]; exact ⟨rfl, rfl⟩)
end Go.Proofs.Ytajjmephfoaiaaa
