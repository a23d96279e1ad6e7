/- The document's bits: texts of noughts and ones. -/
import Derived.Test.YtlheianbmpgefaaBib
namespace Go.Proofs.Ytlheianbmpgefaa
open Go Go.Proofs
set_option maxRecDepth 100000
set_option maxHeartbeats 4000000
def txt (bs : List Bool) : List UInt8 := bs.map fun b => if b then 49 else 48
theorem txt_length (bs : List Bool) : (txt bs).length = bs.length := by simp [txt]
theorem txt_append (a b : List Bool) : txt (a ++ b) = txt a ++ txt b := by simp [txt]
theorem bitsOf_succ (w v : Nat) : bitsOf (w + 1) v = v.testBit w :: bitsOf w v := by
  unfold bitsOf
  rw [List.range_succ_eq_map, List.map_cons, List.map_map]
  congr 1
  refine List.map_congr_left fun i hi => ?_
  simp only [Function.comp]
  rw [show w + 1 - 1 - (i + 1) = w - 1 - i by omega]
theorem txt_one {w v : Nat} (h : v / 2 ^ w % 2 = 1) : [49] ++ txt (bitsOf w v) = txt (bitsOf (w + 1) v) := by
  have hb : v.testBit w = true := by rw [Nat.testBit_eq_decide_div_mod_eq, h]; rfl
  rw [bitsOf_succ, hb]
  rfl
theorem txt_nought {w v : Nat} (h : v / 2 ^ w % 2 ≠ 1) : [48] ++ txt (bitsOf w v) = txt (bitsOf (w + 1) v) := by
  have hb : v.testBit w = false := by rw [Nat.testBit_eq_decide_div_mod_eq]; simpa using h
  rw [bitsOf_succ, hb]
  rfl
def fieldT (w v : Int) : List UInt8 := if 1 ≤ w ∧ w ≤ 32 ∧ 0 ≤ v then txt (bitsOf w.toNat v.toNat) else []
theorem s16 {w0 : World} {A : Asn} {w v : Int} (hv : v ≤ 9223372036854775807) :
    Spec Try.prog w0 16 [.int .i64 w, .int .i64 v] A (fun v' A' => v' = .tuple #[S (fieldT w v), .bool (rightF w v)] ∧ A' = A) := by
  refine Spec.of_run [(0, .int .i64 w), (1, .int .i64 v)] Try.func16 rfl (Nat.le_of_ble_eq_true rfl) (by repeat (first | exact trivial | refine ⟨rfl, ?_⟩)) ?_
  rcases Decidable.em (1 ≤ w ∧ w ≤ 32 ∧ 0 ≤ v) with hg | hg
  · obtain ⟨h1, h2, h3⟩ := hg
    obtain ⟨w, rfl⟩ := Int.eq_ofNat_of_zero_le (show 0 ≤ w by omega)
    obtain ⟨v, rfl⟩ := Int.eq_ofNat_of_zero_le h3
    have hT : fieldT w v = txt (bitsOf w v) := by simp only [fieldT]; rw [if_pos ⟨h1, h2, h3⟩]; rfl
    have hR : rightF w v = decide (((v / 2 ^ w : Nat) : Int) = 0) := by
      simp only [rightF, Int.toNat_natCast]
      congr 1
      push_cast
      simp only [h1, h2, h3, true_and]
    rw [hT, hR]
    refine Run.seq ?_
    refine Run.region ?_
    refine RunL.ok (OpOk.assign rfl) rfl ?_
    refine RunL.ok (OpOk.assign rfl) rfl ?_
    refine RunL.nil ?_
    refine Run.seq ?_
    refine Run.seq ?_
    refine Run.region ?_
    refine RunL.ok (OpOk.move rfl) rfl ?_
    refine RunL.ok (OpOk.asF (OpOk.lss rfl rfl) (by omega)) rfl ?_
    refine RunL.ok (OpOk.move rfl) rfl ?_
    refine RunL.on rfl rfl ?_
    refine RunL.ok (OpOk.move rfl) rfl ?_
    refine RunL.on rfl rfl ?_
    refine RunL.ok (OpOk.asF (OpOk.gtr rfl rfl) (by omega)) rfl ?_
    refine RunL.ok (OpOk.pickF rfl rfl) rfl ?_
    refine RunL.ok (OpOk.move rfl) rfl ?_
    refine RunL.on rfl rfl ?_
    refine RunL.ok (OpOk.move rfl) rfl ?_
    refine RunL.on rfl rfl ?_
    refine RunL.ok (OpOk.asF (OpOk.lss rfl rfl) (by omega)) rfl ?_
    refine RunL.ok (OpOk.pickF rfl rfl) rfl ?_
    refine RunL.nil ?_
    refine Run.condF rfl ?_
    refine Run.skip ?_
    refine Run.seq ?_
    refine Run.region ?_
    refine RunL.ok (OpOk.assign rfl) rfl ?_
    refine RunL.nil ?_
    refine Run.seq ?_
    refine Run.seq ?_
    refine Run.region ?_
    refine RunL.ok (OpOk.assign rfl) rfl ?_
    refine RunL.nil ?_
    refine Run.block ?_
    refine Run.jump ((Run.loopJ (X := Nat) (fun i => [(0, .int .i64 (w : Int)), (1, .int .i64 ((v / 2 ^ i : Nat) : Int)), (6, S (txt (bitsOf i v))), (7, .int .i64 (i : Int))]) (fun _ => A) (fun i => i ≤ w) (fun i => w - i) 0 (Nat.zero_le _) (fun i hi ih => ?_))) ⟨rfl, lkI rfl (by omega), rfl, rfl, trivial⟩ ((Grew.refl _))
    have hq2 : v / 2 ^ (i + 1) = v / 2 ^ i / 2 := by rw [Nat.pow_succ, Nat.div_div_eq_div_mul]
    have hl : (txt (bitsOf i v)).length = i := by rw [txt_length, bitsOf_length]
    have hle : v / 2 ^ i ≤ v := Nat.div_le_self _ _
    rcases Nat.lt_or_ge i w with hlt | hge
    · rcases Decidable.em (v / 2 ^ i % 2 = 1) with hb | hb
      · have ht := txt_one hb
        generalize v / 2 ^ i = q at *
        refine Run.seq ?_
        refine Run.seq ?_
        refine Run.region ?_
        refine RunL.ok (OpOk.move rfl) rfl ?_
        refine RunL.ok (OpOk.move rfl) rfl ?_
        refine RunL.ok (OpOk.asT (OpOk.lss rfl rfl) (by omega)) rfl ?_
        refine RunL.nil ?_
        refine Run.condT rfl ?_
        refine Run.skip ?_
        refine Run.seq ?_
        refine Run.block ?_
        refine Run.seq ?_
        refine Run.seq ?_
        refine Run.region ?_
        refine RunL.ok (OpOk.move rfl) rfl ?_
        refine RunL.ok (OpOk.remN _ 2 rfl rfl rfl rfl (by omega)) rfl ?_
        refine RunL.ok (OpOk.asT (OpOk.eql rfl rfl) (by omega)) rfl ?_
        refine RunL.nil ?_
        refine Run.condT rfl ?_
        refine Run.region ?_
        refine RunL.ok (OpOk.move rfl) rfl ?_
        refine RunL.ok (OpOk.addSS rfl rfl (by simp; omega)) rfl ?_
        refine RunL.ok (OpOk.assign rfl) rfl ?_
        refine RunL.nil ?_
        refine Run.region ?_
        refine RunL.ok (OpOk.move rfl) rfl ?_
        refine RunL.ok (OpOk.quoN _ 2 rfl rfl rfl rfl (by omega) (by omega)) rfl ?_
        refine RunL.ok (OpOk.assign rfl) rfl ?_
        refine RunL.nil ?_
        refine Run.inBlock ?_
        refine Run.region ?_
        refine RunL.ok (OpOk.move rfl) rfl ?_
        refine RunL.ok (OpOk.addN _ 1 rfl rfl rfl rfl (by omega)) rfl ?_
        refine RunL.ok (OpOk.assign rfl) rfl ?_
        refine RunL.nil ?_
        rw [ht, ← hq2]
        refine Run.jump ((ih (i + 1) (by omega) (by omega))) ⟨rfl, rfl, rfl, rfl, trivial⟩ ((Grew.refl _))
      · have ht := txt_nought hb
        generalize v / 2 ^ i = q at *
        refine Run.seq ?_
        refine Run.seq ?_
        refine Run.region ?_
        refine RunL.ok (OpOk.move rfl) rfl ?_
        refine RunL.ok (OpOk.move rfl) rfl ?_
        refine RunL.ok (OpOk.asT (OpOk.lss rfl rfl) (by omega)) rfl ?_
        refine RunL.nil ?_
        refine Run.condT rfl ?_
        refine Run.skip ?_
        refine Run.seq ?_
        refine Run.block ?_
        refine Run.seq ?_
        refine Run.seq ?_
        refine Run.region ?_
        refine RunL.ok (OpOk.move rfl) rfl ?_
        refine RunL.ok (OpOk.remN _ 2 rfl rfl rfl rfl (by omega)) rfl ?_
        refine RunL.ok (OpOk.asF (OpOk.eql rfl rfl) (by omega)) rfl ?_
        refine RunL.nil ?_
        refine Run.condF rfl ?_
        refine Run.region ?_
        refine RunL.ok (OpOk.move rfl) rfl ?_
        refine RunL.ok (OpOk.addSS rfl rfl (by simp; omega)) rfl ?_
        refine RunL.ok (OpOk.assign rfl) rfl ?_
        refine RunL.nil ?_
        refine Run.region ?_
        refine RunL.ok (OpOk.move rfl) rfl ?_
        refine RunL.ok (OpOk.quoN _ 2 rfl rfl rfl rfl (by omega) (by omega)) rfl ?_
        refine RunL.ok (OpOk.assign rfl) rfl ?_
        refine RunL.nil ?_
        refine Run.inBlock ?_
        refine Run.region ?_
        refine RunL.ok (OpOk.move rfl) rfl ?_
        refine RunL.ok (OpOk.addN _ 1 rfl rfl rfl rfl (by omega)) rfl ?_
        refine RunL.ok (OpOk.assign rfl) rfl ?_
        refine RunL.nil ?_
        rw [ht, ← hq2]
        refine Run.jump ((ih (i + 1) (by omega) (by omega))) ⟨rfl, rfl, rfl, rfl, trivial⟩ ((Grew.refl _))
    · obtain rfl : i = w := by omega
      refine Run.seq ?_
      refine Run.seq ?_
      refine Run.region ?_
      refine RunL.ok (OpOk.move rfl) rfl ?_
      refine RunL.ok (OpOk.move rfl) rfl ?_
      refine RunL.ok (OpOk.asF (OpOk.lss rfl rfl) (by omega)) rfl ?_
      refine RunL.nil ?_
      refine Run.condF rfl ?_
      refine Run.exit rfl ?_
      refine Run.seq ?_
      refine Run.region ?_
      refine RunL.ok (OpOk.move rfl) rfl ?_
      refine RunL.ok (OpOk.move rfl) rfl ?_
      refine RunL.ok (OpOk.eql rfl rfl) rfl ?_
      refine RunL.ok (OpOk.assign rfl) rfl ?_
      refine RunL.ok (OpOk.assign rfl) rfl ?_
      refine RunL.nil ?_
      refine Run.ret2 Try.func16 rfl rfl rfl ?_
      exact ⟨rfl, rfl⟩
  · have hT : fieldT w v = [] := if_neg hg
    have hR : rightF w v = false := decide_eq_false fun h => hg ⟨h.1, h.2.1, h.2.2.1⟩
    rw [hT, hR]
    refine Run.seq ?_
    refine Run.region ?_
    refine RunL.ok (OpOk.assign rfl) rfl ?_
    refine RunL.ok (OpOk.assign rfl) rfl ?_
    refine RunL.nil ?_
    refine Run.seq ?_
    refine Run.seq ?_
    refine Run.region ?_
    refine RunL.ok (OpOk.move rfl) rfl ?_
    refine RunL.ok (OpOk.lss rfl rfl) rfl ?_
    refine RunL.ok (OpOk.move rfl) rfl ?_
    refine RunL.splitD (t := 10) rfl (fun x1 => ?_) (fun x1 => ?_)
    · refine RunL.off rfl rfl rfl rfl ?_
      refine RunL.off rfl rfl rfl rfl ?_
      refine RunL.ok (OpOk.pickT rfl rfl) rfl ?_
      refine RunL.ok (OpOk.move rfl) rfl ?_
      refine RunL.off rfl rfl rfl rfl ?_
      refine RunL.off rfl rfl rfl rfl ?_
      refine RunL.ok (OpOk.pickT rfl rfl) rfl ?_
      refine RunL.nil ?_
      refine Run.condT rfl ?_
      refine Run.seq ?_
      refine Run.region ?_
      refine RunL.ok (OpOk.assign rfl) rfl ?_
      refine RunL.ok (OpOk.assign rfl) rfl ?_
      refine RunL.nil ?_
      refine Run.ret2 Try.func16 rfl rfl rfl ?_
      exact ⟨rfl, rfl⟩
    refine RunL.on rfl rfl ?_
    refine RunL.ok (OpOk.move rfl) rfl ?_
    refine RunL.on rfl rfl ?_
    refine RunL.ok (OpOk.gtr rfl rfl) rfl ?_
    refine RunL.ok (OpOk.pickF rfl rfl) rfl ?_
    refine RunL.ok (OpOk.move rfl) rfl ?_
    refine RunL.splitD (t := 14) rfl (fun x2 => ?_) (fun x2 => ?_)
    · refine RunL.off rfl rfl rfl rfl ?_
      refine RunL.off rfl rfl rfl rfl ?_
      refine RunL.ok (OpOk.pickT rfl rfl) rfl ?_
      refine RunL.nil ?_
      refine Run.condT rfl ?_
      refine Run.seq ?_
      refine Run.region ?_
      refine RunL.ok (OpOk.assign rfl) rfl ?_
      refine RunL.ok (OpOk.assign rfl) rfl ?_
      refine RunL.nil ?_
      refine Run.ret2 Try.func16 rfl rfl rfl ?_
      exact ⟨rfl, rfl⟩
    refine RunL.on rfl rfl ?_
    refine RunL.ok (OpOk.move rfl) rfl ?_
    refine RunL.on rfl rfl ?_
    refine RunL.ok (OpOk.asT (OpOk.lss rfl rfl) (by omega)) rfl ?_
    refine RunL.ok (OpOk.pickF rfl rfl) rfl ?_
    refine RunL.nil ?_
    refine Run.condT rfl ?_
    refine Run.seq ?_
    refine Run.region ?_
    refine RunL.ok (OpOk.assign rfl) rfl ?_
    refine RunL.ok (OpOk.assign rfl) rfl ?_
    refine RunL.nil ?_
    refine Run.ret2 Try.func16 rfl rfl rfl ?_
    exact ⟨rfl, rfl⟩
/-- All bits of bytes. -/
def bitsX (xs : List UInt8) : List Bool := (List.range (8 * xs.length)).map (bitAt xs)
theorem bitsX_length (xs : List UInt8) : (bitsX xs).length = 8 * xs.length := by simp [bitsX]
def bitsB (xs : List UInt8) : List Bool := xs.flatMap fun c => bitsOf 8 c.toNat
theorem s22 {w0 : World} {A : Asn} {u : Value} {m : Nat} {xs : List UInt8} (rd : Rd w0 A u 1 m (B xs)) (hlim : m ≤ 140737488355328) :
    Spec Try.prog w0 22 [u] A (fun v' A' => v' = S (txt (bitsB xs)) ∧ A' = A) := by
  have hl := rd.lenB
  subst hl
  refine Spec.of_run [(0, u)] Try.func22 rfl (Nat.le_of_ble_eq_true rfl) (by repeat (first | exact trivial | refine ⟨rfl, ?_⟩)) ?_
  refine Run.seq ?_
  refine Run.region ?_
  refine RunL.ok (OpOk.assign rfl) rfl ?_
  refine RunL.nil ?_
  refine Run.seq ?_
  refine Run.region ?_
  refine RunL.ok (OpOk.assign rfl) rfl ?_
  refine RunL.nil ?_
  refine Run.seq ?_
  refine Run.seq ?_
  refine Run.region ?_
  refine RunL.ok (OpOk.assign rfl) rfl ?_
  refine RunL.nil ?_
  refine Run.block ?_
  refine Run.jump ((Run.loopJ (X := Nat) (fun i => [(0, u), (3, S (txt (bitsB (xs.take i)))), (4, .int .i64 (i : Int))]) (fun _ => A) (fun i => i ≤ xs.length) (fun i => xs.length - i) 0 (Nat.zero_le _) (fun i hi ih => ?_))) ⟨rfl, rfl, rfl, trivial⟩ ((Grew.refl _))
  have hbl : ∀ l : List UInt8, (bitsB l).length = 8 * l.length := fun l => by
    induction l with
    | nil => rfl
    | cons c r ih => simp only [bitsB, List.flatMap_cons, List.length_append, bitsOf_length, List.length_cons] at *; omega
  have hl : (txt (bitsB (xs.take i))).length = 8 * min i xs.length := by rw [txt_length, hbl, List.length_take]
  rcases Nat.lt_or_ge i xs.length with hlt | hge
  · have hd : xs.getD i default = xs.getD i 0 := rfl
    have hT : fieldT 8 ((xs.getD i 0).toNat : Int) = txt (bitsOf 8 (xs.getD i 0).toNat) := by simp only [fieldT]; rw [if_pos (by omega)]; rfl
    have hfl : (fieldT 8 ((xs.getD i 0).toNat : Int)).length = 8 := by rw [hT, txt_length, bitsOf_length]
    have hn : txt (bitsB (xs.take i)) ++ fieldT 8 ((xs.getD i 0).toNat : Int) = txt (bitsB (xs.take (i + 1))) := by
      rw [hT, ← txt_append, take_next hlt, hd]
      congr 1
      simp only [bitsB, List.flatMap_append, List.flatMap_cons, List.flatMap_nil, List.append_nil]
    have hc := (xs.getD i 0).toNat_lt
    have hwr : IntKind.i64.wrap ((xs.getD i 0).toNat : Int) = (xs.getD i 0).toNat := wrapI (by omega) (by omega)
    refine Run.seq ?_
    refine Run.seq ?_
    refine Run.region ?_
    refine RunL.ok (OpOk.move rfl) rfl ?_
    refine RunL.ok (OpOk.move rfl) rfl ?_
    refine RunL.ok (OpOk.lenR rfl rfl rd rfl) rfl ?_
    refine RunL.ok (OpOk.asT (OpOk.lss rfl rfl) (by omega)) rfl ?_
    refine RunL.nil ?_
    refine Run.condT rfl ?_
    refine Run.skip ?_
    refine Run.seq ?_
    refine Run.block ?_
    refine Run.seq ?_
    refine Run.region ?_
    refine RunL.ok (OpOk.move rfl) rfl ?_
    refine RunL.ok (OpOk.move rfl) rfl ?_
    refine RunL.ok (OpOk.idx1N rfl ti5 rfl rd rfl (by omega)) rfl ?_
    refine RunL.ok (OpOk.load rfl rfl rfl (Rd.getBE (by assumption) rd (by omega))) rfl ?_
    refine RunL.ok (OpOk.convInt rfl rfl rfl (wrapI (by omega) (by omega))) rfl ?_
    refine RunL.call cal16 rfl (s16 (by omega)) rfl (fun vy1 Ay1 hy1 => ?_)
    obtain ⟨rfl, rfl⟩ := hy1
    refine RunL.ok (OpOk.move rfl) rfl ?_
    refine RunL.ok (OpOk.ext20 rfl) rfl ?_
    refine RunL.ok (OpOk.ext21 rfl) rfl ?_
    refine RunL.ok (OpOk.assign rfl) rfl ?_
    refine RunL.ok (OpOk.assign rfl) rfl ?_
    refine RunL.nil ?_
    refine Run.region ?_
    refine RunL.ok (OpOk.move rfl) rfl ?_
    refine RunL.ok (OpOk.move rfl) rfl ?_
    refine RunL.ok (OpOk.addSS rfl rfl (by omega)) rfl ?_
    refine RunL.ok (OpOk.assign rfl) rfl ?_
    refine RunL.nil ?_
    refine Run.inBlock ?_
    refine Run.region ?_
    refine RunL.ok (OpOk.move rfl) rfl ?_
    refine RunL.ok (OpOk.addN _ 1 rfl rfl rfl rfl (by omega)) rfl ?_
    refine RunL.ok (OpOk.assign rfl) rfl ?_
    refine RunL.nil ?_
    rw [hn]
    refine Run.jump ((ih (i + 1) (by omega) (by omega))) ⟨rfl, rfl, rfl, trivial⟩ ((Grew.refl _))
  · obtain rfl : i = xs.length := by omega
    rw [List.take_length]
    refine Run.seq ?_
    refine Run.seq ?_
    refine Run.region ?_
    refine RunL.ok (OpOk.move rfl) rfl ?_
    refine RunL.ok (OpOk.move rfl) rfl ?_
    refine RunL.ok (OpOk.lenR rfl rfl rd rfl) rfl ?_
    refine RunL.ok (OpOk.asF (OpOk.lss rfl rfl) (by omega)) rfl ?_
    refine RunL.nil ?_
    refine Run.condF rfl ?_
    refine Run.exit rfl ?_
    refine Run.seq ?_
    refine Run.region ?_
    refine RunL.ok (OpOk.move rfl) rfl ?_
    refine RunL.ok (OpOk.assign rfl) rfl ?_
    refine RunL.nil ?_
    refine Run.ret1 Try.func22 rfl rfl ?_
    exact ⟨rfl, rfl⟩
def numB (bs : List Bool) : Nat := bs.foldl (fun n b => 2 * n + b2n b) 0
theorem s24 {w0 : World} {A : Asn} {bs : List Bool} (hlim : bs.length ≤ 32) :
    Spec Try.prog w0 24 [S (txt bs)] A (fun v' A' => v' = .int .i64 ((numB bs : Nat) : Int) ∧ A' = A) := by
  refine Spec.of_run [(0, S (txt bs))] Try.func24 rfl (Nat.le_of_ble_eq_true rfl) (by repeat (first | exact trivial | refine ⟨rfl, ?_⟩)) ?_
  have htl := txt_length bs
  refine Run.seq ?_
  refine Run.region ?_
  refine RunL.ok (OpOk.assign rfl) rfl ?_
  refine RunL.nil ?_
  refine Run.seq ?_
  refine Run.region ?_
  refine RunL.ok (OpOk.assign rfl) rfl ?_
  refine RunL.nil ?_
  refine Run.seq ?_
  refine Run.seq ?_
  refine Run.region ?_
  refine RunL.ok (OpOk.assign rfl) rfl ?_
  refine RunL.nil ?_
  refine Run.block ?_
  refine Run.jump ((Run.loopJ (X := Nat) (fun i => [(0, S (txt bs)), (3, .int .i64 ((numB (bs.take i) : Nat) : Int)), (4, .int .i64 (i : Int))]) (fun _ => A) (fun i => i ≤ bs.length) (fun i => bs.length - i) 0 (Nat.zero_le _) (fun i hi ih => ?_))) ⟨rfl, rfl, rfl, trivial⟩ ((Grew.refl _))
  have hlt2 : numB (bs.take i) < 2 ^ i := by
    have key : ∀ l : List Bool, ∀ n k : Nat, n < 2 ^ k → l.foldl (fun n b => 2 * n + b2n b) n < 2 ^ (k + l.length) := by
      intro l
      induction l with
      | nil => intro n k h; simpa using h
      | cons b r ih =>
        intro n k h
        have h2 := b2n_le b
        have := ih (2 * n + b2n b) (k + 1) (by rw [Nat.pow_succ]; omega)
        rw [List.foldl_cons, List.length_cons, show k + (r.length + 1) = k + 1 + r.length by omega]
        exact this
    have h := key (bs.take i) 0 0 (by decide)
    rw [List.length_take, Nat.zero_add, Nat.min_eq_left hi] at h
    exact h
  have hp : 2 ^ i ≤ 2 ^ 32 := Nat.pow_le_pow_right (by decide) (by omega)
  rcases Nat.lt_or_ge i bs.length with hlt | hge
  · have hn : numB (bs.take (i + 1)) = 2 * numB (bs.take i) + b2n (bs.getD i default) := by
      rw [take_next hlt]
      simp [numB, List.foldl_append]
    have hg : (txt bs).getD i 0 = if bs.getD i default then 49 else 48 := by simp [txt, List.getD_eq_getElem?_getD, hlt]
    rcases Bool.eq_false_or_eq_true (bs.getD i default) with hb | hb
    · rw [hb] at hn hg
      have hgn : ((txt bs).getD i 0).toNat = 49 := by rw [hg]; rfl
      have hn2 : 2 * numB (bs.take i) + 1 = numB (bs.take (i + 1)) := hn.symm
      refine Run.seq ?_
      refine Run.seq ?_
      refine Run.region ?_
      refine RunL.ok (OpOk.move rfl) rfl ?_
      refine RunL.ok (OpOk.move rfl) rfl ?_
      refine RunL.ok (OpOk.lenSS rfl rfl rfl) rfl ?_
      refine RunL.ok (OpOk.asT (OpOk.lss rfl rfl) (by omega)) rfl ?_
      refine RunL.nil ?_
      refine Run.condT rfl ?_
      refine Run.skip ?_
      refine Run.seq ?_
      refine Run.block ?_
      refine Run.seq ?_
      refine Run.region ?_
      refine RunL.ok (OpOk.move rfl) rfl ?_
      refine RunL.ok (OpOk.mulN 2 _ rfl rfl rfl rfl (by omega)) rfl ?_
      refine RunL.ok (OpOk.assign rfl) rfl ?_
      refine RunL.nil ?_
      refine Run.seq ?_
      refine Run.region ?_
      refine RunL.ok (OpOk.move rfl) rfl ?_
      refine RunL.ok (OpOk.move rfl) rfl ?_
      refine RunL.ok (OpOk.idxSS rfl rfl rfl (by omega)) rfl ?_
      refine RunL.ok (OpOk.asT (OpOk.eql rfl rfl) (by omega)) rfl ?_
      refine RunL.nil ?_
      refine Run.condT rfl ?_
      refine Run.region ?_
      refine RunL.ok (OpOk.move rfl) rfl ?_
      refine RunL.ok (OpOk.addN _ 1 rfl rfl rfl rfl (by omega)) rfl ?_
      refine RunL.ok (OpOk.assign rfl) rfl ?_
      refine RunL.nil ?_
      refine Run.inBlock ?_
      refine Run.region ?_
      refine RunL.ok (OpOk.move rfl) rfl ?_
      refine RunL.ok (OpOk.addN _ 1 rfl rfl rfl rfl (by omega)) rfl ?_
      refine RunL.ok (OpOk.assign rfl) rfl ?_
      refine RunL.nil ?_
      rw [hn2]
      refine Run.jump ((ih (i + 1) (by omega) (by omega))) ⟨rfl, rfl, rfl, trivial⟩ ((Grew.refl _))
    · rw [hb] at hn hg
      have hgn : ((txt bs).getD i 0).toNat = 48 := by rw [hg]; rfl
      have hn2 : 2 * numB (bs.take i) = numB (bs.take (i + 1)) := hn.symm
      refine Run.seq ?_
      refine Run.seq ?_
      refine Run.region ?_
      refine RunL.ok (OpOk.move rfl) rfl ?_
      refine RunL.ok (OpOk.move rfl) rfl ?_
      refine RunL.ok (OpOk.lenSS rfl rfl rfl) rfl ?_
      refine RunL.ok (OpOk.asT (OpOk.lss rfl rfl) (by omega)) rfl ?_
      refine RunL.nil ?_
      refine Run.condT rfl ?_
      refine Run.skip ?_
      refine Run.seq ?_
      refine Run.block ?_
      refine Run.seq ?_
      refine Run.region ?_
      refine RunL.ok (OpOk.move rfl) rfl ?_
      refine RunL.ok (OpOk.mulN 2 _ rfl rfl rfl rfl (by omega)) rfl ?_
      refine RunL.ok (OpOk.assign rfl) rfl ?_
      refine RunL.nil ?_
      refine Run.seq ?_
      refine Run.region ?_
      refine RunL.ok (OpOk.move rfl) rfl ?_
      refine RunL.ok (OpOk.move rfl) rfl ?_
      refine RunL.ok (OpOk.idxSS rfl rfl rfl (by omega)) rfl ?_
      refine RunL.ok (OpOk.asF (OpOk.eql rfl rfl) (by omega)) rfl ?_
      refine RunL.nil ?_
      refine Run.condF rfl ?_
      refine Run.skip ?_
      refine Run.inBlock ?_
      refine Run.region ?_
      refine RunL.ok (OpOk.move rfl) rfl ?_
      refine RunL.ok (OpOk.addN _ 1 rfl rfl rfl rfl (by omega)) rfl ?_
      refine RunL.ok (OpOk.assign rfl) rfl ?_
      refine RunL.nil ?_
      rw [hn2]
      refine Run.jump ((ih (i + 1) (by omega) (by omega))) ⟨rfl, rfl, rfl, trivial⟩ ((Grew.refl _))
  · obtain rfl : i = bs.length := by omega
    rw [List.take_length]
    refine Run.seq ?_
    refine Run.seq ?_
    refine Run.region ?_
    refine RunL.ok (OpOk.move rfl) rfl ?_
    refine RunL.ok (OpOk.move rfl) rfl ?_
    refine RunL.ok (OpOk.lenSS rfl rfl rfl) rfl ?_
    refine RunL.ok (OpOk.asF (OpOk.lss rfl rfl) (by omega)) rfl ?_
    refine RunL.nil ?_
    refine Run.condF rfl ?_
    refine Run.exit rfl ?_
    refine Run.seq ?_
    refine Run.region ?_
    refine RunL.ok (OpOk.move rfl) rfl ?_
    refine RunL.ok (OpOk.assign rfl) rfl ?_
    refine RunL.nil ?_
    refine Run.ret1 Try.func24 rfl rfl ?_
    exact ⟨rfl, rfl⟩
end Go.Proofs.Ytlheianbmpgefaa
