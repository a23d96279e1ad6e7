/- The writer of bits. -/
import Derived.Test.YtajjmephfoaiaaaTy
import Derived.Test.YtajjmephfoaiaaaLib
import Derived.Test.YtajjmephfoaiaaaBit
import Derived.Laws.Tables
namespace Go.Proofs.Ytajjmephfoaiaaa
open Go Go.Proofs
set_option maxRecDepth 100000
set_option maxHeartbeats 4000000
def rightF (w v : Int) : Bool := decide (1 ≤ w ∧ w ≤ 32 ∧ 0 ≤ v ∧ v / 2 ^ w.toNat = 0)
theorem s44 {w0 : World} {A : Asn} {w v : Int} : Spec Try.prog w0 44 [.agg #[.int .i64 w, .int .i64 v]] A (fun v' A' => v' = .bool (rightF w v) ∧ A' = A) := by
  refine Spec.of_run [(0, .agg #[.int .i64 w, .int .i64 v])] Try.func44 rfl (Nat.le_of_ble_eq_true rfl) (by repeat (first | exact trivial | refine ⟨rfl, ?_⟩)) ?_
  refine Run.seq ?_
  refine Run.region ?_
  refine RunL.box rfl rfl (fun bx1 => ?_)
  refine RunL.ok (OpOk.assign rfl) rfl ?_
  refine RunL.nil ?_
  refine Run.seq ?_
  refine Run.region ?_
  refine RunL.ok (OpOk.fieldAddr fld74_0 rfl) rfl ?_
  refine RunL.ok (OpOk.load rfl rfl rfl (Blk.out Blk.pts _ _ rfl)) rfl ?_
  refine RunL.ok (OpOk.geq rfl rfl) rfl ?_
  refine RunL.ok (OpOk.move rfl) rfl ?_
  refine RunL.splitD (t := 6) rfl (fun x2 => ?_) (fun x2 => ?_)
  · refine RunL.on rfl rfl ?_
    refine RunL.ok (OpOk.fieldAddr fld74_0 rfl) rfl ?_
    refine RunL.on rfl rfl ?_
    refine RunL.ok (OpOk.load rfl rfl rfl (Blk.out Blk.pts _ _ rfl)) rfl ?_
    refine RunL.on rfl rfl ?_
    refine RunL.ok (OpOk.leq rfl rfl) rfl ?_
    refine RunL.ok (OpOk.pickT rfl rfl) rfl ?_
    refine RunL.ok (OpOk.move rfl) rfl ?_
    refine RunL.splitD (t := 11) rfl (fun x3 => ?_) (fun x3 => ?_)
    · refine RunL.on rfl rfl ?_
      refine RunL.ok (OpOk.fieldAddr fld74_1 rfl) rfl ?_
      refine RunL.on rfl rfl ?_
      refine RunL.ok (OpOk.load rfl rfl rfl (Blk.out Blk.pts _ _ rfl)) rfl ?_
      refine RunL.on rfl rfl ?_
      refine RunL.ok (OpOk.geq rfl rfl) rfl ?_
      refine RunL.ok (OpOk.pickT rfl rfl) rfl ?_
      refine RunL.ok (OpOk.move rfl) rfl ?_
      refine RunL.splitD (t := 16) rfl (fun x4 => ?_) (fun x4 => ?_)
      · refine RunL.on rfl rfl ?_
        refine RunL.ok (OpOk.fieldAddr fld74_1 rfl) rfl ?_
        refine RunL.on rfl rfl ?_
        refine RunL.ok (OpOk.load rfl rfl rfl (Blk.out Blk.pts _ _ rfl)) rfl ?_
        refine RunL.on rfl rfl ?_
        refine RunL.ok (OpOk.fieldAddr fld74_0 rfl) rfl ?_
        refine RunL.on rfl rfl ?_
        refine RunL.ok (OpOk.load rfl rfl rfl (Blk.out Blk.pts _ _ rfl)) rfl ?_
        refine RunL.on rfl rfl ?_
        have e : min w.toNat IntKind.i64.bits = w.toNat := Nat.min_eq_left (by simp [IntKind.bits]; omega)
        refine RunL.ok (OpOk.shr rfl rfl (by omega) (by rw [e])) rfl ?_
        refine RunL.on rfl rfl ?_
        refine RunL.ok (OpOk.eql rfl rfl) rfl ?_
        refine RunL.ok (OpOk.pickT rfl rfl) rfl ?_
        refine RunL.ok (OpOk.assign rfl) rfl ?_
        refine RunL.nil ?_
        refine Run.keep (A) ((Grew.mul (Grew.refl _) _)) ?_
        refine Run.ret1 Try.func44 rfl rfl ?_
        refine ⟨?_, rfl⟩
        simp [rightF, *]
      refine RunL.off rfl rfl rfl rfl ?_
      refine RunL.off rfl rfl rfl rfl ?_
      refine RunL.off rfl rfl rfl rfl ?_
      refine RunL.off rfl rfl rfl rfl ?_
      refine RunL.off rfl rfl rfl rfl ?_
      refine RunL.off rfl rfl rfl rfl ?_
      refine RunL.ok (OpOk.pickF rfl rfl) rfl ?_
      refine RunL.ok (OpOk.assign rfl) rfl ?_
      refine RunL.nil ?_
      refine Run.keep (A) ((Grew.mul (Grew.refl _) _)) ?_
      refine Run.ret1 Try.func44 rfl rfl ?_
      refine ⟨?_, rfl⟩
      first | (simp [rightF]; omega) | simp [rightF, *]
    refine RunL.off rfl rfl rfl rfl ?_
    refine RunL.off rfl rfl rfl rfl ?_
    refine RunL.off rfl rfl rfl rfl ?_
    refine RunL.ok (OpOk.pickF rfl rfl) rfl ?_
    refine RunL.ok (OpOk.move rfl) rfl ?_
    refine RunL.off rfl rfl rfl rfl ?_
    refine RunL.off rfl rfl rfl rfl ?_
    refine RunL.off rfl rfl rfl rfl ?_
    refine RunL.off rfl rfl rfl rfl ?_
    refine RunL.off rfl rfl rfl rfl ?_
    refine RunL.off rfl rfl rfl rfl ?_
    refine RunL.ok (OpOk.pickF rfl rfl) rfl ?_
    refine RunL.ok (OpOk.assign rfl) rfl ?_
    refine RunL.nil ?_
    refine Run.keep (A) ((Grew.mul (Grew.refl _) _)) ?_
    refine Run.ret1 Try.func44 rfl rfl ?_
    refine ⟨?_, rfl⟩
    first | (simp [rightF]; omega) | simp [rightF, *]
  refine RunL.off rfl rfl rfl rfl ?_
  refine RunL.off rfl rfl rfl rfl ?_
  refine RunL.off rfl rfl rfl rfl ?_
  refine RunL.ok (OpOk.pickF rfl rfl) rfl ?_
  refine RunL.ok (OpOk.move rfl) rfl ?_
  refine RunL.off rfl rfl rfl rfl ?_
  refine RunL.off rfl rfl rfl rfl ?_
  refine RunL.off rfl rfl rfl rfl ?_
  refine RunL.ok (OpOk.pickF rfl rfl) rfl ?_
  refine RunL.ok (OpOk.move rfl) rfl ?_
  refine RunL.off rfl rfl rfl rfl ?_
  refine RunL.off rfl rfl rfl rfl ?_
  refine RunL.off rfl rfl rfl rfl ?_
  refine RunL.off rfl rfl rfl rfl ?_
  refine RunL.off rfl rfl rfl rfl ?_
  refine RunL.off rfl rfl rfl rfl ?_
  refine RunL.ok (OpOk.pickF rfl rfl) rfl ?_
  refine RunL.ok (OpOk.assign rfl) rfl ?_
  refine RunL.nil ?_
  refine Run.keep (A) ((Grew.mul (Grew.refl _) _)) ?_
  refine Run.ret1 Try.func44 rfl rfl ?_
  refine ⟨?_, rfl⟩
  first | (simp [rightF]; omega) | simp [rightF, *]
/-- A writer at p with these bits. -/
def Wtr (p : Nat) (v : Value) (bs : List Bool) : Asn := pts p (.cells #[v, .int .i64 (bs.length : Int)] 71 (0, 0)) * own 5 1 v ((bs.length + 7) / 8) (B (pack bs ((bs.length + 7) / 8)))
def encF (f : Int × Int) : List Value := [.int .i64 f.1, .int .i64 f.2]
instance : OneC encF := ⟨fun a u hu => by
  simp only [encF, List.mem_cons, List.not_mem_nil, or_false] at hu
  rcases hu with rfl | rfl <;> rfl⟩
/-- All the fields' bits. -/
def fieldBits (fs : List (Int × Int)) : List Bool := fs.flatMap fun f => bitsOf f.1.toNat f.2.toNat
def fitsF (f : Int × Int) : Bool := rightF f.1 f.2
theorem fieldBits_le {fs : List (Int × Int)} (h : fs.all fitsF = true) : (fieldBits fs).length ≤ 32 * fs.length := by
  induction fs with
  | nil => simp [fieldBits]
  | cons f r ih =>
    rw [List.all_cons, Bool.and_eq_true] at h
    have h1 := h.1
    simp only [fitsF, rightF, decide_eq_true_eq] at h1
    have := ih h.2
    simp only [fieldBits, List.flatMap_cons, List.length_append, bitsOf_length, List.length_cons] at *
    omega
theorem fits_lt {f : Int × Int} (h : fitsF f = true) : 1 ≤ f.1 ∧ f.1 ≤ 32 ∧ 0 ≤ f.2 ∧ f.2 < 4294967296 := by
  simp only [fitsF, rightF, decide_eq_true_eq] at h
  obtain ⟨a, b, c, d⟩ := h
  refine ⟨a, b, c, ?_⟩
  have hp : (2 : Int) ^ f.1.toNat ≤ 2 ^ 32 := by exact_mod_cast Nat.pow_le_pow_right (by decide) (show f.1.toNat ≤ 32 by omega)
  have hpos : (0 : Int) < 2 ^ f.1.toNat := Int.pow_pos (by decide)
  rcases Int.lt_or_le f.2 (2 ^ f.1.toNat) with h | h
  · omega
  · have h2 := Int.le_ediv_of_mul_le hpos (show 1 * 2 ^ f.1.toNat ≤ f.2 by omega)
    omega
theorem Wtr_more (p : Nat) (v : Value) (bs : List Bool) (b : Bool) (k : Nat) (hk : (bs.length + 1 + 7) / 8 = k) (n : Int) (hn : n = ((bs.length + 1 : Nat) : Int)) : Wtr p v (bs ++ [b]) = pts p (.cells #[v, .int .i64 n] 71 (0, 0)) * own 5 1 v k (B ((pack bs k).set (bs.length / 8) ((pack bs k).getD (bs.length / 8) 0 ||| UInt8.ofNat (b2n b * 2 ^ (7 - bs.length % 8))))) := by
  subst hk hn
  unfold Wtr
  rw [← pack_more (by omega)]
  simp
theorem put_w {w0 : World} {A : Asn} {p : Nat} {v u : Value} {bs : List Bool} {fs : List (Int × Int)} (rd : Rd w0 A u 2 fs.length (Fl encF fs)) (hlim : bs.length + 32 * fs.length ≤ 562949953421312) :
    Spec Try.prog w0 39 [.pointer (some ⟨p, 0, none⟩), u] (A * Wtr p v bs) (fun v' A' => ∃ e v2, v' = .int .i64 e ∧ A' = A * Wtr p v2 (if fs.all fitsF then bs ++ fieldBits fs else bs) ∧ e = if fs.all fitsF then 0 else 2) := by
  have hm := rd.max
  refine Spec.of_run [(0, .pointer (some ⟨p, 0, none⟩)), (1, u)] Try.func39 rfl (Nat.le_of_ble_eq_true rfl) (by repeat (first | exact trivial | refine ⟨rfl, ?_⟩)) ?_
  refine Run.seq ?_
  refine Run.region ?_
  refine RunL.ok (OpOk.assign rfl) rfl ?_
  refine RunL.nil ?_
  refine Run.seq ?_
  refine Run.seq ?_
  refine Run.region ?_
  refine RunL.ok (OpOk.move rfl) rfl ?_
  refine RunL.ok (OpOk.lenR rfl rfl rd.left rfl) rfl ?_
  refine RunL.ok (OpOk.move rfl) rfl ?_
  refine RunL.nil ?_
  refine Run.block ?_
  refine Run.loop (X := Nat) (fun i => [(0, .pointer (some ⟨p, 0, none⟩)), (1, u), (10, u), (11, .int .i64 (fs.length : Int)), (12, .int .i64 i)]) (fun _ => A * Wtr p v bs) (fun i => i ≤ fs.length ∧ (fs.take i).all fitsF = true) (fun i => fs.length - i) 0 ⟨rfl, rfl, rfl, rfl, rfl, trivial⟩ rfl ⟨by omega, by simp⟩ (fun i hi ih => ?_)
  obtain ⟨hi, hall⟩ := hi
  have hz : fs.all fitsF = ((fs.take i).all fitsF && (fs.drop i).all fitsF) := by rw [← List.all_append, List.take_append_drop]
  have ht := take_next (l := fs) (i := i)
  have hd : i < fs.length → fs.drop i = fs.getD i default :: fs.drop (i + 1) := fun h => by rw [List.getD_eq_getElem?_getD, List.getElem?_eq_getElem h]; exact List.drop_eq_getElem_cons h
  refine Run.seq ?_
  refine Run.region ?_
  refine RunL.ok (OpOk.lss rfl rfl) rfl ?_
  refine RunL.nil ?_
  refine Run.seq ?_
  refine Run.condD rfl (fun y1 => ?_) (fun y1 => ?_)
  · refine Run.skip ?_
    refine Run.seq ?_
    refine Run.block ?_
    refine Run.seq ?_
    refine Run.region ?_
    refine RunL.ok (OpOk.idxN rfl ti74 rfl rd.left rfl (by omega)) rfl ?_
    refine RunL.ok (OpOk.loadFl default rfl rfl ti74 rfl rd.left (fun _ => rfl) rfl (by omega)) rfl ?_
    refine RunL.alloc ti74 rfl (fun by2 => ?_)
    refine RunL.storeAll ti74 rfl rfl rfl (ones rfl) rfl rfl ?_
    refine RunL.nil ?_
    refine Run.seq ?_
    refine Run.region ?_
    refine RunL.ok (OpOk.loadS rfl rfl ti74 rfl Blk.pts rfl) rfl ?_
    refine RunL.call cal44 rfl (s44) rfl (fun vy3 Ay3 hy3 => ?_)
    obtain ⟨rfl, rfl⟩ := hy3
    refine RunL.ok (OpOk.not rfl) rfl ?_
    refine RunL.nil ?_
    refine Run.cond rfl (fun y4 => ?_) (fun y4 => ?_)
    · refine Run.seq ?_
      refine Run.region ?_
      refine RunL.ok (OpOk.assign rfl) rfl ?_
      refine RunL.nil ?_
      refine Run.keep (A * Wtr p v bs) ((Grew.mul (Grew.refl _) _)) ?_
      refine Run.ret1 Try.func39 rfl rfl ?_
      refine ⟨_, v, rfl, ?_, ?_⟩ <;> rw [hz, hd (by omega)] <;> simp [fitsF] <;> simp_all
    refine Run.skip ?_
    refine Run.inBlock ?_
    refine Run.region ?_
    refine RunL.ok (OpOk.addN _ 1 rfl rfl rfl rfl (by omega)) rfl ?_
    refine RunL.ok (OpOk.move rfl) rfl ?_
    refine RunL.nil ?_
    refine Run.jump ((ih (i + 1) ⟨by omega, by rw [ht (by omega), List.all_append, hall]; simp [fitsF]; simpa using y4⟩ (by omega))) ⟨rfl, rfl, rfl, rfl, rfl, trivial⟩ ((Grew.mul (Grew.refl _) _))
  refine Run.exit rfl ?_
  refine Run.seq ?_
  refine Run.seq ?_
  refine Run.region ?_
  refine RunL.ok (OpOk.move rfl) rfl ?_
  refine RunL.ok (OpOk.lenR rfl rfl rd.left rfl) rfl ?_
  refine RunL.ok (OpOk.move rfl) rfl ?_
  refine RunL.nil ?_
  refine Run.block ?_
  have hi2 : i = fs.length := by omega
  subst hi2
  rw [List.take_length] at hall
  clear ih hz ht hd
  rw [if_pos hall, if_pos hall]
  have rightAt : ∀ i, i < fs.length → fitsF (fs.getD i default) = true := fun i h => by
    rw [List.all_eq_true] at hall
    exact hall _ (List.mem_of_getElem? (getD_at h))
  refine Run.loop (X := Nat × Value) (fun x => [(0, .pointer (some ⟨p, 0, none⟩)), (20, u), (21, .int .i64 (fs.length : Int)), (22, .int .i64 x.1)]) (fun x => A * Wtr p x.2 (bs ++ fieldBits (fs.take x.1))) (fun x => x.1 ≤ fs.length) (fun x => fs.length - x.1) (0, v) ⟨rfl, rfl, rfl, rfl, trivial⟩ (by simp [fieldBits]) (by simp) (fun x hx ih => ?_)
  obtain ⟨i, v1⟩ := x
  simp only at hx ih ⊢
  rcases Nat.lt_or_ge i fs.length with hlt | hge
  · have ht := take_next hlt
    have hf := rightAt i hlt
    have hle := fieldBits_le (fs := fs.take i) (by rw [List.all_eq_true]; rw [List.all_eq_true] at hall; exact fun x hx => hall x (List.mem_of_mem_take hx))
    rw [List.length_take] at hle
    have hfb : bs ++ fieldBits (fs.take (i + 1)) = bs ++ fieldBits (fs.take i) ++ bitsOf (fs.getD i default).1.toNat (fs.getD i default).2.toNat := by rw [ht]; simp [fieldBits]
    have hn0 : (bs ++ fieldBits (fs.take i)).length ≤ bs.length + 32 * i := by rw [List.length_append]; omega
    have hf2 := fits_lt hf
    generalize bs ++ fieldBits (fs.take i) = b0 at *
    generalize hfe : fs.getD i default = f at *
    obtain ⟨f1, f2⟩ := f
    simp only at hf2 hfb
    obtain ⟨W, rfl⟩ := Int.eq_ofNat_of_zero_le (show 0 ≤ f1 by omega)
    obtain ⟨V, rfl⟩ := Int.eq_ofNat_of_zero_le hf2.2.2.1
    simp only [Int.toNat_natCast] at *
    refine Run.seq ?_
    refine Run.region ?_
    refine RunL.ok (OpOk.asT (OpOk.lss rfl rfl) (by omega)) rfl ?_
    refine RunL.nil ?_
    refine Run.seq ?_
    refine Run.condT rfl ?_
    refine Run.skip ?_
    refine Run.seq ?_
    refine Run.block ?_
    refine Run.seq ?_
    refine Run.region ?_
    refine RunL.ok (OpOk.idxN rfl ti74 rfl rd.left rfl (by omega)) rfl ?_
    refine RunL.ok (OpOk.loadFlE (by assumption) rfl rfl ti74 rfl rd.left (fun _ => rfl) rfl (by omega)) rfl ?_
    refine RunL.alloc ti74 rfl (fun bz1 => ?_)
    refine RunL.storeAll ti74 rfl rfl rfl (ones rfl) rfl rfl ?_
    refine RunL.nil ?_
    refine Run.seq ?_
    refine Run.region ?_
    refine RunL.ok (OpOk.fieldAddr fld74_0 rfl) rfl ?_
    refine RunL.ok (OpOk.load rfl rfl rfl (Blk.out Blk.pts _ _ rfl)) rfl ?_
    refine RunL.ok (OpOk.sub rfl rfl (wrapI (by omega) (by omega))) rfl ?_
    refine RunL.ok (OpOk.assign rfl) rfl ?_
    refine RunL.nil ?_
    refine Run.block ?_
    refine Run.loop (X := Nat × Value) (fun x => [(0, .pointer (some ⟨p, 0, none⟩)), (20, u), (21, .int .i64 (fs.length : Int)), (22, .int .i64 i), (8, .pointer (some ⟨bz1, 0, none⟩)), (9, .int .i64 ((W : Int) - 1 - x.1))]) (fun x => A * pts bz1 (.cells #[.int .i64 W, .int .i64 V] 74 (0, 0)) * Wtr p x.2 (b0 ++ (bitsOf W V).take x.1)) (fun x => x.1 ≤ W) (fun x => W - x.1) (0, v1) ⟨rfl, rfl, rfl, rfl, rfl, lkI rfl (by simp), trivial⟩ (by simp only [List.take_zero, List.append_nil]; exact sep_last _ _ _) (by simp) (fun x hx2 ih2 => ?_)
    obtain ⟨q, v2⟩ := x
    simp only at hx2 ih2 ⊢
    have htl : ((bitsOf W V).take q).length = q := by rw [List.length_take, bitsOf_length]; omega
    have hn : (b0 ++ (bitsOf W V).take q).length ≤ bs.length + 32 * i + 32 := by rw [List.length_append, htl]; omega
    rcases Nat.lt_or_ge q W with hqW | hqW
    · have hbt := bits_take (v := V) hqW
      have happ : b0 ++ (bitsOf W V).take (q + 1) = (b0 ++ (bitsOf W V).take q) ++ [V.testBit (W - 1 - q)] := by rw [hbt, List.append_assoc]
      generalize b0 ++ (bitsOf W V).take q = b1 at *
      refine Run.mem (A' := A * pts bz1 (.cells #[.int .i64 W, .int .i64 V] 74 (0, 0)) * own 5 1 v2 ((b1.length + 7) / 8) (B (pack b1 ((b1.length + 7) / 8))) * pts p (.cells #[v2, .int .i64 (b1.length : Int)] 71 (0, 0))) (by unfold Wtr; rw [← sep_assoc]; exact sep_last _ _ _) ?_
      have hV : V / 2 ^ (W - 1 - q) ≤ V := Nat.div_le_self _ _
      have hb2 := b2n_le (V.testBit (W - 1 - q))
      have hr8 : b1.length % 8 < 8 := Nat.mod_lt _ (by decide)
      have e10 : (W : Int) - 1 - q = ((W - 1 - q : Nat) : Int) := by omega
      simp only [e10]
      refine Run.seq ?_
      refine Run.seq ?_
      refine Run.region ?_
      refine RunL.ok (OpOk.move rfl) rfl ?_
      refine RunL.ok (OpOk.asT (OpOk.geq rfl rfl) (by omega)) rfl ?_
      refine RunL.nil ?_
      refine Run.condT rfl ?_
      refine Run.skip ?_
      refine Run.seq ?_
      refine Run.block ?_
      refine Run.seq ?_
      refine Run.seq ?_
      refine Run.region ?_
      refine RunL.ok (OpOk.move rfl) rfl ?_
      refine RunL.ok (OpOk.nilOk rfl) rfl ?_
      refine RunL.ok (OpOk.fieldAddr fld71_1 rfl) rfl ?_
      refine RunL.ok (OpOk.load rfl rfl rfl (Blk.out Blk.pts _ _ rfl)) rfl ?_
      refine RunL.ok (OpOk.remN _ 8 rfl rfl rfl rfl (by omega)) rfl ?_
      refine RunL.ok (OpOk.eql rfl rfl) rfl ?_
      refine RunL.nil ?_
      refine Run.condD rfl (fun t1 => ?_) (fun t1 => ?_)
      · refine Run.region ?_
        refine RunL.ok (OpOk.move rfl) rfl ?_
        refine RunL.ok (OpOk.move rfl) rfl ?_
        refine RunL.ok (OpOk.nilOk rfl) rfl ?_
        refine RunL.ok (OpOk.fieldAddr fld71_0 rfl) rfl ?_
        refine RunL.ok (OpOk.load rfl rfl rfl (Blk.out Blk.pts _ _ rfl)) rfl ?_
        refine RunL.litB (xs := [0]) rfl ti5 rfl rfl rfl (by decide) rfl (fun vt2 rdt2 => ?_)
        refine RunL.know (fun w s => (s.conv rfl).ownRd0) (fun rdt4 => ?_)
        refine RunL.appendB rfl ti5 rfl rfl rfl (frl (frl rfl)) (Rd.right rdt4) (by omega) rfl (fun vt3 rdt3 => ?_)
        refine RunL.ok (OpOk.nilOk rfl) rfl ?_
        refine RunL.ok (OpOk.fieldAddr fld71_0 rfl) rfl ?_
        refine RunL.store ti22 rfl rfl (Rd.one rdt3) (frl (frl rfl)) (by exact Nat.le_of_ble_eq_true rfl) (.inl rfl) ?_
        refine RunL.nil ?_
        refine Run.seq ?_
        refine Run.know (fun w s => (s.conv (frl rfl)).ownRd0) (fun rdt5 => ?_)
        (apply Run.drawD [26] (by rfl) (sep_emp _).symm; case hchk => kernel_rfl)
        refine Sd.quiet 0 _ _ rfl rfl rfl rfl rfl (QOp.ok (fun X => OpOk.move rfl)) ?_
        refine Sd.quiet 1 _ _ rfl rfl rfl rfl rfl (QOp.ok (fun X => OpOk.nilOk rfl)) ?_
        refine Sd.quiet 2 _ _ rfl rfl rfl rfl rfl (QOp.ok (fun X => OpOk.fieldAddr fld71_0 rfl)) ?_
        refine Sd.quiet 3 _ _ rfl rfl rfl rfl rfl (QOp.ok (fun X => OpOk.load rfl rfl rfl (Blk.out Blk.pts.left.left _ _ rfl))) ?_
        refine Sd.quiet 4 _ _ rfl rfl rfl rfl rfl (QOp.ok (fun X => OpOk.move rfl)) ?_
        refine Sd.quiet 5 _ _ rfl rfl rfl rfl rfl (QOp.ok (fun X => OpOk.nilOk rfl)) ?_
        refine Sd.quiet 6 _ _ rfl rfl rfl rfl rfl (QOp.ok (fun X => OpOk.fieldAddr fld71_1 rfl)) ?_
        refine Sd.quiet 7 _ _ rfl rfl rfl rfl rfl (QOp.ok (fun X => OpOk.load rfl rfl rfl (Blk.out Blk.pts.left.left _ _ rfl))) ?_
        refine Sd.quiet 8 _ _ rfl rfl rfl rfl rfl (QOp.ok (fun X => OpOk.quoN _ 8 rfl rfl rfl rfl (by omega) (by omega))) ?_
        refine Sd.quiet 9 _ _ rfl rfl rfl rfl rfl (QOp.ok (fun X => OpOk.idx1N rfl ti5 rfl (Rd.right rdt5).left.left.left rfl (by omega))) ?_
        refine Sd.quiet 10 _ _ rfl rfl rfl rfl rfl (QOp.ok (fun X => OpOk.load rfl rfl rfl (Rd.getB (Rd.right rdt5).left.left.left (by omega)))) ?_
        refine Sd.quiet 11 _ _ rfl rfl rfl rfl rfl (QOp.ok (fun X => OpOk.fieldAddr fld74_1 rfl)) ?_
        refine Sd.quiet 12 _ _ rfl rfl rfl rfl rfl (QOp.ok (fun X => OpOk.load rfl rfl rfl (Blk.out Blk.pts.left.left.left.left.left _ _ rfl))) ?_
        refine Sd.quiet 13 _ _ rfl rfl rfl rfl rfl (QOp.ok (fun X => OpOk.move rfl)) ?_
        refine Sd.quiet 14 _ _ rfl rfl rfl rfl rfl (QOp.ok (fun X => OpOk.shrN _ _ rfl rfl rfl rfl (by omega))) ?_
        refine Sd.quiet 15 _ _ rfl rfl rfl rfl rfl (QOp.ok (fun X => OpOk.and1N _ rfl rfl rfl (by omega))) ?_
        refine Sd.quiet 16 _ _ rfl rfl rfl rfl rfl (QOp.ok (fun X => OpOk.convInt rfl rfl rfl (wrapU8 (by omega) (by omega)))) ?_
        refine Sd.quiet 17 _ _ rfl rfl rfl rfl rfl (QOp.ok (fun X => OpOk.move rfl)) ?_
        refine Sd.quiet 18 _ _ rfl rfl rfl rfl rfl (QOp.ok (fun X => OpOk.nilOk rfl)) ?_
        refine Sd.quiet 19 _ _ rfl rfl rfl rfl rfl (QOp.ok (fun X => OpOk.fieldAddr fld71_1 rfl)) ?_
        refine Sd.quiet 20 _ _ rfl rfl rfl rfl rfl (QOp.ok (fun X => OpOk.load rfl rfl rfl (Blk.out Blk.pts.left.left _ _ rfl))) ?_
        refine Sd.quiet 21 _ _ rfl rfl rfl rfl rfl (QOp.ok (fun X => OpOk.remN _ 8 rfl rfl rfl rfl (by omega))) ?_
        refine Sd.quiet 22 _ _ rfl rfl rfl rfl rfl (QOp.ok (fun X => OpOk.subN 7 _ rfl rfl rfl rfl (by omega) (by omega))) ?_
        refine Sd.quiet 25 _ _ rfl rfl rfl rfl rfl (QOp.ok (fun X => OpOk.idx1N rfl ti5 rfl (Rd.right rdt5).left.left.left rfl (by omega))) ?_
        rw [← pack_grow (by omega)] at rdt5 ⊢
        simp only [testBit_b2n]
        first | refine St.quiet 23 _ _ rfl rfl rfl rfl (QOp.ok (fun X => OpOk.shl rfl rfl (by omega) (bit_shlN _ (Nat.mod_lt _ (by decide))))) ?_ | refine Sd.quiet 23 _ _ rfl rfl rfl rfl rfl (QOp.ok (fun X => OpOk.shl rfl rfl (by omega) (bit_shlN _ (Nat.mod_lt _ (by decide))))) ?_
        refine Sd.quiet 24 _ _ rfl rfl rfl rfl rfl (QOp.ok (fun X => OpOk.or rfl rfl (x8_or _ _))) ?_
        (apply Sd.tail; case hall => kernel_rfl)
        refine RunL.mem (fl2 (sep_emp _) (sep_emp _)) ?_
        refine RunL.storeB _ ti5 rfl rfl rfl (frl rfl) (by omega) ?_
        refine RunL.nil ?_
        refine Run.region ?_
        refine RunL.ok (OpOk.move rfl) rfl ?_
        refine RunL.ok (OpOk.nilOk rfl) rfl ?_
        refine RunL.ok (OpOk.fieldAddr fld71_1 rfl) rfl ?_
        refine RunL.ok (OpOk.load rfl rfl rfl (Blk.out Blk.pts.left _ _ rfl)) rfl ?_
        refine RunL.ok (OpOk.addN _ 1 rfl rfl rfl rfl (by omega)) rfl ?_
        refine RunL.ok (OpOk.nilOk rfl) rfl ?_
        refine RunL.ok (OpOk.fieldAddr fld71_1 rfl) rfl ?_
        refine RunL.store ti3 rfl rfl rfl (frl rfl) (by exact Nat.le_of_ble_eq_true rfl) (.inl rfl) ?_
        refine RunL.nil ?_
        refine Run.inBlock ?_
        refine Run.region ?_
        refine RunL.ok (OpOk.move rfl) rfl ?_
        refine RunL.ok (OpOk.sub rfl rfl (wrapI (by omega) (by omega))) rfl ?_
        refine RunL.ok (OpOk.assign rfl) rfl ?_
        refine RunL.nil ?_
        refine Run.mem (A' := A * pts bz1 (.cells #[.int .i64 W, .int .i64 V] 74 (0, 0)) * Wtr p vt3 (b1 ++ [V.testBit (W - 1 - q)]) * own 5 1 vt2 1 (B [0])) ?_ ?_
        · rw [Wtr_more p vt3 b1 _ ((b1.length + 7) / 8 + 1) (by omega) _ rfl, ← sep_assoc]
          exact (frc (frl (frl rfl)) (frc (frl rfl) (frc rfl rfl)))
        rw [← happ]
        refine Run.jump ((ih2 (q + 1, vt3) (by simp; omega) (by simp; omega))) ⟨rfl, rfl, rfl, rfl, rfl, lkI rfl (by omega), trivial⟩ ((Grew.mul (Grew.refl _) _))
      refine Run.skip ?_
      refine Run.seq ?_
      refine Run.know (fun w s => (s.conv (frl rfl)).ownRd0) (fun rdt6 => ?_)
      (apply Run.drawD [26] (by rfl) (sep_emp _).symm; case hchk => kernel_rfl)
      refine Sd.quiet 0 _ _ rfl rfl rfl rfl rfl (QOp.ok (fun X => OpOk.move rfl)) ?_
      refine Sd.quiet 1 _ _ rfl rfl rfl rfl rfl (QOp.ok (fun X => OpOk.nilOk rfl)) ?_
      refine Sd.quiet 2 _ _ rfl rfl rfl rfl rfl (QOp.ok (fun X => OpOk.fieldAddr fld71_0 rfl)) ?_
      refine Sd.quiet 3 _ _ rfl rfl rfl rfl rfl (QOp.ok (fun X => OpOk.load rfl rfl rfl (Blk.out Blk.pts.left.left _ _ rfl))) ?_
      refine Sd.quiet 4 _ _ rfl rfl rfl rfl rfl (QOp.ok (fun X => OpOk.move rfl)) ?_
      refine Sd.quiet 5 _ _ rfl rfl rfl rfl rfl (QOp.ok (fun X => OpOk.nilOk rfl)) ?_
      refine Sd.quiet 6 _ _ rfl rfl rfl rfl rfl (QOp.ok (fun X => OpOk.fieldAddr fld71_1 rfl)) ?_
      refine Sd.quiet 7 _ _ rfl rfl rfl rfl rfl (QOp.ok (fun X => OpOk.load rfl rfl rfl (Blk.out Blk.pts.left.left _ _ rfl))) ?_
      refine Sd.quiet 8 _ _ rfl rfl rfl rfl rfl (QOp.ok (fun X => OpOk.quoN _ 8 rfl rfl rfl rfl (by omega) (by omega))) ?_
      refine Sd.quiet 9 _ _ rfl rfl rfl rfl rfl (QOp.ok (fun X => OpOk.idx1N rfl ti5 rfl (Rd.right rdt6).left.left.left rfl (by omega))) ?_
      refine Sd.quiet 10 _ _ rfl rfl rfl rfl rfl (QOp.ok (fun X => OpOk.load rfl rfl rfl (Rd.getB (Rd.right rdt6).left.left.left (by omega)))) ?_
      refine Sd.quiet 11 _ _ rfl rfl rfl rfl rfl (QOp.ok (fun X => OpOk.fieldAddr fld74_1 rfl)) ?_
      refine Sd.quiet 12 _ _ rfl rfl rfl rfl rfl (QOp.ok (fun X => OpOk.load rfl rfl rfl (Blk.out Blk.pts.left.left.left.left _ _ rfl))) ?_
      refine Sd.quiet 13 _ _ rfl rfl rfl rfl rfl (QOp.ok (fun X => OpOk.move rfl)) ?_
      refine Sd.quiet 14 _ _ rfl rfl rfl rfl rfl (QOp.ok (fun X => OpOk.shrN _ _ rfl rfl rfl rfl (by omega))) ?_
      refine Sd.quiet 15 _ _ rfl rfl rfl rfl rfl (QOp.ok (fun X => OpOk.and1N _ rfl rfl rfl (by omega))) ?_
      refine Sd.quiet 16 _ _ rfl rfl rfl rfl rfl (QOp.ok (fun X => OpOk.convInt rfl rfl rfl (wrapU8 (by omega) (by omega)))) ?_
      refine Sd.quiet 17 _ _ rfl rfl rfl rfl rfl (QOp.ok (fun X => OpOk.move rfl)) ?_
      refine Sd.quiet 18 _ _ rfl rfl rfl rfl rfl (QOp.ok (fun X => OpOk.nilOk rfl)) ?_
      refine Sd.quiet 19 _ _ rfl rfl rfl rfl rfl (QOp.ok (fun X => OpOk.fieldAddr fld71_1 rfl)) ?_
      refine Sd.quiet 20 _ _ rfl rfl rfl rfl rfl (QOp.ok (fun X => OpOk.load rfl rfl rfl (Blk.out Blk.pts.left.left _ _ rfl))) ?_
      refine Sd.quiet 21 _ _ rfl rfl rfl rfl rfl (QOp.ok (fun X => OpOk.remN _ 8 rfl rfl rfl rfl (by omega))) ?_
      refine Sd.quiet 22 _ _ rfl rfl rfl rfl rfl (QOp.ok (fun X => OpOk.subN 7 _ rfl rfl rfl rfl (by omega) (by omega))) ?_
      refine Sd.quiet 25 _ _ rfl rfl rfl rfl rfl (QOp.ok (fun X => OpOk.idx1N rfl ti5 rfl (Rd.right rdt6).left.left.left rfl (by omega))) ?_
      simp only [testBit_b2n]
      first | refine St.quiet 23 _ _ rfl rfl rfl rfl (QOp.ok (fun X => OpOk.shl rfl rfl (by omega) (bit_shlN _ (Nat.mod_lt _ (by decide))))) ?_ | refine Sd.quiet 23 _ _ rfl rfl rfl rfl rfl (QOp.ok (fun X => OpOk.shl rfl rfl (by omega) (bit_shlN _ (Nat.mod_lt _ (by decide))))) ?_
      refine Sd.quiet 24 _ _ rfl rfl rfl rfl rfl (QOp.ok (fun X => OpOk.or rfl rfl (x8_or _ _))) ?_
      (apply Sd.tail; case hall => kernel_rfl)
      refine RunL.mem (fl2 (sep_emp _) (sep_emp _)) ?_
      refine RunL.storeB _ ti5 rfl rfl rfl (frl rfl) (by omega) ?_
      refine RunL.nil ?_
      refine Run.region ?_
      refine RunL.ok (OpOk.move rfl) rfl ?_
      refine RunL.ok (OpOk.nilOk rfl) rfl ?_
      refine RunL.ok (OpOk.fieldAddr fld71_1 rfl) rfl ?_
      refine RunL.ok (OpOk.load rfl rfl rfl (Blk.out Blk.pts.left _ _ rfl)) rfl ?_
      refine RunL.ok (OpOk.addN _ 1 rfl rfl rfl rfl (by omega)) rfl ?_
      refine RunL.ok (OpOk.nilOk rfl) rfl ?_
      refine RunL.ok (OpOk.fieldAddr fld71_1 rfl) rfl ?_
      refine RunL.store ti3 rfl rfl rfl (frl rfl) (by exact Nat.le_of_ble_eq_true rfl) (.inl rfl) ?_
      refine RunL.nil ?_
      refine Run.inBlock ?_
      refine Run.region ?_
      refine RunL.ok (OpOk.move rfl) rfl ?_
      refine RunL.ok (OpOk.sub rfl rfl (wrapI (by omega) (by omega))) rfl ?_
      refine RunL.ok (OpOk.assign rfl) rfl ?_
      refine RunL.nil ?_
      refine Run.mem (A' := A * pts bz1 (.cells #[.int .i64 W, .int .i64 V] 74 (0, 0)) * Wtr p v2 (b1 ++ [V.testBit (W - 1 - q)])) ?_ ?_
      · rw [Wtr_more p v2 b1 _ ((b1.length + 7) / 8) (by omega) _ rfl, ← sep_assoc]
        exact (frc (frl rfl) (frc rfl rfl))
      rw [← happ]
      refine Run.jump ((ih2 (q + 1, v2) (by simp; omega) (by simp; omega))) ⟨rfl, rfl, rfl, rfl, rfl, lkI rfl (by omega), trivial⟩ ((Grew.refl _))
    · obtain rfl : q = W := by omega
      rw [List.take_of_length_le (by rw [bitsOf_length]; exact Nat.le_refl _)]
      refine Run.seq ?_
      refine Run.seq ?_
      refine Run.region ?_
      refine RunL.ok (OpOk.move rfl) rfl ?_
      refine RunL.ok (OpOk.asF (OpOk.geq rfl rfl) (by omega)) rfl ?_
      refine RunL.nil ?_
      refine Run.condF rfl ?_
      refine Run.exit rfl ?_
      refine Run.inBlock ?_
      refine Run.region ?_
      refine RunL.ok (OpOk.addN _ 1 rfl rfl rfl rfl (by omega)) rfl ?_
      refine RunL.ok (OpOk.move rfl) rfl ?_
      refine RunL.nil ?_
      rw [← hfb]
      refine Run.jump ((ih (i + 1, v2) (by simp; omega) (by simp; omega))) ⟨rfl, rfl, rfl, rfl, trivial⟩ (Grew.of (frc (frl rfl) rfl) (Grew.mul (Grew.refl _) _))
  · obtain rfl : i = fs.length := by omega
    rw [List.take_length]
    refine Run.seq ?_
    refine Run.region ?_
    refine RunL.ok (OpOk.asF (OpOk.lss rfl rfl) (by omega)) rfl ?_
    refine RunL.nil ?_
    refine Run.seq ?_
    refine Run.condF rfl ?_
    refine Run.exit rfl ?_
    refine Run.seq ?_
    refine Run.region ?_
    refine RunL.ok (OpOk.assign rfl) rfl ?_
    refine RunL.nil ?_
    refine Run.ret1 Try.func39 rfl rfl ?_
    exact ⟨_, _, rfl, rfl, rfl⟩