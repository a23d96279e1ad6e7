/- The law AuditTells, walked. -/
import Derived.Test.YteopadjihklkmaaAuV
namespace Go.Proofs.Yteopadjihklkmaa
open Go Go.Proofs
set_option maxRecDepth 100000
set_option maxHeartbeats 4000000
set_option linter.unusedSimpArgs false
abbrev T3 := (Int × Int) × (Int × Int) × (Int × Int)
def up (z : Int) : Int := IntKind.i64.wrap (z + 1)
def tellT (a b : Int) : Nat → Po → T3 → Bool × T3
  | 0, _, (x, y, z) => (!decide (up x.1 = a), ((up x.1, x.2), y, z))
  | 1, _, (x, y, z) => (!decide (up y.1 = b), (x, (up y.1, y.2), z))
  | _, _, (x, y, z) => (!decide (up z.1 = 0), (x, y, (up z.1, z.2)))
def finT (last : Bool) : Nat → T3 → Bool × T3
  | 0, (x, y, z) => (true, ((x.1, up x.2), y, z))
  | 1, (x, y, z) => (!last, (x, (y.1, up y.2), z))
  | _, (x, y, z) => (true, (x, y, (z.1, up z.2)))
def s3 (i : Nat) : T3 := (((i : Int), 0), ((i : Int), 0), ((i : Int), 0))
theorem up_nat {i : Nat} (h : i ≤ 1048576) : up (i : Int) = ((i + 1 : Nat) : Int) := by
  unfold up
  rw [wrapI (by omega) (by omega)]
  omega
theorem up_zero : up 0 = 1 := by unfold up; exact wrapI (by omega) (by omega)
section
variable {a b : Int}
theorem tell_a {i : Nat} (p : Po) (hi : i ≤ 1048576) (h : a = ((i + 1 : Nat) : Int)) : tellFrom (tellT a b) 3 0 p (s3 i) = (false, ((((i + 1 : Nat) : Int), 0), ((i : Int), 0), ((i : Int), 0))) := by
  simp [tellFrom, tellT, s3, up_nat hi, h]
theorem tell_b {i : Nat} (p : Po) (hi : i ≤ 1048576) (ha : a ≠ ((i + 1 : Nat) : Int)) (h : b = ((i + 1 : Nat) : Int)) : tellFrom (tellT a b) 3 0 p (s3 i) = (false, ((((i + 1 : Nat) : Int), 0), (((i + 1 : Nat) : Int), 0), ((i : Int), 0))) := by
  have e1 : ¬ ((i : Int) + 1 = a) := fun e => ha (by omega)
  simp [tellFrom, tellT, s3, up_nat hi, h, e1]
theorem tell_no {i : Nat} (p : Po) (hi : i ≤ 1048576) (ha : a ≠ ((i + 1 : Nat) : Int)) (hb : b ≠ ((i + 1 : Nat) : Int)) : tellFrom (tellT a b) 3 0 p (s3 i) = (true, s3 (i + 1)) := by
  have e1 : ¬ ((i : Int) + 1 = a) := fun e => ha (by omega)
  have e2 : ¬ ((i : Int) + 1 = b) := fun e => hb (by omega)
  have e3 : ¬ ((i : Int) + 1 = 0) := by omega
  simp [tellFrom, tellT, s3, up_nat hi, e1, e2, e3]
theorem psT_a : ∀ (ps : List Po) (i j : Nat), i + ps.length ≤ 1048576 → j < ps.length → a = ((i + j + 1 : Nat) : Int) → (∀ q, q < j → b ≠ ((i + q + 1 : Nat) : Int)) → psFrom (tellT a b) 3 ps i (s3 i) = (some (i + j), ((((i + j + 1 : Nat) : Int), 0), (((i + j : Nat) : Int), 0), (((i + j : Nat) : Int), 0)))
  | [], _, _, _, h, _, _ => by simp at h
  | p :: r, i, 0, hl, _, ha, _ => by
    simp only [List.length_cons] at hl
    rw [psFrom, tell_a p (by omega) (by simpa using ha), if_neg (fun h => by cases h)]
    rfl
  | p :: r, i, j + 1, hl, hj, ha, hb => by
    simp only [List.length_cons] at hl hj
    have h0 := hb 0 (by omega)
    rw [psFrom, tell_no p (by omega) (by rw [ha]; omega) (by simpa using h0), if_pos rfl, psT_a r (i + 1) j (by omega) (by omega) (by rw [ha]; omega) (fun q hq => by
      have := hb (q + 1) (by omega)
      rwa [show i + (q + 1) + 1 = i + 1 + q + 1 by omega] at this)]
    rw [show i + 1 + j = i + (j + 1) by omega]
theorem psT_b : ∀ (ps : List Po) (i j : Nat), i + ps.length ≤ 1048576 → j < ps.length → b = ((i + j + 1 : Nat) : Int) → (∀ q, q ≤ j → a ≠ ((i + q + 1 : Nat) : Int)) → psFrom (tellT a b) 3 ps i (s3 i) = (some (i + j), ((((i + j + 1 : Nat) : Int), 0), (((i + j + 1 : Nat) : Int), 0), (((i + j : Nat) : Int), 0)))
  | [], _, _, _, h, _, _ => by simp at h
  | p :: r, i, 0, hl, _, hb, ha => by
    simp only [List.length_cons] at hl
    rw [psFrom, tell_b p (by omega) (by simpa using ha 0 (by omega)) (by simpa using hb), if_neg (fun h => by cases h)]
    rfl
  | p :: r, i, j + 1, hl, hj, hb, ha => by
    simp only [List.length_cons] at hl hj
    have h0 := ha 0 (by omega)
    rw [psFrom, tell_no p (by omega) (by simpa using h0) (by rw [hb]; omega), if_pos rfl, psT_b r (i + 1) j (by omega) (by omega) (by rw [hb]; omega) (fun q hq => by
      have := ha (q + 1) (by omega)
      rwa [show i + (q + 1) + 1 = i + 1 + q + 1 by omega] at this)]
    rw [show i + 1 + j = i + (j + 1) by omega]
theorem psT_c : ∀ (ps : List Po) (i : Nat), i + ps.length ≤ 1048576 → (∀ q, q < ps.length → a ≠ ((i + q + 1 : Nat) : Int) ∧ b ≠ ((i + q + 1 : Nat) : Int)) → psFrom (tellT a b) 3 ps i (s3 i) = (none, s3 (i + ps.length))
  | [], _, _, _ => rfl
  | p :: r, i, hl, h => by
    simp only [List.length_cons] at hl h
    have h0 := h 0 (by omega)
    rw [psFrom, tell_no p (by omega) (by simpa using h0.1) (by simpa using h0.2), if_pos rfl, psT_c r (i + 1) (by omega) (fun q hq => by
      have := h (q + 1) (by omega)
      rwa [show i + (q + 1) + 1 = i + 1 + q + 1 by omega] at this)]
    rw [List.length_cons, show i + 1 + r.length = i + (r.length + 1) by omega]
end
/-- What First answers of three tellers, and what they noted. -/
def Told (a b : Int) (last : Bool) (m : Nat) (r x1 x2 y1 y2 z1 z2 : Int) : Prop := ∀ ps : List Po, ps.length = m → firstF (tellT a b) (finT last) 3 ps (s3 0) = (r, ((x1, x2), (y1, y2), (z1, z2)))
theorem told_a {a b : Int} {last : Bool} {m j : Nat} (hm : m ≤ 1048576) (hj : j < m) (ha : a = ((j + 1 : Nat) : Int)) (hb : ∀ q : Nat, q < j → b ≠ ((q + 1 : Nat) : Int)) : Told a b last m (j : Int) ((j + 1 : Nat) : Int) 0 (j : Int) 0 (j : Int) 0 := fun ps hl => by
  rw [firstF, psT_a ps 0 j (by omega) (by omega) (by rw [ha, Nat.zero_add]) (fun q hq => by rw [Nat.zero_add]; exact hb q hq)]
  simp
theorem told_b {a b : Int} {last : Bool} {m j : Nat} (hm : m ≤ 1048576) (hj : j < m) (hb : b = ((j + 1 : Nat) : Int)) (ha : ∀ q : Nat, q ≤ j → a ≠ ((q + 1 : Nat) : Int)) : Told a b last m (j : Int) ((j + 1 : Nat) : Int) 0 ((j + 1 : Nat) : Int) 0 (j : Int) 0 := fun ps hl => by
  rw [firstF, psT_b ps 0 j (by omega) (by omega) (by rw [hb, Nat.zero_add]) (fun q hq => by rw [Nat.zero_add]; exact ha q hq)]
  simp
theorem told_c {a b : Int} {m : Nat} (hm : m ≤ 1048576) (h : ∀ q : Nat, q < m → a ≠ ((q + 1 : Nat) : Int) ∧ b ≠ ((q + 1 : Nat) : Int)) : Told a b false m (-1) (m : Int) 1 (m : Int) 1 (m : Int) 1 := fun ps hl => by
  rw [firstF, psT_c ps 0 (by omega) (fun q hq => by rw [Nat.zero_add]; exact h q (by omega))]
  simp [finFrom, finT, s3, up_zero, hl]
theorem told_d {a b : Int} {m : Nat} (hm : m ≤ 1048576) (h : ∀ q : Nat, q < m → a ≠ ((q + 1 : Nat) : Int) ∧ b ≠ ((q + 1 : Nat) : Int)) : Told a b true m (m : Int) (m : Int) 1 (m : Int) 1 (m : Int) 0 := fun ps hl => by
  rw [firstF, psT_c ps 0 (by omega) (fun q hq => by rw [Nat.zero_add]; exact h q (by omega))]
  simp [finFrom, finT, s3, up_zero, hl]
def M3 (a b : Int) (last : Bool) (b1 b2 b3 : Nat) : T3 → Asn
  | ((x1, x2), (y1, y2), (z1, z2)) => pts b1 (.cells #[.int .i64 (a), .int .i64 (x1), .int .i64 (x2), .bool (false)] 28 (0, 0)) * pts b2 (.cells #[.int .i64 (b), .int .i64 (y1), .int .i64 (y2), .bool (last)] 28 (0, 0)) * pts b3 (.cells #[.int .i64 (0), .int .i64 (z1), .int .i64 (z2), .bool (false)] 28 (0, 0))
section
variable {w0 : World} {A : Asn}
theorem s15e {u1 u2 : Value} {b1 b2 b3 m : Nat} {a b r x1 x2 y1 y2 z1 z2 : Int} {last : Bool} {ps : List Po} (rd : Rd w0 A u1 3 m (Fl encT126 ps)) (rd2 : Rd w0 A u2 1 3 [.iface 26 (.pointer (some ⟨b1, 0, none⟩)), .iface 26 (.pointer (some ⟨b2, 0, none⟩)), .iface 26 (.pointer (some ⟨b3, 0, none⟩))])
    (ht : Told a b last m r x1 x2 y1 y2 z1 z2) :
    Spec Try.prog w0 15 [u1, u2] (A * ownsP ps * pts b1 (.cells #[.int .i64 (a), .int .i64 (0), .int .i64 (0), .bool (false)] 28 (0, 0)) * pts b2 (.cells #[.int .i64 (b), .int .i64 (0), .int .i64 (0), .bool (last)] 28 (0, 0)) * pts b3 (.cells #[.int .i64 (0), .int .i64 (0), .int .i64 (0), .bool (false)] 28 (0, 0))) (fun v' A' => ∃ J, v' = .int .i64 r ∧ A' = A * J * pts b1 (.cells #[.int .i64 (a), .int .i64 (x1), .int .i64 (x2), .bool (false)] 28 (0, 0)) * pts b2 (.cells #[.int .i64 (b), .int .i64 (y1), .int .i64 (y2), .bool (last)] 28 (0, 0)) * pts b3 (.cells #[.int .i64 (0), .int .i64 (z1), .int .i64 (z2), .bool (false)] 28 (0, 0))) := by
  have hl0 := rd.lenFl (fun _ => rfl) (by decide)
  subst hl0
  have hf := ht ps rfl
  refine Spec.know (fun w s => Sat.ownsP0 s.weak.weak.weak) (fun al => ?_)
  refine Spec.mem (A' := A * ownsP ps * M3 a b last b1 b2 b3 (s3 0)) (by simp only [s3, M3]; simp only [← sep_assoc]; rfl) ?_
  refine (first_gen (σ := T3) (ps := ps) (ls := [.iface 26 (.pointer (some ⟨b1, 0, none⟩)), .iface 26 (.pointer (some ⟨b2, 0, none⟩)), .iface 26 (.pointer (some ⟨b3, 0, none⟩))]) (M3 a b last b1 b2 b3) (tellT a b) (finT last) (s3 0) rd.left (Alls.right al) rd2.left (fun k p s X hk hp hg => ?_) (fun k s X hk => ?_)).mono ?_
  · obtain ⟨⟨x1, x2⟩, ⟨y1, y2⟩, ⟨z1, z2⟩⟩ := s
    have hk3 : k < 3 := hk
    rcases (by omega : k = 0 ∨ k = 1 ∨ k = 2) with rfl | rfl | rfl
    · exact ⟨134, 26, .pointer (some ⟨b1, 0, none⟩), .pointer (some ⟨b1, 0, none⟩), rfl, fun w => by kernel_rfl, Spec.mem (A' := X * pts b2 (.cells #[.int .i64 (b), .int .i64 (y1), .int .i64 (y2), .bool (last)] 28 (0, 0)) * pts b3 (.cells #[.int .i64 (0), .int .i64 (z1), .int .i64 (z2), .bool (false)] 28 (0, 0)) * pts b1 (.cells #[.int .i64 (a), .int .i64 (x1), .int .i64 (x2), .bool (false)] 28 (0, 0))) (by dsimp only [M3]; ac_rfl) (s134.mono fun v' A' ⟨J, h1, h2⟩ => ⟨h1, J, by rw [h2]; show _ = X * J * (pts b1 (.cells #[.int .i64 (a), .int .i64 ((IntKind.i64.wrap (x1 + 1))), .int .i64 (x2), .bool (false)] 28 (0, 0)) * pts b2 (.cells #[.int .i64 (b), .int .i64 (y1), .int .i64 (y2), .bool (last)] 28 (0, 0)) * pts b3 (.cells #[.int .i64 (0), .int .i64 (z1), .int .i64 (z2), .bool (false)] 28 (0, 0))); ac_rfl⟩)⟩
    · exact ⟨134, 26, .pointer (some ⟨b2, 0, none⟩), .pointer (some ⟨b2, 0, none⟩), rfl, fun w => by kernel_rfl, Spec.mem (A' := X * pts b1 (.cells #[.int .i64 (a), .int .i64 (x1), .int .i64 (x2), .bool (false)] 28 (0, 0)) * pts b3 (.cells #[.int .i64 (0), .int .i64 (z1), .int .i64 (z2), .bool (false)] 28 (0, 0)) * pts b2 (.cells #[.int .i64 (b), .int .i64 (y1), .int .i64 (y2), .bool (last)] 28 (0, 0))) (by dsimp only [M3]; ac_rfl) (s134.mono fun v' A' ⟨J, h1, h2⟩ => ⟨h1, J, by rw [h2]; show _ = X * J * (pts b1 (.cells #[.int .i64 (a), .int .i64 (x1), .int .i64 (x2), .bool (false)] 28 (0, 0)) * pts b2 (.cells #[.int .i64 (b), .int .i64 ((IntKind.i64.wrap (y1 + 1))), .int .i64 (y2), .bool (last)] 28 (0, 0)) * pts b3 (.cells #[.int .i64 (0), .int .i64 (z1), .int .i64 (z2), .bool (false)] 28 (0, 0))); ac_rfl⟩)⟩
    · exact ⟨134, 26, .pointer (some ⟨b3, 0, none⟩), .pointer (some ⟨b3, 0, none⟩), rfl, fun w => by kernel_rfl, Spec.mem (A' := X * pts b1 (.cells #[.int .i64 (a), .int .i64 (x1), .int .i64 (x2), .bool (false)] 28 (0, 0)) * pts b2 (.cells #[.int .i64 (b), .int .i64 (y1), .int .i64 (y2), .bool (last)] 28 (0, 0)) * pts b3 (.cells #[.int .i64 (0), .int .i64 (z1), .int .i64 (z2), .bool (false)] 28 (0, 0))) (by dsimp only [M3]; ac_rfl) (s134.mono fun v' A' ⟨J, h1, h2⟩ => ⟨h1, J, by rw [h2]; show _ = X * J * (pts b1 (.cells #[.int .i64 (a), .int .i64 (x1), .int .i64 (x2), .bool (false)] 28 (0, 0)) * pts b2 (.cells #[.int .i64 (b), .int .i64 (y1), .int .i64 (y2), .bool (last)] 28 (0, 0)) * pts b3 (.cells #[.int .i64 (0), .int .i64 ((IntKind.i64.wrap (z1 + 1))), .int .i64 (z2), .bool (false)] 28 (0, 0))); ac_rfl⟩)⟩
  · obtain ⟨⟨x1, x2⟩, ⟨y1, y2⟩, ⟨z1, z2⟩⟩ := s
    have hk3 : k < 3 := hk
    rcases (by omega : k = 0 ∨ k = 1 ∨ k = 2) with rfl | rfl | rfl
    · exact ⟨133, 26, .pointer (some ⟨b1, 0, none⟩), .pointer (some ⟨b1, 0, none⟩), rfl, fun w => by kernel_rfl, Spec.mem (A' := X * pts b2 (.cells #[.int .i64 (b), .int .i64 (y1), .int .i64 (y2), .bool (last)] 28 (0, 0)) * pts b3 (.cells #[.int .i64 (0), .int .i64 (z1), .int .i64 (z2), .bool (false)] 28 (0, 0)) * pts b1 (.cells #[.int .i64 (a), .int .i64 (x1), .int .i64 (x2), .bool (false)] 28 (0, 0))) (by dsimp only [M3]; ac_rfl) (s133.mono fun v' A' ⟨J, h1, h2⟩ => ⟨h1, J, by rw [h2]; show _ = X * J * (pts b1 (.cells #[.int .i64 (a), .int .i64 (x1), .int .i64 ((IntKind.i64.wrap (x2 + 1))), .bool (false)] 28 (0, 0)) * pts b2 (.cells #[.int .i64 (b), .int .i64 (y1), .int .i64 (y2), .bool (last)] 28 (0, 0)) * pts b3 (.cells #[.int .i64 (0), .int .i64 (z1), .int .i64 (z2), .bool (false)] 28 (0, 0))); ac_rfl⟩)⟩
    · exact ⟨133, 26, .pointer (some ⟨b2, 0, none⟩), .pointer (some ⟨b2, 0, none⟩), rfl, fun w => by kernel_rfl, Spec.mem (A' := X * pts b1 (.cells #[.int .i64 (a), .int .i64 (x1), .int .i64 (x2), .bool (false)] 28 (0, 0)) * pts b3 (.cells #[.int .i64 (0), .int .i64 (z1), .int .i64 (z2), .bool (false)] 28 (0, 0)) * pts b2 (.cells #[.int .i64 (b), .int .i64 (y1), .int .i64 (y2), .bool (last)] 28 (0, 0))) (by dsimp only [M3]; ac_rfl) (s133.mono fun v' A' ⟨J, h1, h2⟩ => ⟨h1, J, by rw [h2]; show _ = X * J * (pts b1 (.cells #[.int .i64 (a), .int .i64 (x1), .int .i64 (x2), .bool (false)] 28 (0, 0)) * pts b2 (.cells #[.int .i64 (b), .int .i64 (y1), .int .i64 ((IntKind.i64.wrap (y2 + 1))), .bool (last)] 28 (0, 0)) * pts b3 (.cells #[.int .i64 (0), .int .i64 (z1), .int .i64 (z2), .bool (false)] 28 (0, 0))); ac_rfl⟩)⟩
    · exact ⟨133, 26, .pointer (some ⟨b3, 0, none⟩), .pointer (some ⟨b3, 0, none⟩), rfl, fun w => by kernel_rfl, Spec.mem (A' := X * pts b1 (.cells #[.int .i64 (a), .int .i64 (x1), .int .i64 (x2), .bool (false)] 28 (0, 0)) * pts b2 (.cells #[.int .i64 (b), .int .i64 (y1), .int .i64 (y2), .bool (last)] 28 (0, 0)) * pts b3 (.cells #[.int .i64 (0), .int .i64 (z1), .int .i64 (z2), .bool (false)] 28 (0, 0))) (by dsimp only [M3]; ac_rfl) (s133.mono fun v' A' ⟨J, h1, h2⟩ => ⟨h1, J, by rw [h2]; show _ = X * J * (pts b1 (.cells #[.int .i64 (a), .int .i64 (x1), .int .i64 (x2), .bool (false)] 28 (0, 0)) * pts b2 (.cells #[.int .i64 (b), .int .i64 (y1), .int .i64 (y2), .bool (last)] 28 (0, 0)) * pts b3 (.cells #[.int .i64 (0), .int .i64 (z1), .int .i64 ((IntKind.i64.wrap (z2 + 1))), .bool (false)] 28 (0, 0))); ac_rfl⟩)⟩
  · rintro v' A' ⟨h1, J, h2⟩
    have e : [Value.iface 26 (.pointer (some ⟨b1, 0, none⟩)), .iface 26 (.pointer (some ⟨b2, 0, none⟩)), .iface 26 (.pointer (some ⟨b3, 0, none⟩))].length = 3 := rfl
    rw [e, hf] at h1 h2
    exact ⟨ownsP ps * J, h1, by rw [h2]; dsimp only [M3]; ac_rfl⟩
end
end Go.Proofs.Yteopadjihklkmaa
