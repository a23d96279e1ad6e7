/- The ledger's examples; laws of posting. -/
import Derived.Test.YtegbfnibjgpbpaaLg5
namespace Go.Proofs.Ytegbfnibjgpbpaa
open Go Go.Proofs
set_option maxRecDepth 100000
set_option maxHeartbeats 4000000
set_option linter.unusedSimpArgs false
theorem Fl_drop {α : Type} {enc : α → List Value} {s : Nat} (h : ∀ x, (enc x).length = s) : ∀ (xs : List α) (i : Nat), (Fl enc xs).drop (i * s) = Fl enc (xs.drop i)
  | xs, 0 => by simp
  | [], i + 1 => by simp [Fl]
  | x :: r, i + 1 => by
    rw [show Fl enc (x :: r) = enc x ++ Fl enc r from rfl, show (i + 1) * s = (enc x).length + i * s by rw [h x, Nat.succ_mul, Nat.add_comm], List.drop_append, List.drop_eq_nil_of_le (by omega), List.nil_append]
    rw [show (enc x).length + i * s - (enc x).length = i * s by omega, Fl_drop h r i]
    rfl
theorem Fl_take {α : Type} {enc : α → List Value} {s : Nat} (h : ∀ x, (enc x).length = s) : ∀ (xs : List α) (i : Nat), (Fl enc xs).take (i * s) = Fl enc (xs.take i)
  | xs, 0 => by simp [Fl]
  | [], i + 1 => by simp [Fl]
  | x :: r, i + 1 => by
    rw [show Fl enc (x :: r) = enc x ++ Fl enc r from rfl, show (i + 1) * s = (enc x).length + i * s by rw [h x, Nat.succ_mul, Nat.add_comm], List.take_append, List.take_of_length_le (by omega)]
    rw [show (enc x).length + i * s - (enc x).length = i * s by omega, Fl_take h r i]
    rfl
theorem Rd.cutFl {α : Type} {enc : α → List Value} {s m i j : Nat} {w0 : World} {A : Asn} {v : Value} {xs : List α} (h : ∀ x, (enc x).length = s) (rd : Rd w0 A v s m (Fl enc xs)) (h1 : i ≤ j) (h2 : j ≤ m) :
    Rd w0 A (Go.Proofs.Ytegbfnibjgpbpaa.cutV v i j s) s (j - i) (Fl enc ((xs.drop i).take (j - i))) := by
  have := Rd.cutV rd h1 h2
  rwa [Fl_drop h, Fl_take h] at this
theorem take_one {α : Type} [Inhabited α] {l : List α} {i : Nat} (h : i < l.length) : (l.drop i).take 1 = [l.getD i default] := by
  rw [drop_next h]; rfl
theorem rightB_ct {n : Nat} {p q : Po} (h : ct p = ct q) : rightB n p = rightB n q := by
  simp only [ct, Prod.mk.injEq] at h
  rw [rightB, rightB, h.1, h.2.1, h.2.2]
theorem postF_ct {n : Nat} {ks : List (Int × Int)} : ∀ {ps qs : List Po} {bal : List Int} {fr : List (Int × Int)}, ps.map ct = qs.map ct → postF n ks bal fr ps = postF n ks bal fr qs
  | [], [], _, _, _ => rfl
  | [], _ :: _, _, _, h => by simp at h
  | _ :: _, [], _, _, h => by simp at h
  | p :: r, q :: t, bal, fr, h => by
    simp only [List.map_cons, List.cons.injEq] at h
    have h1 := h.1
    simp only [ct, Prod.mk.injEq] at h1
    simp only [postF, rightB_ct h.1, h1.1, h1.2.1, h1.2.2]
    congr 1
    funext
    congr 1
    cases addsO bal q.2.2.2 with
    | none => rfl
    | some b => exact postF_ct h.2
theorem keyP_ct {ps qs : List Po} (h : ps.map ct = qs.map ct) : ps.map keyP = qs.map keyP := by
  have e : ∀ l : List Po, l.map keyP = (l.map ct).map fun c => (c.1, c.2.1) := fun l => by simp [keyP, ct]
  rw [e, e, h]
theorem postF_step {n : Nat} {ks fr : List (Int × Int)} {bal b : List Int} {p : Po} (r : List Po) (h : postF n (ks ++ fr) bal [] [p] = (0, b)) : postF n ks bal fr (p :: r) = postF n ks b (fr ++ [keyP p]) r := by
  simp only [postF, List.mem_append, List.not_mem_nil, or_false] at h ⊢
  by_cases h1 : rightB n p = true
  · rw [if_pos h1] at h ⊢
    by_cases h2 : (p.1, p.2.1) ∈ ks ∨ (p.1, p.2.1) ∈ fr
    · rw [if_pos h2] at h
      cases h
    · rw [if_neg h2] at h ⊢
      cases ha : addsO bal p.2.2.2 with
      | none => rw [ha] at h; cases h
      | some c =>
        rw [ha] at h
        simp only [Prod.mk.injEq, true_and] at h
        subst h
        rfl
  · rw [if_neg h1] at h
    cases h
theorem postF_fail {n : Nat} {ks fr : List (Int × Int)} {bal b : List Int} {p : Po} {e : Int} (r : List Po) (h : postF n (ks ++ fr) bal [] [p] = (e, b)) (he : e ≠ 0) : (postF n ks bal fr (p :: r)).1 = e := by
  simp only [postF, List.mem_append, List.not_mem_nil, or_false] at h ⊢
  by_cases h1 : rightB n p = true
  · rw [if_pos h1] at h ⊢
    by_cases h2 : (p.1, p.2.1) ∈ ks ∨ (p.1, p.2.1) ∈ fr
    · rw [if_pos h2] at h ⊢
      rw [h]
    · rw [if_neg h2] at h ⊢
      cases ha : addsO bal p.2.2.2 with
      | none =>
        rw [ha] at h
        exact congrArg Prod.fst h
      | some c =>
        rw [ha] at h
        simp only [Prod.mk.injEq] at h
        exact absurd h.1.symm he
  · rw [if_neg h1] at h ⊢
    rw [h]
theorem addsO_len : ∀ {l : List Sh} {bal b : List Int}, addsO bal l = some b → b.length = bal.length ∧ ((∀ z ∈ bal, inI z) → ∀ z ∈ b, inI z)
  | [], bal, b, h => by cases h; exact ⟨rfl, id⟩
  | s :: r, bal, b, h => by
    simp only [addsO] at h
    split at h
    · obtain ⟨h1, h2⟩ := addsO_len h
      exact ⟨by rw [h1, List.length_set], fun hb => h2 (set_in hb ‹_›)⟩
    · cases h
theorem postF_len {n : Nat} {ks : List (Int × Int)} : ∀ {ps : List Po} {bal b : List Int} {fr : List (Int × Int)}, postF n ks bal fr ps = (0, b) → b.length = bal.length ∧ ((∀ z ∈ bal, inI z) → ∀ z ∈ b, inI z)
  | [], bal, b, fr, h => by cases h; exact ⟨rfl, id⟩
  | p :: r, bal, b, fr, h => by
    simp only [postF] at h
    split at h
    · split at h
      · cases h
      · cases ha : addsO bal p.2.2.2 with
        | none => rw [ha] at h; cases h
        | some c =>
          rw [ha] at h
          obtain ⟨h1, h2⟩ := addsO_len ha
          obtain ⟨h3, h4⟩ := postF_len h
          exact ⟨h3.trans h1, fun hb => h4 (h2 hb)⟩
    · cases h
theorem zeros_in (n : Nat) : ∀ z ∈ List.replicate n (0 : Int), inI z := fun z hz => by
  rw [(List.mem_replicate.1 hz).2]; decide
section
variable {w0 : World} {A : Asn}
theorem s33b : Spec Try.prog w0 33 [.int .i64 2] A (fun v' A' => ∃ p av mb, v' = .tuple #[.pointer (some ⟨p, 0, none⟩), .int .i64 0] ∧ A' = A * pts p (.cells #[av, .map (some mb), (Value.slice none 0 0)] 109 (0, 0)) * own 3 1 av 3 (I ([0, 0, 0])) * setA mb ((List.nil : List (Int × Int))) * own 63 3 (Value.slice none 0 0) ((List.nil : List Po)).length (Fl encT63 ((List.nil : List Po))) * ownsP ((List.nil : List Po))) :=
  s33c (by decide) (by decide)
theorem s32 : Spec Try.prog w0 32 [] A (fun v' A' => ∃ J, v' = .bool true ∧ A' = A * J) := by
  refine Spec.of_run [] Try.func32 rfl (Nat.le_of_ble_eq_true rfl) (by repeat (first | exact trivial | refine ⟨rfl, ?_⟩)) ?_
  refine Run.seq ?_
  refine Run.region ?_
  refine RunL.ok (OpOk.assign rfl) rfl ?_
  refine RunL.nil ?_
  refine Run.seq ?_
  refine Run.region ?_
  refine RunL.call cal33 rfl (s33b) rfl (fun vx2 Ax2 hx2 => ?_)
  obtain ⟨x3, ⟨x4, ⟨x5, ⟨rfl, rfl⟩⟩⟩⟩ := hx2
  refine RunL.ok (OpOk.move rfl) rfl ?_
  refine RunL.ok (OpOk.ext20 rfl) rfl ?_
  refine RunL.ok (OpOk.ext21 rfl) rfl ?_
  refine RunL.ok (OpOk.assign rfl) rfl ?_
  refine RunL.ok (OpOk.assign rfl) rfl ?_
  refine RunL.nil ?_
  refine Run.seq ?_
  refine Run.region ?_
  refine RunL.ok (OpOk.build (cells := #[.int (IntKind.i64) (2), .int (IntKind.i64) (-10)]) rfl (fun w => run_build w 97 _ _ (by rfl))) rfl ?_
  refine RunL.ok (OpOk.build (cells := #[.int (IntKind.i64) (1), .int (IntKind.i64) (10)]) rfl (fun w => run_build w 97 _ _ (by rfl))) rfl ?_
  refine RunL.litFl (enc := encT97) [(2, -10), (1, 10)] rfl ti97 rfl (fun _ => rfl) rfl rfl (by decide) (by decide) rfl (fun vx6 rdx6 => ?_)
  refine RunL.know (fun w s => (s.conv rfl).ownRd0) (fun rdx7 => ?_)
  obtain ⟨adx8, capx8, rfl, hcapx8, hadx8⟩ := (rdx7).form
  refine RunL.ok (OpOk.build (cells := #[.int (IntKind.i64) (1), .int (IntKind.i64) (1), .slice (adx8) (2) (capx8)]) rfl (fun w => run_build w 63 _ _ (by rfl))) rfl ?_
  refine RunL.alloc ti63 rfl (fun bx9 => ?_)
  refine RunL.storeAll ti63 rfl rfl rfl (ones rfl) rfl rfl ?_
  refine RunL.nil ?_
  refine Run.seq ?_
  refine Run.region ?_
  refine RunL.ok (OpOk.move rfl) rfl ?_
  refine RunL.ok (OpOk.neqPN rfl rfl) rfl ?_
  refine RunL.ok (OpOk.move rfl) rfl ?_
  refine RunL.on rfl rfl ?_
  refine RunL.ok (OpOk.move rfl) rfl ?_
  refine RunL.on rfl rfl ?_
  refine RunL.ok (OpOk.asT (OpOk.eql rfl rfl) (by omega)) rfl ?_
  refine RunL.ok (OpOk.pickT rfl rfl) rfl ?_
  refine RunL.ok (OpOk.move rfl) rfl ?_
  refine RunL.on rfl rfl ?_
  refine RunL.ok (OpOk.move rfl) rfl ?_
  refine RunL.on rfl rfl ?_
  refine RunL.ok (OpOk.loadS rfl rfl ti63 rfl Blk.pts rfl) rfl ?_
  refine RunL.on rfl rfl ?_
  have al0 : Alls (GP w0) (own 97 2 (.slice adx8 2 capx8) 2 (Fl encT97 [(2, -10), (1, 10)])) [(1, 1, (⟨.slice adx8 2 capx8, rfl⟩ : SV), [(2, -10), (1, 10)])] := Alls.cons rdx7 Alls.nil
  have hin0 : ∀ q ∈ [((1, 1, (⟨.slice adx8 2 capx8, rfl⟩ : SV), [(2, -10), (1, 10)]) : Po)], ∀ s ∈ q.2.2.2, inI s.2 := fun q hq => by
    obtain rfl := List.mem_singleton.1 hq
    show ∀ s ∈ [((2, -10) : Sh), (1, 10)], inI s.2
    decide
  have hm0 : ∀ q ∈ [((1, 1, (⟨.slice adx8 2 capx8, rfl⟩ : SV), [(2, -10), (1, 10)]) : Po)], q.2.2.2.length ≤ 8796093022208 := fun q hq => by
    obtain rfl := List.mem_singleton.1 hq
    show 2 ≤ _
    decide
  have hb0 : ∀ z ∈ [(0 : Int), 0, 0], inI z := by decide
  have hb1 : ∀ z ∈ [(0 : Int), 10, -10], inI z := by decide
  have hp0 : postF 3 [] [0, 0, 0] [] [((1, 1, (⟨.slice adx8 2 capx8, rfl⟩ : SV), [(2, -10), (1, 10)]) : Po)] = (0, [0, 10, -10]) := rfl
  have hp1 : postF 3 ([] ++ List.map keyP [((1, 1, (⟨.slice adx8 2 capx8, rfl⟩ : SV), [(2, -10), (1, 10)]) : Po)]) [0, 10, -10] [] [((1, 1, (⟨.slice adx8 2 capx8, rfl⟩ : SV), [(2, -10), (1, 10)]) : Po)] = (22, [0, 10, -10]) := rfl
  refine RunL.litFl (enc := encT63) [(1, 1, (⟨.slice adx8 2 capx8, rfl⟩ : SV), [(2, -10), (1, 10)])] rfl ti63 rfl (fun _ => rfl) rfl rfl (by decide) (by decide) rfl (fun v23 rd23 => ?_)
  refine RunL.on rfl rfl ?_
  refine RunL.know (fun w s => (s.conv (frl (frl (frl rfl)))).ownsP0) (fun aly1 => ?_)
  refine RunL.know (fun w s => (s.conv rfl).ownRd0) (fun rdy2 => ?_)
  refine RunL.mem (frc (frl (frl (frl rfl))) (frc (frl (frl (frl rfl))) (frc (frl (frl (frl rfl))) (frc (frl (frl (frl rfl))) (frc (frl (frl (frl rfl))) rfl))))) ?_
  refine RunL.call cal34 rfl (s34a (Rd.right rdy2) (Alls.right al0).left.left (by assumption) (by assumption) (by assumption) rfl (by assumption) (by omega) (by simp)) rfl (fun vy3 Ay3 hy3 => ?_)
  obtain ⟨y4, ⟨y5, ⟨y6, ⟨y7, ⟨rfl, ⟨y8, rfl⟩⟩⟩⟩⟩⟩ := hy3
  refine RunL.on rfl rfl ?_
  refine RunL.ok (OpOk.asT (OpOk.eql rfl rfl) (by omega)) rfl ?_
  refine RunL.ok (OpOk.pickT rfl rfl) rfl ?_
  refine RunL.ok (OpOk.move rfl) rfl ?_
  refine RunL.on rfl rfl ?_
  refine RunL.ok (OpOk.move rfl) rfl ?_
  refine RunL.on rfl rfl ?_
  refine RunL.ok (OpOk.loadS rfl rfl ti63 rfl Blk.pts.left.left.left.left.left.left.left rfl) rfl ?_
  refine RunL.on rfl rfl ?_
  have hl6 : y6.length = 1 := by have := congrArg List.length y8; simpa using this
  refine RunL.litFl (enc := encT63) [(1, 1, (⟨.slice adx8 2 capx8, rfl⟩ : SV), [(2, -10), (1, 10)])] rfl ti63 rfl (fun _ => rfl) rfl rfl (by decide) (by decide) rfl (fun v24 rd24 => ?_)
  refine RunL.on rfl rfl ?_
  refine RunL.know (fun w s => (s.conv (frl rfl)).ownsP0) (fun alz1 => ?_)
  refine RunL.know (fun w s => (s.conv rfl).ownRd0) (fun rdz2 => ?_)
  refine RunL.mem (frc (frl rfl) (frc (frl rfl) (frc (frl rfl) (frc (frl rfl) (frc (frl rfl) rfl))))) ?_
  refine RunL.call cal34 rfl (s34b (Rd.right rdz2) (Alls.right al0).left.left.left.left (by assumption) (by omega) (by assumption) (by assumption) rfl (by assumption) (by omega) (by simp; omega)) rfl (fun vz4 Az4 hz4 => ?_)
  obtain ⟨z5, ⟨rfl, rfl⟩⟩ := hz4
  refine RunL.on rfl rfl ?_
  refine RunL.ok (OpOk.asT (OpOk.eql rfl rfl) (by omega)) rfl ?_
  refine RunL.ok (OpOk.pickT rfl rfl) rfl ?_
  refine RunL.ok (OpOk.move rfl) rfl ?_
  refine RunL.on rfl rfl ?_
  refine RunL.ok (OpOk.move rfl) rfl ?_
  refine RunL.on rfl rfl ?_
  refine RunL.call cal37 rfl (s37a (by decide) (by decide)) rfl (fun vz6 Az6 hz6 => ?_)
  obtain ⟨rfl, rfl⟩ := hz6
  refine RunL.on rfl rfl ?_
  refine RunL.ok (OpOk.eql rfl rfl) rfl ?_
  refine RunL.ok (OpOk.pickT rfl rfl) rfl ?_
  refine RunL.ok (OpOk.move rfl) rfl ?_
  refine RunL.on rfl rfl ?_
  refine RunL.ok (OpOk.move rfl) rfl ?_
  refine RunL.on rfl rfl ?_
  refine RunL.call cal37 rfl (s37a (by decide) (by decide)) rfl (fun vz7 Az7 hz7 => ?_)
  obtain ⟨rfl, rfl⟩ := hz7
  refine RunL.on rfl rfl ?_
  refine RunL.ok (OpOk.eql rfl rfl) rfl ?_
  refine RunL.ok (OpOk.pickT rfl rfl) rfl ?_
  refine RunL.ok (OpOk.move rfl) rfl ?_
  refine RunL.on rfl rfl ?_
  refine RunL.ok (OpOk.move rfl) rfl ?_
  refine RunL.on rfl rfl ?_
  refine RunL.call cal39 rfl (s39) rfl (fun vz8 Az8 hz8 => ?_)
  obtain ⟨rfl, rfl⟩ := hz8
  refine RunL.ok (OpOk.pickT rfl rfl) rfl ?_
  refine RunL.ok (OpOk.assign rfl) rfl ?_
  refine RunL.nil ?_
  refine Run.ret1 Try.func32 rfl rfl ?_
  exact ⟨_, rfl, (asg (asg (asg (asg (asg (asg (asg (asg (asg (asg as1))))))))))⟩
end
end Go.Proofs.Ytegbfnibjgpbpaa
