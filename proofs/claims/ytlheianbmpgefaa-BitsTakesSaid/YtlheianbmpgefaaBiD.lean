/- The law of takes, walked. -/
import Derived.Test.YtlheianbmpgefaaBiA
import Derived.Test.YtlheianbmpgefaaBiS
namespace Go.Proofs.Ytlheianbmpgefaa
open Go Go.Proofs
set_option maxRecDepth 100000
set_option maxHeartbeats 4000000
def encVL (p : Value × List Int) : List Value := [p.1]
theorem Fl_VL : ∀ (l : List (Value × List Int)) (i : Nat), i < l.length → (Fl encVL l)[i]? = some (l.getD i default).1
  | [], i, h => by simp at h
  | p :: r, 0, _ => rfl
  | p :: r, i + 1, h => Fl_VL r i (by simpa using h)
theorem bitsTakes_spec {w0 : World} {u1 u2 : Value} {xs : List UInt8} {wss : List (Value × List Int)} (rd : Rd w0 (old w0) u1 1 xs.length (B xs)) (rd2 : Rd w0 (old w0) u2 1 wss.length (Fl encVL wss))
    (hin : ∀ p ∈ wss, Rd w0 (old w0) p.1 1 p.2.length (I p.2)) (hsz : ∀ p ∈ wss, p.2.length ≤ 17592186044416) :
    Spec Try.prog w0 4 [u1, u2] (old w0) (fun v' A' => v' = .bool true ∧ Grew (old w0) A') := by
  have hmax := rd.max
  have hmax2 := rd2.max
  refine Spec.of_run [(0, u1), (1, u2)] Try.func4 rfl (Nat.le_of_ble_eq_true rfl) (by repeat (first | exact trivial | refine ⟨rfl, ?_⟩)) ?_
  refine Run.seq ?_
  refine Run.region ?_
  refine RunL.ok (OpOk.assign rfl) rfl ?_
  refine RunL.nil ?_
  refine Run.seq ?_
  refine Run.seq ?_
  refine Run.region ?_
  refine RunL.call cal15 rfl (s15) rfl (fun vx1 Ax1 hx1 => ?_)
  obtain ⟨x2, ⟨rfl, rfl⟩⟩ := hx1
  refine RunL.ok (OpOk.not rfl) rfl ?_
  refine RunL.ok (OpOk.move rfl) rfl ?_
  refine RunL.on rfl rfl ?_
  refine RunL.ok (OpOk.move rfl) rfl ?_
  refine RunL.on rfl rfl ?_
  refine RunL.ok (OpOk.lenR rfl rfl rd.left rfl) rfl ?_
  refine RunL.on rfl rfl ?_
  refine RunL.ok (OpOk.gtr rfl rfl) rfl ?_
  refine RunL.ok (OpOk.pickF rfl rfl) rfl ?_
  refine RunL.nil ?_
  refine Run.condD rfl (fun x3 => ?_) (fun x3 => ?_)
  · refine Run.seq ?_
    refine Run.region ?_
    refine RunL.call cal15 rfl (s15) rfl (fun vx4 Ax4 hx4 => ?_)
    obtain ⟨x5, ⟨rfl, rfl⟩⟩ := hx4
    refine RunL.ok (OpOk.assign rfl) rfl ?_
    refine RunL.nil ?_
    refine Run.ret1 Try.func4 rfl rfl ?_
    exact ⟨rfl, ⟨_, (asg as1)⟩⟩
  refine Run.skip ?_
  refine Run.seq ?_
  refine Run.region ?_
  refine RunL.lit0B rfl ti5 rfl (fun vx6 rdx6 => ?_)
  refine RunL.ok (OpOk.move rfl) rfl ?_
  refine RunL.appendB0 rfl ti5 rfl rfl rfl rfl rd.left.left (by omega) rfl (fun vx7 rdx7 => ?_)
  refine RunL.ok (OpOk.assign rfl) rfl ?_
  refine RunL.nil ?_
  refine Run.seq ?_
  refine Run.region ?_
  refine RunL.ok (OpOk.move rfl) rfl ?_
  refine RunL.know (fun w s => (s.conv rfl).ownRd0) (fun rdx8 => ?_)
  refine RunL.call cal21 rfl (s21 (Rd.right rdx8) (by omega)) rfl (fun vx9 Ax9 hx9 => ?_)
  obtain ⟨x10, ⟨x11, ⟨rfl, rfl⟩⟩⟩ := hx9
  refine RunL.ok (OpOk.assign rfl) rfl ?_
  refine RunL.nil ?_
  refine Run.seq ?_
  refine Run.seq ?_
  refine Run.region ?_
  refine RunL.ok (OpOk.move rfl) rfl ?_
  refine RunL.ok (OpOk.eqlPN rfl rfl) rfl ?_
  refine RunL.nil ?_
  refine Run.condF rfl ?_
  refine Run.skip ?_
  refine Run.seq ?_
  refine Run.seq ?_
  refine Run.region ?_
  refine RunL.ok (OpOk.assign rfl) rfl ?_
  refine RunL.nil ?_
  refine Run.block ?_
  refine Run.jump ((Run.loopJ (X := Nat × List UInt8) (fun x => [(7, .int .i64 x.1), (6, .pointer (some ⟨x10, 0, none⟩)), (5, vx7), (0, u1), (1, u2)]) (fun x => old w0 * x2 * own 5 1 vx7 xs.length (B x.2) * pts x10 (.cells #[x11, .int .i64 ((0 : Nat) : Int), .int .i64 (0)] 81 (0, 0)) * own 5 1 x11 (xs).length (B (xs))) (fun x => x.1 ≤ xs.length ∧ x.2.length = xs.length) (fun x => xs.length - x.1) (0, xs) ⟨Nat.zero_le _, rfl⟩ (fun x hx ih => ?_))) ⟨rfl, rfl, rfl, rfl, rfl, trivial⟩ ((Grew.refl _))
  obtain ⟨i, ys⟩ := x
  simp only at hx ih ⊢
  obtain ⟨hi, hl⟩ := hx
  rcases Nat.lt_or_ge i xs.length with hlt | hge
  · refine Run.seq ?_
    refine Run.seq ?_
    refine Run.region ?_
    refine RunL.ok (OpOk.move rfl) rfl ?_
    refine RunL.ok (OpOk.move rfl) rfl ?_
    refine RunL.know (fun w s => (s.conv (frl (frl rfl))).ownRd0) (fun rdy1 => ?_)
    refine RunL.ok (OpOk.lenR rfl rfl (Rd.right rdy1).left.left rfl) rfl ?_
    refine RunL.ok (OpOk.asT (OpOk.lss rfl rfl) (by omega)) rfl ?_
    refine RunL.nil ?_
    refine Run.condT rfl ?_
    refine Run.skip ?_
    refine Run.seq ?_
    refine Run.block ?_
    refine Run.region ?_
    refine RunL.ok (OpOk.move rfl) rfl ?_
    refine RunL.ok (OpOk.move rfl) rfl ?_
    refine RunL.ok (OpOk.move rfl) rfl ?_
    refine RunL.ok (OpOk.move rfl) rfl ?_
    refine RunL.ok (OpOk.idx1N rfl ti5 rfl (Rd.right rdy1).left.left rfl (by omega)) rfl ?_
    refine RunL.ok (OpOk.load rfl rfl rfl (Rd.getB (Rd.right rdy1).left.left (by omega))) rfl ?_
    refine RunL.ok (OpOk.xor rfl rfl (x255 _)) rfl ?_
    refine RunL.ok (OpOk.idx1N rfl ti5 rfl (Rd.right rdy1).left.left rfl (by omega)) rfl ?_
    refine RunL.storeB _ ti5 rfl rfl rfl (frl (frl rfl)) (by omega) ?_
    refine RunL.nil ?_
    refine Run.inBlock ?_
    refine Run.region ?_
    refine RunL.ok (OpOk.move rfl) rfl ?_
    refine RunL.ok (OpOk.addN _ 1 rfl rfl rfl rfl (by omega)) rfl ?_
    refine RunL.ok (OpOk.assign rfl) rfl ?_
    refine RunL.nil ?_
    refine Run.jump ((ih (i + 1, _) ⟨by simp; omega, by simp [hl]⟩ (by simp; omega))) ⟨rfl, rfl, rfl, rfl, rfl, trivial⟩ (Grew.of (frc (frl rfl) (frc (frl rfl) rfl)) (Grew.refl _))
  · obtain rfl : i = xs.length := by omega
    clear ih
    refine Run.seq ?_
    refine Run.seq ?_
    refine Run.region ?_
    refine RunL.ok (OpOk.move rfl) rfl ?_
    refine RunL.ok (OpOk.move rfl) rfl ?_
    refine RunL.know (fun w s => (s.conv (frl (frl rfl))).ownRd0) (fun rdy1 => ?_)
    refine RunL.ok (OpOk.lenR rfl rfl (Rd.right rdy1).left.left rfl) rfl ?_
    refine RunL.ok (OpOk.asF (OpOk.lss rfl rfl) (by omega)) rfl ?_
    refine RunL.nil ?_
    refine Run.condF rfl ?_
    refine Run.exit rfl ?_
    refine Run.seq ?_
    refine Run.region ?_
    refine RunL.ok (OpOk.move rfl) rfl ?_
    refine RunL.call cal22 rfl (s22 rd.left.left.left.left (by omega)) rfl (fun vy2 Ay2 hy2 => ?_)
    obtain ⟨rfl, rfl⟩ := hy2
    refine RunL.ok (OpOk.assign rfl) rfl ?_
    refine RunL.nil ?_
    refine Run.seq ?_
    refine Run.region ?_
    refine RunL.ok (OpOk.assign rfl) rfl ?_
    refine RunL.nil ?_
    refine Run.seq ?_
    refine Run.seq ?_
    refine Run.region ?_
    refine RunL.ok (OpOk.assign rfl) rfl ?_
    refine RunL.nil ?_
    refine Run.block ?_
    refine Run.jump ((Run.loopJ (X := Nat × Asn × Nat × Int) (fun x => [(10, .int .i64 x.1), (9, .int .i64 x.2.2.2), (8, S (txt ((bitsB xs).drop x.2.2.1))), (6, .pointer (some ⟨x10, 0, none⟩)), (0, u1), (1, u2)]) (fun x => old w0 * x.2.1 * pts x10 (.cells #[x11, .int .i64 ((x.2.2.1 : Nat) : Int), .int .i64 (x.2.2.2)] 81 (0, 0)) * own 5 1 x11 (xs).length (B (xs))) (fun x => x.1 ≤ wss.length ∧ x.2.2.1 ≤ 8 * xs.length) (fun x => wss.length - x.1) (0, x2, 0, 0) ⟨Nat.zero_le _, Nat.zero_le _⟩ (fun x hx ih => ?_))) ⟨rfl, rfl, rfl, rfl, rfl, rfl, trivial⟩ (Grew.of (frc (frl (frl rfl)) rfl) (Grew.mul (Grew.refl _) _))
    obtain ⟨i, J, a, e⟩ := x
    simp only at hx ih ⊢
    obtain ⟨hi, ha⟩ := hx
    have htl : (txt ((bitsB xs).drop a)).length = 8 * xs.length - a := by rw [txt_length, List.length_drop, bitsB_length]
    rcases Nat.lt_or_ge i wss.length with hlt | hge
    · have hmem : wss.getD i default ∈ wss := by rw [List.getD_eq_getElem?_getD, List.getElem?_eq_getElem hlt]; exact List.getElem_mem hlt
      have rd3 := hin _ hmem
      have hsz3 := hsz _ hmem
      have hv := Fl_VL wss i hlt
      refine Run.seq ?_
      refine Run.seq ?_
      refine Run.region ?_
      refine RunL.ok (OpOk.move rfl) rfl ?_
      refine RunL.ok (OpOk.move rfl) rfl ?_
      refine RunL.ok (OpOk.lenR rfl rfl rd2.left.left.left rfl) rfl ?_
      refine RunL.ok (OpOk.asT (OpOk.lss rfl rfl) (by omega)) rfl ?_
      refine RunL.ok (OpOk.move rfl) rfl ?_
      refine RunL.on rfl rfl ?_
      refine RunL.ok (OpOk.move rfl) rfl ?_
      refine RunL.on rfl rfl ?_
      refine RunL.ok (OpOk.lss rfl rfl) rfl ?_
      refine RunL.ok (OpOk.pickT rfl rfl) rfl ?_
      refine RunL.nil ?_
      refine Run.condD rfl (fun z1 => ?_) (fun z1 => ?_)
      · refine Run.skip ?_
        refine Run.seq ?_
        refine Run.block ?_
        refine Run.seq ?_
        refine Run.region ?_
        refine RunL.ok (OpOk.move rfl) rfl ?_
        refine RunL.ok (OpOk.move rfl) rfl ?_
        refine RunL.ok (OpOk.move rfl) rfl ?_
        refine RunL.ok (OpOk.idx1N rfl ti42 rfl rd2.left.left.left rfl (by omega)) rfl ?_
        refine RunL.ok (OpOk.load rfl rfl rfl (Rd.cell rd2.left.left.left (by first | assumption | rfl))) rfl ?_
        refine RunL.call cal23 rfl (s23 rd3.left (by omega) (by assumption) (by assumption)) rfl (fun vz2 Az2 hz2 => ?_)
        obtain rfl := hz2
        refine RunL.ok (OpOk.assign rfl) rfl ?_
        refine RunL.nil ?_
        refine Run.seq ?_
        refine Run.region ?_
        refine RunL.ok (OpOk.assign rfl) rfl ?_
        refine RunL.nil ?_
        refine Run.seq ?_
        refine Run.region ?_
        refine RunL.ok (OpOk.move rfl) rfl ?_
        refine RunL.ok (OpOk.assign rfl) rfl ?_
        refine RunL.ok (OpOk.assign rfl) rfl ?_
        refine RunL.nil ?_
        refine Run.seq ?_
        refine Run.seq ?_
        refine Run.region ?_
        refine RunL.ok (OpOk.assign rfl) rfl ?_
        refine RunL.nil ?_
        refine Run.block ?_
        refine Run.jump ((Run.loopJ (X := Nat) (fun k => [(15, .int .i64 (k : Int)), (14, .int .i64 (if ((wss.getD i default).2.take k).any badW then 2 else 0)), (13, S (txt ((bitsB xs).drop a))), (12, .slice none 0 0), (11, vz2), (10, .int .i64 (i : Int)), (9, .int .i64 e), (8, S (txt ((bitsB xs).drop a))), (6, .pointer (some ⟨x10, 0, none⟩)), (0, u1), (1, u2)]) (fun _ => old w0 * J * pts x10 (.cells #[x11, .int .i64 ((takeA xs a e (wss.getD i default).2 : Nat) : Int), .int .i64 (takeE xs a e (wss.getD i default).2)] 81 (0, 0)) * own 5 1 x11 (xs).length (B (xs)) * own 3 1 vz2 (takeL xs a e (wss.getD i default).2).length (I (takeL xs a e (wss.getD i default).2))) (fun k => k ≤ (wss.getD i default).2.length) (fun k => (wss.getD i default).2.length - k) 0 (Nat.zero_le _) (fun k hk ih2 => ?_))) ⟨rfl, rfl, rfl, rfl, rfl, rfl, rfl, rfl, rfl, rfl, rfl, trivial⟩ ((Grew.refl _))
        rcases Nat.lt_or_ge k (wss.getD i default).2.length with hk1 | hk1
        · have hb : ((wss.getD i default).2.take (k + 1)).any badW = (((wss.getD i default).2.take k).any badW || badW ((wss.getD i default).2.getD k default)) := by rw [take_next hk1, List.any_append]; simp
          have hd : (wss.getD i default).2.getD k 0 = (wss.getD i default).2.getD k default := rfl
          rcases Decidable.em ((wss.getD i default).2.getD k default < 1 ∨ 32 < (wss.getD i default).2.getD k default) with hbad | hbad
          · have h2 : (2 : Int) = (if ((wss.getD i default).2.take (k + 1)).any badW then 2 else 0) := by rw [hb, show badW ((wss.getD i default).2.getD k default) = true from decide_eq_true hbad, Bool.or_true]; rfl
            refine Run.seq ?_
            refine Run.seq ?_
            refine Run.region ?_
            refine RunL.ok (OpOk.move rfl) rfl ?_
            refine RunL.ok (OpOk.move rfl) rfl ?_
            refine RunL.ok (OpOk.move rfl) rfl ?_
            refine RunL.ok (OpOk.idx1N rfl ti42 rfl rd2.left.left.left.left rfl (by omega)) rfl ?_
            refine RunL.ok (OpOk.load rfl rfl rfl (Rd.cell rd2.left.left.left.left (by first | assumption | rfl))) rfl ?_
            refine RunL.ok (OpOk.lenR rfl rfl rd3.left.left.left.left rfl) rfl ?_
            refine RunL.ok (OpOk.asT (OpOk.lss rfl rfl) (by omega)) rfl ?_
            refine RunL.nil ?_
            refine Run.condT rfl ?_
            refine Run.skip ?_
            refine Run.seq ?_
            refine Run.block ?_
            refine Run.seq ?_
            refine Run.region ?_
            refine RunL.ok (OpOk.move rfl) rfl ?_
            refine RunL.ok (OpOk.move rfl) rfl ?_
            refine RunL.ok (OpOk.idx1N rfl ti42 rfl rd2.left.left.left.left rfl (by omega)) rfl ?_
            refine RunL.ok (OpOk.load rfl rfl rfl (Rd.cell rd2.left.left.left.left (by first | assumption | rfl))) rfl ?_
            refine RunL.ok (OpOk.move rfl) rfl ?_
            refine RunL.ok (OpOk.idx1N rfl ti3 rfl rd3.left.left.left.left rfl (by omega)) rfl ?_
            refine RunL.ok (OpOk.load rfl rfl rfl (Rd.getIE (by assumption) rd3.left.left.left.left (by omega))) rfl ?_
            refine RunL.ok (OpOk.lss rfl rfl) rfl ?_
            refine RunL.ok (OpOk.move rfl) rfl ?_
            refine RunL.splitD (t := 83) rfl (fun y1 => ?_) (fun y1 => ?_)
            · refine RunL.off rfl rfl rfl rfl ?_
              refine RunL.off rfl rfl rfl rfl ?_
              refine RunL.off rfl rfl rfl rfl ?_
              refine RunL.off rfl rfl rfl rfl ?_
              refine RunL.off rfl rfl rfl rfl ?_
              refine RunL.off rfl rfl rfl rfl ?_
              refine RunL.off rfl rfl rfl rfl ?_
              refine RunL.off rfl rfl rfl rfl ?_
              refine RunL.ok (OpOk.pickT rfl rfl) rfl ?_
              refine RunL.nil ?_
              refine Run.condT rfl ?_
              refine Run.region ?_
              refine RunL.ok (OpOk.assign rfl) rfl ?_
              refine RunL.nil ?_
              refine Run.inBlock ?_
              refine Run.region ?_
              refine RunL.ok (OpOk.move rfl) rfl ?_
              refine RunL.ok (OpOk.addN _ 1 rfl rfl rfl rfl (by omega)) rfl ?_
              refine RunL.ok (OpOk.assign rfl) rfl ?_
              refine RunL.nil ?_
              refine Run.jump ((ih2 (k + 1) (by omega) (by omega))) ⟨rfl, lkI rfl (by omega), rfl, rfl, rfl, rfl, rfl, rfl, rfl, rfl, rfl, trivial⟩ ((Grew.refl _))
            refine RunL.on rfl rfl ?_
            refine RunL.ok (OpOk.move rfl) rfl ?_
            refine RunL.on rfl rfl ?_
            refine RunL.ok (OpOk.move rfl) rfl ?_
            refine RunL.on rfl rfl ?_
            refine RunL.ok (OpOk.idx1N rfl ti42 rfl rd2.left.left.left.left rfl (by omega)) rfl ?_
            refine RunL.on rfl rfl ?_
            refine RunL.ok (OpOk.load rfl rfl rfl (Rd.cell rd2.left.left.left.left (by first | assumption | rfl))) rfl ?_
            refine RunL.on rfl rfl ?_
            refine RunL.ok (OpOk.move rfl) rfl ?_
            refine RunL.on rfl rfl ?_
            refine RunL.ok (OpOk.idx1N rfl ti3 rfl rd3.left.left.left.left rfl (by omega)) rfl ?_
            refine RunL.on rfl rfl ?_
            refine RunL.ok (OpOk.load rfl rfl rfl (Rd.getIE (by assumption) rd3.left.left.left.left (by omega))) rfl ?_
            refine RunL.on rfl rfl ?_
            refine RunL.ok (OpOk.asT (OpOk.gtr rfl rfl) (by omega)) rfl ?_
            refine RunL.ok (OpOk.pickF rfl rfl) rfl ?_
            refine RunL.nil ?_
            refine Run.condT rfl ?_
            refine Run.region ?_
            refine RunL.ok (OpOk.assign rfl) rfl ?_
            refine RunL.nil ?_
            refine Run.inBlock ?_
            refine Run.region ?_
            refine RunL.ok (OpOk.move rfl) rfl ?_
            refine RunL.ok (OpOk.addN _ 1 rfl rfl rfl rfl (by omega)) rfl ?_
            refine RunL.ok (OpOk.assign rfl) rfl ?_
            refine RunL.nil ?_
            refine Run.jump ((ih2 (k + 1) (by omega) (by omega))) ⟨rfl, lkI rfl (by omega), rfl, rfl, rfl, rfl, rfl, rfl, rfl, rfl, rfl, trivial⟩ ((Grew.refl _))
          · have h2 : (if ((wss.getD i default).2.take k).any badW then (2 : Int) else 0) = (if ((wss.getD i default).2.take (k + 1)).any badW then 2 else 0) := by rw [hb, show badW ((wss.getD i default).2.getD k default) = false from decide_eq_false hbad, Bool.or_false]
            refine Run.seq ?_
            refine Run.seq ?_
            refine Run.region ?_
            refine RunL.ok (OpOk.move rfl) rfl ?_
            refine RunL.ok (OpOk.move rfl) rfl ?_
            refine RunL.ok (OpOk.move rfl) rfl ?_
            refine RunL.ok (OpOk.idx1N rfl ti42 rfl rd2.left.left.left.left rfl (by omega)) rfl ?_
            refine RunL.ok (OpOk.load rfl rfl rfl (Rd.cell rd2.left.left.left.left (by first | assumption | rfl))) rfl ?_
            refine RunL.ok (OpOk.lenR rfl rfl rd3.left.left.left.left rfl) rfl ?_
            refine RunL.ok (OpOk.asT (OpOk.lss rfl rfl) (by omega)) rfl ?_
            refine RunL.nil ?_
            refine Run.condT rfl ?_
            refine Run.skip ?_
            refine Run.seq ?_
            refine Run.block ?_
            refine Run.seq ?_
            refine Run.region ?_
            refine RunL.ok (OpOk.move rfl) rfl ?_
            refine RunL.ok (OpOk.move rfl) rfl ?_
            refine RunL.ok (OpOk.idx1N rfl ti42 rfl rd2.left.left.left.left rfl (by omega)) rfl ?_
            refine RunL.ok (OpOk.load rfl rfl rfl (Rd.cell rd2.left.left.left.left (by first | assumption | rfl))) rfl ?_
            refine RunL.ok (OpOk.move rfl) rfl ?_
            refine RunL.ok (OpOk.idx1N rfl ti3 rfl rd3.left.left.left.left rfl (by omega)) rfl ?_
            refine RunL.ok (OpOk.load rfl rfl rfl (Rd.getIE (by assumption) rd3.left.left.left.left (by omega))) rfl ?_
            refine RunL.ok (OpOk.asF (OpOk.lss rfl rfl) (by omega)) rfl ?_
            refine RunL.ok (OpOk.move rfl) rfl ?_
            refine RunL.on rfl rfl ?_
            refine RunL.ok (OpOk.move rfl) rfl ?_
            refine RunL.on rfl rfl ?_
            refine RunL.ok (OpOk.move rfl) rfl ?_
            refine RunL.on rfl rfl ?_
            refine RunL.ok (OpOk.idx1N rfl ti42 rfl rd2.left.left.left.left rfl (by omega)) rfl ?_
            refine RunL.on rfl rfl ?_
            refine RunL.ok (OpOk.load rfl rfl rfl (Rd.cell rd2.left.left.left.left (by first | assumption | rfl))) rfl ?_
            refine RunL.on rfl rfl ?_
            refine RunL.ok (OpOk.move rfl) rfl ?_
            refine RunL.on rfl rfl ?_
            refine RunL.ok (OpOk.idx1N rfl ti3 rfl rd3.left.left.left.left rfl (by omega)) rfl ?_
            refine RunL.on rfl rfl ?_
            refine RunL.ok (OpOk.load rfl rfl rfl (Rd.getIE (by assumption) rd3.left.left.left.left (by omega))) rfl ?_
            refine RunL.on rfl rfl ?_
            refine RunL.ok (OpOk.asF (OpOk.gtr rfl rfl) (by omega)) rfl ?_
            refine RunL.ok (OpOk.pickF rfl rfl) rfl ?_
            refine RunL.nil ?_
            refine Run.condF rfl ?_
            refine Run.skip ?_
            refine Run.inBlock ?_
            refine Run.region ?_
            refine RunL.ok (OpOk.move rfl) rfl ?_
            refine RunL.ok (OpOk.addN _ 1 rfl rfl rfl rfl (by omega)) rfl ?_
            refine RunL.ok (OpOk.assign rfl) rfl ?_
            refine RunL.nil ?_
            refine Run.jump ((ih2 (k + 1) (by omega) (by omega))) ⟨rfl, lkI rfl (by omega), rfl, rfl, rfl, rfl, rfl, rfl, rfl, rfl, rfl, trivial⟩ ((Grew.refl _))
        · obtain rfl : k = (wss.getD i default).2.length := by omega
          rw [List.take_length]
          clear ih2
          have hnl := nums_length xs a (wss.getD i default).2
          generalize hws : (wss.getD i default).2 = ws at *
          generalize huw : (wss.getD i default).1 = uw at *
          rcases Bool.eq_false_or_eq_true (ws.any badW) with hg | hg
          · have hpos : 0 < ws.length := by
              cases ws with
              | nil => simp at hg
              | cons w r => simp
            rw [hg]
            simp only [if_true]
            refine Run.seq ?_
            refine Run.seq ?_
            refine Run.region ?_
            refine RunL.ok (OpOk.move rfl) rfl ?_
            refine RunL.ok (OpOk.move rfl) rfl ?_
            refine RunL.ok (OpOk.move rfl) rfl ?_
            refine RunL.ok (OpOk.idx1N rfl ti42 rfl rd2.left.left.left.left rfl (by omega)) rfl ?_
            refine RunL.ok (OpOk.load rfl rfl rfl (Rd.cell rd2.left.left.left.left (by first | assumption | rfl))) rfl ?_
            refine RunL.ok (OpOk.lenR rfl rfl rd3.left.left.left.left rfl) rfl ?_
            refine RunL.ok (OpOk.asF (OpOk.lss rfl rfl) (by omega)) rfl ?_
            refine RunL.nil ?_
            refine Run.condF rfl ?_
            refine Run.exit rfl ?_
            refine Run.seq ?_
            refine Run.seq ?_
            refine Run.region ?_
            refine RunL.ok (OpOk.assign rfl) rfl ?_
            refine RunL.nil ?_
            refine Run.block ?_
            refine Run.jump ((Run.loopJ (X := Nat) (fun _ => [(16, .int .i64 0), (14, .int .i64 2), (13, S (txt ((bitsB xs).drop a))), (12, .slice none 0 0), (11, vz2), (10, .int .i64 (i : Int)), (9, .int .i64 e), (8, S (txt ((bitsB xs).drop a))), (6, .pointer (some ⟨x10, 0, none⟩)), (0, u1), (1, u2)]) (fun _ => old w0 * J * pts x10 (.cells #[x11, .int .i64 ((takeA xs a e ws : Nat) : Int), .int .i64 (takeE xs a e ws)] 81 (0, 0)) * own 5 1 x11 (xs).length (B (xs)) * own 3 1 vz2 (takeL xs a e ws).length (I (takeL xs a e ws))) (fun k => k = 0) (fun k => k) 0 rfl (fun k hk ih3 => ?_))) ⟨rfl, rfl, rfl, rfl, rfl, rfl, rfl, rfl, rfl, rfl, rfl, trivial⟩ ((Grew.refl _))
            clear ih3
            rcases Decidable.em (e = 0) with he | he
            · have hE : takeE xs a e ws = 2 := by simp [takeE, he, hg]
              have hA : takeA xs a e ws = a := by rw [takeA, if_neg (by rw [hE]; decide)]
              have hL : takeL xs a e ws = [] := by rw [takeL, if_neg (by rw [hE]; decide)]
              rw [hE, hA, hL, List.length_nil]
              refine Run.seq ?_
              refine Run.seq ?_
              refine Run.region ?_
              refine RunL.ok (OpOk.move rfl) rfl ?_
              refine RunL.ok (OpOk.move rfl) rfl ?_
              refine RunL.ok (OpOk.move rfl) rfl ?_
              refine RunL.ok (OpOk.idx1N rfl ti42 rfl rd2.left.left.left.left rfl (by omega)) rfl ?_
              refine RunL.ok (OpOk.load rfl rfl rfl (Rd.cell rd2.left.left.left.left (by first | assumption | rfl))) rfl ?_
              refine RunL.ok (OpOk.lenR rfl rfl rd3.left.left.left.left rfl) rfl ?_
              refine RunL.ok (OpOk.asT (OpOk.lss rfl rfl) (by omega)) rfl ?_
              refine RunL.ok (OpOk.move rfl) rfl ?_
              refine RunL.on rfl rfl ?_
              refine RunL.ok (OpOk.move rfl) rfl ?_
              refine RunL.on rfl rfl ?_
              refine RunL.ok (OpOk.asF (OpOk.eql rfl rfl) (by omega)) rfl ?_
              refine RunL.ok (OpOk.pickT rfl rfl) rfl ?_
              refine RunL.nil ?_
              refine Run.condF rfl ?_
              refine Run.exit rfl ?_
              refine Run.seq ?_
              refine Run.seq ?_
              refine Run.region ?_
              refine RunL.ok (OpOk.move rfl) rfl ?_
              refine RunL.ok (OpOk.asT (OpOk.eql rfl rfl) (by omega)) rfl ?_
              refine RunL.nil ?_
              refine Run.condT rfl ?_
              refine Run.region ?_
              refine RunL.ok (OpOk.move rfl) rfl ?_
              refine RunL.ok (OpOk.assign rfl) rfl ?_
              refine RunL.nil ?_
              refine Run.seq ?_
              refine Run.seq ?_
              refine Run.region ?_
              refine RunL.ok (OpOk.move rfl) rfl ?_
              refine RunL.ok (OpOk.as (c := true) (OpOk.neq rfl rfl) (by rw [decide_eq_false (by omega)]; rfl)) rfl ?_
              refine RunL.nil ?_
              refine Run.condT rfl ?_
              refine Run.region ?_
              refine RunL.ok (OpOk.assign rfl) rfl ?_
              refine RunL.nil ?_
              refine Run.seq ?_
              refine Run.seq ?_
              refine Run.region ?_
              refine RunL.ok (OpOk.move rfl) rfl ?_
              refine RunL.mem (frc (frl rfl) (frc (frl rfl) rfl)) ?_
              refine RunL.call cal25 rfl (s25) rfl (fun vt1 At1 ht1 => ?_)
              obtain ⟨rfl, rfl⟩ := ht1
              refine RunL.ok (OpOk.move rfl) rfl ?_
              refine RunL.ok (OpOk.as (c := false) (OpOk.neq rfl rfl) (by rw [decide_eq_true (by omega)]; rfl)) rfl ?_
              refine RunL.ok (OpOk.move rfl) rfl ?_
              refine RunL.on rfl rfl ?_
              refine RunL.ok (OpOk.move rfl) rfl ?_
              refine RunL.on rfl rfl ?_
              refine RunL.call cal26 rfl (s26 (by omega) (by assumption)) rfl (fun vt2 At2 ht2 => ?_)
              obtain ⟨rfl, rfl⟩ := ht2
              refine RunL.on rfl rfl ?_
              refine RunL.ok (OpOk.move rfl) rfl ?_
              refine RunL.on rfl rfl ?_
              refine RunL.ok (OpOk.lenSS rfl rfl rfl) rfl ?_
              refine RunL.on rfl rfl ?_
              refine RunL.ok (OpOk.as (c := false) (OpOk.neq rfl rfl) (by rw [decide_eq_true (by omega)]; rfl)) rfl ?_
              refine RunL.ok (OpOk.pickF rfl rfl) rfl ?_
              refine RunL.ok (OpOk.move rfl) rfl ?_
              refine RunL.on rfl rfl ?_
              refine RunL.ok (OpOk.move rfl) rfl ?_
              refine RunL.on rfl rfl ?_
              refine RunL.know (fun w s => (s.conv (frl (frl rfl))).ownRd0) (fun rdt3 => ?_)
              refine RunL.ok (OpOk.lenR rfl rfl (Rd.right rdt3).left.left rfl) rfl ?_
              refine RunL.on rfl rfl ?_
              refine RunL.ok (OpOk.move rfl) rfl ?_
              refine RunL.on rfl rfl ?_
              refine RunL.ok (OpOk.lenV rfl rfl rfl) rfl ?_
              refine RunL.on rfl rfl ?_
              refine RunL.ok (OpOk.as (c := false) (OpOk.neq rfl rfl) (by rw [decide_eq_true (by omega)]; rfl)) rfl ?_
              refine RunL.ok (OpOk.pickF rfl rfl) rfl ?_
              refine RunL.nil ?_
              refine Run.condF rfl ?_
              refine Run.skip ?_
              refine Run.seq ?_
              refine Run.region ?_
              refine RunL.ok (OpOk.assign rfl) rfl ?_
              refine RunL.nil ?_
              refine Run.block ?_
              refine Run.jump ((Run.loopJ (X := Nat) (fun _ => [(17, .int .i64 0), (12, .slice none 0 0), (11, vz2), (10, .int .i64 (i : Int)), (9, .int .i64 2), (8, S (txt ((bitsB xs).drop a))), (6, .pointer (some ⟨x10, 0, none⟩)), (0, u1), (1, u2)]) (fun _ => old w0 * J * pts x10 (.cells #[x11, .int .i64 ((a : Nat) : Int), .int .i64 (2)] 81 (0, 0)) * own 5 1 x11 (xs).length (B (xs)) * own 3 1 vz2 0 (I [])) (fun k => k = 0) (fun k => k) 0 rfl (fun k hk ih3 => ?_))) ⟨rfl, rfl, rfl, rfl, rfl, rfl, rfl, rfl, rfl, trivial⟩ (Grew.of (frc (frl (frl rfl)) rfl) (Grew.refl _))
              clear ih3
              refine Run.seq ?_
              refine Run.seq ?_
              refine Run.region ?_
              refine RunL.ok (OpOk.move rfl) rfl ?_
              refine RunL.ok (OpOk.move rfl) rfl ?_
              refine RunL.ok (OpOk.lenR rfl rfl (Rd.right rdt3) rfl) rfl ?_
              refine RunL.ok (OpOk.asF (OpOk.lss rfl rfl) (by omega)) rfl ?_
              refine RunL.nil ?_
              refine Run.condF rfl ?_
              refine Run.exit rfl ?_
              refine Run.inBlock ?_
              refine Run.region ?_
              refine RunL.ok (OpOk.move rfl) rfl ?_
              refine RunL.ok (OpOk.addN _ 1 rfl rfl rfl rfl (by omega)) rfl ?_
              refine RunL.ok (OpOk.assign rfl) rfl ?_
              refine RunL.nil ?_
              refine Run.jump ((ih (i + 1, J, a, 2) ⟨by simp; omega, by simpa using ha⟩ (by simp; omega))) ⟨rfl, rfl, rfl, rfl, rfl, rfl, trivial⟩ ((Grew.mul (Grew.refl _) _))
            · have hE : takeE xs a e ws = e := by simp [takeE, he]
              have hA : takeA xs a e ws = a := by rw [takeA, if_neg (by rw [hE]; exact he)]
              have hL : takeL xs a e ws = [] := by rw [takeL, if_neg (by rw [hE]; exact he)]
              rw [hE, hA, hL, List.length_nil]
              refine Run.seq ?_
              refine Run.seq ?_
              refine Run.region ?_
              refine RunL.ok (OpOk.move rfl) rfl ?_
              refine RunL.ok (OpOk.move rfl) rfl ?_
              refine RunL.ok (OpOk.move rfl) rfl ?_
              refine RunL.ok (OpOk.idx1N rfl ti42 rfl rd2.left.left.left.left rfl (by omega)) rfl ?_
              refine RunL.ok (OpOk.load rfl rfl rfl (Rd.cell rd2.left.left.left.left (by first | assumption | rfl))) rfl ?_
              refine RunL.ok (OpOk.lenR rfl rfl rd3.left.left.left.left rfl) rfl ?_
              refine RunL.ok (OpOk.asT (OpOk.lss rfl rfl) (by omega)) rfl ?_
              refine RunL.ok (OpOk.move rfl) rfl ?_
              refine RunL.on rfl rfl ?_
              refine RunL.ok (OpOk.move rfl) rfl ?_
              refine RunL.on rfl rfl ?_
              refine RunL.ok (OpOk.asF (OpOk.eql rfl rfl) (by omega)) rfl ?_
              refine RunL.ok (OpOk.pickT rfl rfl) rfl ?_
              refine RunL.nil ?_
              refine Run.condF rfl ?_
              refine Run.exit rfl ?_
              refine Run.seq ?_
              refine Run.seq ?_
              refine Run.region ?_
              refine RunL.ok (OpOk.move rfl) rfl ?_
              refine RunL.ok (OpOk.asF (OpOk.eql rfl rfl) (by omega)) rfl ?_
              refine RunL.nil ?_
              refine Run.condF rfl ?_
              refine Run.skip ?_
              refine Run.seq ?_
              refine Run.seq ?_
              refine Run.region ?_
              refine RunL.ok (OpOk.move rfl) rfl ?_
              refine RunL.ok (OpOk.as (c := true) (OpOk.neq rfl rfl) (by rw [decide_eq_false (by omega)]; rfl)) rfl ?_
              refine RunL.nil ?_
              refine Run.condT rfl ?_
              refine Run.region ?_
              refine RunL.ok (OpOk.assign rfl) rfl ?_
              refine RunL.nil ?_
              refine Run.seq ?_
              refine Run.seq ?_
              refine Run.region ?_
              refine RunL.ok (OpOk.move rfl) rfl ?_
              refine RunL.mem (frc (frl rfl) (frc (frl rfl) rfl)) ?_
              refine RunL.call cal25 rfl (s25) rfl (fun vt1 At1 ht1 => ?_)
              obtain ⟨rfl, rfl⟩ := ht1
              refine RunL.ok (OpOk.move rfl) rfl ?_
              refine RunL.ok (OpOk.as (c := false) (OpOk.neq rfl rfl) (by rw [decide_eq_true (by omega)]; rfl)) rfl ?_
              refine RunL.ok (OpOk.move rfl) rfl ?_
              refine RunL.on rfl rfl ?_
              refine RunL.ok (OpOk.move rfl) rfl ?_
              refine RunL.on rfl rfl ?_
              refine RunL.call cal26 rfl (s26 (by omega) (by assumption)) rfl (fun vt2 At2 ht2 => ?_)
              obtain ⟨rfl, rfl⟩ := ht2
              refine RunL.on rfl rfl ?_
              refine RunL.ok (OpOk.move rfl) rfl ?_
              refine RunL.on rfl rfl ?_
              refine RunL.ok (OpOk.lenSS rfl rfl rfl) rfl ?_
              refine RunL.on rfl rfl ?_
              refine RunL.ok (OpOk.as (c := false) (OpOk.neq rfl rfl) (by rw [decide_eq_true (by omega)]; rfl)) rfl ?_
              refine RunL.ok (OpOk.pickF rfl rfl) rfl ?_
              refine RunL.ok (OpOk.move rfl) rfl ?_
              refine RunL.on rfl rfl ?_
              refine RunL.ok (OpOk.move rfl) rfl ?_
              refine RunL.on rfl rfl ?_
              refine RunL.know (fun w s => (s.conv (frl (frl rfl))).ownRd0) (fun rdt3 => ?_)
              refine RunL.ok (OpOk.lenR rfl rfl (Rd.right rdt3).left.left rfl) rfl ?_
              refine RunL.on rfl rfl ?_
              refine RunL.ok (OpOk.move rfl) rfl ?_
              refine RunL.on rfl rfl ?_
              refine RunL.ok (OpOk.lenV rfl rfl rfl) rfl ?_
              refine RunL.on rfl rfl ?_
              refine RunL.ok (OpOk.as (c := false) (OpOk.neq rfl rfl) (by rw [decide_eq_true (by omega)]; rfl)) rfl ?_
              refine RunL.ok (OpOk.pickF rfl rfl) rfl ?_
              refine RunL.nil ?_
              refine Run.condF rfl ?_
              refine Run.skip ?_
              refine Run.seq ?_
              refine Run.region ?_
              refine RunL.ok (OpOk.assign rfl) rfl ?_
              refine RunL.nil ?_
              refine Run.block ?_
              refine Run.jump ((Run.loopJ (X := Nat) (fun _ => [(17, .int .i64 0), (12, .slice none 0 0), (11, vz2), (10, .int .i64 (i : Int)), (9, .int .i64 e), (8, S (txt ((bitsB xs).drop a))), (6, .pointer (some ⟨x10, 0, none⟩)), (0, u1), (1, u2)]) (fun _ => old w0 * J * pts x10 (.cells #[x11, .int .i64 ((a : Nat) : Int), .int .i64 (e)] 81 (0, 0)) * own 5 1 x11 (xs).length (B (xs)) * own 3 1 vz2 0 (I [])) (fun k => k = 0) (fun k => k) 0 rfl (fun k hk ih3 => ?_))) ⟨rfl, rfl, rfl, rfl, rfl, rfl, rfl, rfl, rfl, trivial⟩ (Grew.of (frc (frl (frl rfl)) rfl) (Grew.refl _))
              clear ih3
              refine Run.seq ?_
              refine Run.seq ?_
              refine Run.region ?_
              refine RunL.ok (OpOk.move rfl) rfl ?_
              refine RunL.ok (OpOk.move rfl) rfl ?_
              refine RunL.ok (OpOk.lenR rfl rfl (Rd.right rdt3) rfl) rfl ?_
              refine RunL.ok (OpOk.asF (OpOk.lss rfl rfl) (by omega)) rfl ?_
              refine RunL.nil ?_
              refine Run.condF rfl ?_
              refine Run.exit rfl ?_
              refine Run.inBlock ?_
              refine Run.region ?_
              refine RunL.ok (OpOk.move rfl) rfl ?_
              refine RunL.ok (OpOk.addN _ 1 rfl rfl rfl rfl (by omega)) rfl ?_
              refine RunL.ok (OpOk.assign rfl) rfl ?_
              refine RunL.nil ?_
              refine Run.jump ((ih (i + 1, J, a, e) ⟨by simp; omega, by simpa using ha⟩ (by simp; omega))) ⟨rfl, rfl, rfl, rfl, rfl, rfl, trivial⟩ ((Grew.mul (Grew.refl _) _))
          · rw [hg]
            simp only [Bool.false_eq_true, if_false]
            refine Run.seq ?_
            refine Run.seq ?_
            refine Run.region ?_
            refine RunL.ok (OpOk.move rfl) rfl ?_
            refine RunL.ok (OpOk.move rfl) rfl ?_
            refine RunL.ok (OpOk.move rfl) rfl ?_
            refine RunL.ok (OpOk.idx1N rfl ti42 rfl rd2.left.left.left.left rfl (by omega)) rfl ?_
            refine RunL.ok (OpOk.load rfl rfl rfl (Rd.cell rd2.left.left.left.left (by first | assumption | rfl))) rfl ?_
            refine RunL.ok (OpOk.lenR rfl rfl rd3.left.left.left.left rfl) rfl ?_
            refine RunL.ok (OpOk.asF (OpOk.lss rfl rfl) (by omega)) rfl ?_
            refine RunL.nil ?_
            refine Run.condF rfl ?_
            refine Run.exit rfl ?_
            refine Run.seq ?_
            refine Run.seq ?_
            refine Run.region ?_
            refine RunL.ok (OpOk.assign rfl) rfl ?_
            refine RunL.nil ?_
            refine Run.block ?_
            refine Run.ent (Ent.ownNil' _ 3 1 (I []) rfl) ?_
            refine Run.jump ((Run.loopJ (X := Nat × Value × Asn) (fun x => [(16, .int .i64 (x.1 : Int)), (14, .int .i64 0), (13, S (txt ((bitsB xs).drop (a + widthsN (ws.take x.1))))), (12, x.2.1), (11, vz2), (10, .int .i64 (i : Int)), (9, .int .i64 e), (8, S (txt ((bitsB xs).drop a))), (6, .pointer (some ⟨x10, 0, none⟩)), (0, u1), (1, u2)]) (fun x => old w0 * x.2.2 * pts x10 (.cells #[x11, .int .i64 ((takeA xs a e ws : Nat) : Int), .int .i64 (takeE xs a e ws)] 81 (0, 0)) * own 5 1 x11 (xs).length (B (xs)) * own 3 1 vz2 (takeL xs a e ws).length (I (takeL xs a e ws)) * own 3 1 x.2.1 x.1 (I (nums xs a (ws.take x.1)))) (fun x => x.1 ≤ ws.length ∧ a + widthsN (ws.take x.1) ≤ 8 * xs.length) (fun x => ws.length - x.1) (0, .slice none 0 0, J) ⟨Nat.zero_le _, ha⟩ (fun x hx ih3 => ?_))) ⟨rfl, rfl, rfl, rfl, rfl, rfl, rfl, rfl, rfl, rfl, rfl, trivial⟩ (Grew.of (frc rfl rfl) (Grew.refl _))
            obtain ⟨k, v1, J1⟩ := x
            simp only at hx ih3 ⊢
            obtain ⟨hk, hak⟩ := hx
            have htk : (txt ((bitsB xs).drop (a + widthsN (ws.take k)))).length = 8 * xs.length - (a + widthsN (ws.take k)) := by rw [txt_length, List.length_drop, bitsB_length]
            rcases Nat.lt_or_ge k ws.length with hk1 | hk1
            · have hbk := any_take (k + 1) hg
              rw [take_next hk1, List.any_append, Bool.or_eq_false_iff] at hbk
              have hb2 := hbk.2
              simp only [List.any_cons, List.any_nil, Bool.or_false, badW, decide_eq_false_iff_not] at hb2
              have hw : widthsN (ws.take (k + 1)) = widthsN (ws.take k) + (ws.getD k default).toNat := by rw [take_next hk1, widthsN_append]; simp [widthsN]
              have hd : ws.getD k 0 = ws.getD k default := rfl
              rcases Nat.lt_or_ge (8 * xs.length - (a + widthsN (ws.take k))) (ws.getD k default).toNat with hs | hs
              · have hle := widthsN_take_le ws (k + 1)
                rcases Decidable.em (e = 0) with he | he
                · have hE : takeE xs a e ws = 10 := by simp only [takeE, hg, he]; rw [if_pos trivial, if_neg (by decide), if_pos (by omega)]
                  have hA : takeA xs a e ws = a := by rw [takeA, if_neg (by rw [hE]; decide)]
                  have hL : takeL xs a e ws = [] := by rw [takeL, if_neg (by rw [hE]; decide)]
                  rw [hE, hA, hL, List.length_nil]
                  refine Run.seq ?_
                  refine Run.seq ?_
                  refine Run.region ?_
                  refine RunL.ok (OpOk.move rfl) rfl ?_
                  refine RunL.ok (OpOk.move rfl) rfl ?_
                  refine RunL.ok (OpOk.move rfl) rfl ?_
                  refine RunL.ok (OpOk.idx1N rfl ti42 rfl rd2.left.left.left.left.left rfl (by omega)) rfl ?_
                  refine RunL.ok (OpOk.load rfl rfl rfl (Rd.cell rd2.left.left.left.left.left (by first | assumption | rfl))) rfl ?_
                  refine RunL.ok (OpOk.lenR rfl rfl rd3.left.left.left.left.left rfl) rfl ?_
                  refine RunL.ok (OpOk.asT (OpOk.lss rfl rfl) (by omega)) rfl ?_
                  refine RunL.ok (OpOk.move rfl) rfl ?_
                  refine RunL.on rfl rfl ?_
                  refine RunL.ok (OpOk.move rfl) rfl ?_
                  refine RunL.on rfl rfl ?_
                  refine RunL.ok (OpOk.asT (OpOk.eql rfl rfl) (by omega)) rfl ?_
                  refine RunL.ok (OpOk.pickT rfl rfl) rfl ?_
                  refine RunL.nil ?_
                  refine Run.condT rfl ?_
                  refine Run.skip ?_
                  refine Run.seq ?_
                  refine Run.block ?_
                  refine Run.seq ?_
                  refine Run.seq ?_
                  refine Run.region ?_
                  refine RunL.ok (OpOk.move rfl) rfl ?_
                  refine RunL.ok (OpOk.move rfl) rfl ?_
                  refine RunL.ok (OpOk.idx1N rfl ti42 rfl rd2.left.left.left.left.left rfl (by omega)) rfl ?_
                  refine RunL.ok (OpOk.load rfl rfl rfl (Rd.cell rd2.left.left.left.left.left (by first | assumption | rfl))) rfl ?_
                  refine RunL.ok (OpOk.move rfl) rfl ?_
                  refine RunL.ok (OpOk.idx1N rfl ti3 rfl rd3.left.left.left.left.left rfl (by omega)) rfl ?_
                  refine RunL.ok (OpOk.load rfl rfl rfl (Rd.getIE (by assumption) rd3.left.left.left.left.left (by omega))) rfl ?_
                  refine RunL.ok (OpOk.move rfl) rfl ?_
                  refine RunL.ok (OpOk.lenSS rfl rfl rfl) rfl ?_
                  refine RunL.ok (OpOk.asT (OpOk.gtr rfl rfl) (by omega)) rfl ?_
                  refine RunL.nil ?_
                  refine Run.condT rfl ?_
                  refine Run.seq ?_
                  refine Run.region ?_
                  refine RunL.ok (OpOk.assign rfl) rfl ?_
                  refine RunL.nil ?_
                  refine Run.exit rfl ?_
                  refine Run.seq ?_
                  refine Run.seq ?_
                  refine Run.region ?_
                  refine RunL.ok (OpOk.move rfl) rfl ?_
                  refine RunL.ok (OpOk.asT (OpOk.eql rfl rfl) (by omega)) rfl ?_
                  refine RunL.nil ?_
                  refine Run.condT rfl ?_
                  refine Run.region ?_
                  refine RunL.ok (OpOk.move rfl) rfl ?_
                  refine RunL.ok (OpOk.assign rfl) rfl ?_
                  refine RunL.nil ?_
                  refine Run.seq ?_
                  refine Run.seq ?_
                  refine Run.region ?_
                  refine RunL.ok (OpOk.move rfl) rfl ?_
                  refine RunL.ok (OpOk.as (c := true) (OpOk.neq rfl rfl) (by rw [decide_eq_false (by omega)]; rfl)) rfl ?_
                  refine RunL.nil ?_
                  refine Run.condT rfl ?_
                  refine Run.region ?_
                  refine RunL.ok (OpOk.assign rfl) rfl ?_
                  refine RunL.nil ?_
                  refine Run.seq ?_
                  refine Run.seq ?_
                  refine Run.region ?_
                  refine RunL.ok (OpOk.move rfl) rfl ?_
                  refine RunL.mem (frc (frl (frl rfl)) (frc (frl (frl rfl)) rfl)) ?_
                  refine RunL.call cal25 rfl (s25) rfl (fun vt1 At1 ht1 => ?_)
                  obtain ⟨rfl, rfl⟩ := ht1
                  refine RunL.ok (OpOk.move rfl) rfl ?_
                  refine RunL.ok (OpOk.as (c := false) (OpOk.neq rfl rfl) (by rw [decide_eq_true (by omega)]; rfl)) rfl ?_
                  refine RunL.ok (OpOk.move rfl) rfl ?_
                  refine RunL.on rfl rfl ?_
                  refine RunL.ok (OpOk.move rfl) rfl ?_
                  refine RunL.on rfl rfl ?_
                  refine RunL.call cal26 rfl (s26 (by omega) (by assumption)) rfl (fun vt2 At2 ht2 => ?_)
                  obtain ⟨rfl, rfl⟩ := ht2
                  refine RunL.on rfl rfl ?_
                  refine RunL.ok (OpOk.move rfl) rfl ?_
                  refine RunL.on rfl rfl ?_
                  refine RunL.ok (OpOk.lenSS rfl rfl rfl) rfl ?_
                  refine RunL.on rfl rfl ?_
                  refine RunL.ok (OpOk.as (c := false) (OpOk.neq rfl rfl) (by rw [decide_eq_true (by omega)]; rfl)) rfl ?_
                  refine RunL.ok (OpOk.pickF rfl rfl) rfl ?_
                  refine RunL.ok (OpOk.move rfl) rfl ?_
                  refine RunL.on rfl rfl ?_
                  refine RunL.ok (OpOk.move rfl) rfl ?_
                  refine RunL.on rfl rfl ?_
                  refine RunL.know (fun w s => (s.conv (frl (frl (frl rfl)))).ownRd0) (fun rdt3 => ?_)
                  refine RunL.ok (OpOk.lenR rfl rfl (Rd.right rdt3).left.left.left rfl) rfl ?_
                  refine RunL.on rfl rfl ?_
                  refine RunL.ok (OpOk.move rfl) rfl ?_
                  refine RunL.on rfl rfl ?_
                  refine RunL.ok (OpOk.lenV rfl rfl rfl) rfl ?_
                  refine RunL.on rfl rfl ?_
                  refine RunL.ok (OpOk.as (c := false) (OpOk.neq rfl rfl) (by rw [decide_eq_true (by omega)]; rfl)) rfl ?_
                  refine RunL.ok (OpOk.pickF rfl rfl) rfl ?_
                  refine RunL.nil ?_
                  refine Run.condF rfl ?_
                  refine Run.skip ?_
                  refine Run.seq ?_
                  refine Run.region ?_
                  refine RunL.ok (OpOk.assign rfl) rfl ?_
                  refine RunL.nil ?_
                  refine Run.block ?_
                  refine Run.jump ((Run.loopJ (X := Nat) (fun _ => [(17, .int .i64 0), (12, .slice none 0 0), (11, vz2), (10, .int .i64 (i : Int)), (9, .int .i64 10), (8, S (txt ((bitsB xs).drop a))), (6, .pointer (some ⟨x10, 0, none⟩)), (0, u1), (1, u2)]) (fun _ => old w0 * J1 * pts x10 (.cells #[x11, .int .i64 ((a : Nat) : Int), .int .i64 (10)] 81 (0, 0)) * own 5 1 x11 (xs).length (B (xs)) * own 3 1 vz2 0 (I [])) (fun k => k = 0) (fun k => k) 0 rfl (fun k hk ih4 => ?_))) ⟨rfl, rfl, rfl, rfl, rfl, rfl, rfl, rfl, rfl, trivial⟩ (Grew.of (frc (frl (frl rfl)) (frc (frl (frl rfl)) rfl)) (Grew.mul (Grew.refl _) _))
                  clear ih4
                  refine Run.seq ?_
                  refine Run.seq ?_
                  refine Run.region ?_
                  refine RunL.ok (OpOk.move rfl) rfl ?_
                  refine RunL.ok (OpOk.move rfl) rfl ?_
                  refine RunL.ok (OpOk.lenR rfl rfl (Rd.right rdt3) rfl) rfl ?_
                  refine RunL.ok (OpOk.asF (OpOk.lss rfl rfl) (by omega)) rfl ?_
                  refine RunL.nil ?_
                  refine Run.condF rfl ?_
                  refine Run.exit rfl ?_
                  refine Run.inBlock ?_
                  refine Run.region ?_
                  refine RunL.ok (OpOk.move rfl) rfl ?_
                  refine RunL.ok (OpOk.addN _ 1 rfl rfl rfl rfl (by omega)) rfl ?_
                  refine RunL.ok (OpOk.assign rfl) rfl ?_
                  refine RunL.nil ?_
                  refine Run.jump ((ih (i + 1, J1, a, 10) ⟨by simp; omega, by simpa using ha⟩ (by simp; omega))) ⟨rfl, rfl, rfl, rfl, rfl, rfl, trivial⟩ ((Grew.mul (Grew.refl _) _))
                · have hE : takeE xs a e ws = e := by simp [takeE, he]
                  have hA : takeA xs a e ws = a := by rw [takeA, if_neg (by rw [hE]; exact he)]
                  have hL : takeL xs a e ws = [] := by rw [takeL, if_neg (by rw [hE]; exact he)]
                  rw [hE, hA, hL, List.length_nil]
                  refine Run.seq ?_
                  refine Run.seq ?_
                  refine Run.region ?_
                  refine RunL.ok (OpOk.move rfl) rfl ?_
                  refine RunL.ok (OpOk.move rfl) rfl ?_
                  refine RunL.ok (OpOk.move rfl) rfl ?_
                  refine RunL.ok (OpOk.idx1N rfl ti42 rfl rd2.left.left.left.left.left rfl (by omega)) rfl ?_
                  refine RunL.ok (OpOk.load rfl rfl rfl (Rd.cell rd2.left.left.left.left.left (by first | assumption | rfl))) rfl ?_
                  refine RunL.ok (OpOk.lenR rfl rfl rd3.left.left.left.left.left rfl) rfl ?_
                  refine RunL.ok (OpOk.asT (OpOk.lss rfl rfl) (by omega)) rfl ?_
                  refine RunL.ok (OpOk.move rfl) rfl ?_
                  refine RunL.on rfl rfl ?_
                  refine RunL.ok (OpOk.move rfl) rfl ?_
                  refine RunL.on rfl rfl ?_
                  refine RunL.ok (OpOk.asT (OpOk.eql rfl rfl) (by omega)) rfl ?_
                  refine RunL.ok (OpOk.pickT rfl rfl) rfl ?_
                  refine RunL.nil ?_
                  refine Run.condT rfl ?_
                  refine Run.skip ?_
                  refine Run.seq ?_
                  refine Run.block ?_
                  refine Run.seq ?_
                  refine Run.seq ?_
                  refine Run.region ?_
                  refine RunL.ok (OpOk.move rfl) rfl ?_
                  refine RunL.ok (OpOk.move rfl) rfl ?_
                  refine RunL.ok (OpOk.idx1N rfl ti42 rfl rd2.left.left.left.left.left rfl (by omega)) rfl ?_
                  refine RunL.ok (OpOk.load rfl rfl rfl (Rd.cell rd2.left.left.left.left.left (by first | assumption | rfl))) rfl ?_
                  refine RunL.ok (OpOk.move rfl) rfl ?_
                  refine RunL.ok (OpOk.idx1N rfl ti3 rfl rd3.left.left.left.left.left rfl (by omega)) rfl ?_
                  refine RunL.ok (OpOk.load rfl rfl rfl (Rd.getIE (by assumption) rd3.left.left.left.left.left (by omega))) rfl ?_
                  refine RunL.ok (OpOk.move rfl) rfl ?_
                  refine RunL.ok (OpOk.lenSS rfl rfl rfl) rfl ?_
                  refine RunL.ok (OpOk.asT (OpOk.gtr rfl rfl) (by omega)) rfl ?_
                  refine RunL.nil ?_
                  refine Run.condT rfl ?_
                  refine Run.seq ?_
                  refine Run.region ?_
                  refine RunL.ok (OpOk.assign rfl) rfl ?_
                  refine RunL.nil ?_
                  refine Run.exit rfl ?_
                  refine Run.seq ?_
                  refine Run.seq ?_
                  refine Run.region ?_
                  refine RunL.ok (OpOk.move rfl) rfl ?_
                  refine RunL.ok (OpOk.asF (OpOk.eql rfl rfl) (by omega)) rfl ?_
                  refine RunL.nil ?_
                  refine Run.condF rfl ?_
                  refine Run.skip ?_
                  refine Run.seq ?_
                  refine Run.seq ?_
                  refine Run.region ?_
                  refine RunL.ok (OpOk.move rfl) rfl ?_
                  refine RunL.ok (OpOk.as (c := true) (OpOk.neq rfl rfl) (by rw [decide_eq_false (by omega)]; rfl)) rfl ?_
                  refine RunL.nil ?_
                  refine Run.condT rfl ?_
                  refine Run.region ?_
                  refine RunL.ok (OpOk.assign rfl) rfl ?_
                  refine RunL.nil ?_
                  refine Run.seq ?_
                  refine Run.seq ?_
                  refine Run.region ?_
                  refine RunL.ok (OpOk.move rfl) rfl ?_
                  refine RunL.mem (frc (frl (frl rfl)) (frc (frl (frl rfl)) rfl)) ?_
                  refine RunL.call cal25 rfl (s25) rfl (fun vt1 At1 ht1 => ?_)
                  obtain ⟨rfl, rfl⟩ := ht1
                  refine RunL.ok (OpOk.move rfl) rfl ?_
                  refine RunL.ok (OpOk.as (c := false) (OpOk.neq rfl rfl) (by rw [decide_eq_true (by omega)]; rfl)) rfl ?_
                  refine RunL.ok (OpOk.move rfl) rfl ?_
                  refine RunL.on rfl rfl ?_
                  refine RunL.ok (OpOk.move rfl) rfl ?_
                  refine RunL.on rfl rfl ?_
                  refine RunL.call cal26 rfl (s26 (by omega) (by assumption)) rfl (fun vt2 At2 ht2 => ?_)
                  obtain ⟨rfl, rfl⟩ := ht2
                  refine RunL.on rfl rfl ?_
                  refine RunL.ok (OpOk.move rfl) rfl ?_
                  refine RunL.on rfl rfl ?_
                  refine RunL.ok (OpOk.lenSS rfl rfl rfl) rfl ?_
                  refine RunL.on rfl rfl ?_
                  refine RunL.ok (OpOk.as (c := false) (OpOk.neq rfl rfl) (by rw [decide_eq_true (by omega)]; rfl)) rfl ?_
                  refine RunL.ok (OpOk.pickF rfl rfl) rfl ?_
                  refine RunL.ok (OpOk.move rfl) rfl ?_
                  refine RunL.on rfl rfl ?_
                  refine RunL.ok (OpOk.move rfl) rfl ?_
                  refine RunL.on rfl rfl ?_
                  refine RunL.know (fun w s => (s.conv (frl (frl (frl rfl)))).ownRd0) (fun rdt3 => ?_)
                  refine RunL.ok (OpOk.lenR rfl rfl (Rd.right rdt3).left.left.left rfl) rfl ?_
                  refine RunL.on rfl rfl ?_
                  refine RunL.ok (OpOk.move rfl) rfl ?_
                  refine RunL.on rfl rfl ?_
                  refine RunL.ok (OpOk.lenV rfl rfl rfl) rfl ?_
                  refine RunL.on rfl rfl ?_
                  refine RunL.ok (OpOk.as (c := false) (OpOk.neq rfl rfl) (by rw [decide_eq_true (by omega)]; rfl)) rfl ?_
                  refine RunL.ok (OpOk.pickF rfl rfl) rfl ?_
                  refine RunL.nil ?_
                  refine Run.condF rfl ?_
                  refine Run.skip ?_
                  refine Run.seq ?_
                  refine Run.region ?_
                  refine RunL.ok (OpOk.assign rfl) rfl ?_
                  refine RunL.nil ?_
                  refine Run.block ?_
                  refine Run.jump ((Run.loopJ (X := Nat) (fun _ => [(17, .int .i64 0), (12, .slice none 0 0), (11, vz2), (10, .int .i64 (i : Int)), (9, .int .i64 e), (8, S (txt ((bitsB xs).drop a))), (6, .pointer (some ⟨x10, 0, none⟩)), (0, u1), (1, u2)]) (fun _ => old w0 * J1 * pts x10 (.cells #[x11, .int .i64 ((a : Nat) : Int), .int .i64 (e)] 81 (0, 0)) * own 5 1 x11 (xs).length (B (xs)) * own 3 1 vz2 0 (I [])) (fun k => k = 0) (fun k => k) 0 rfl (fun k hk ih4 => ?_))) ⟨rfl, rfl, rfl, rfl, rfl, rfl, rfl, rfl, rfl, trivial⟩ (Grew.of (frc (frl (frl rfl)) (frc (frl (frl rfl)) rfl)) (Grew.mul (Grew.refl _) _))
                  clear ih4
                  refine Run.seq ?_
                  refine Run.seq ?_
                  refine Run.region ?_
                  refine RunL.ok (OpOk.move rfl) rfl ?_
                  refine RunL.ok (OpOk.move rfl) rfl ?_
                  refine RunL.ok (OpOk.lenR rfl rfl (Rd.right rdt3) rfl) rfl ?_
                  refine RunL.ok (OpOk.asF (OpOk.lss rfl rfl) (by omega)) rfl ?_
                  refine RunL.nil ?_
                  refine Run.condF rfl ?_
                  refine Run.exit rfl ?_
                  refine Run.inBlock ?_
                  refine Run.region ?_
                  refine RunL.ok (OpOk.move rfl) rfl ?_
                  refine RunL.ok (OpOk.addN _ 1 rfl rfl rfl rfl (by omega)) rfl ?_
                  refine RunL.ok (OpOk.assign rfl) rfl ?_
                  refine RunL.nil ?_
                  refine Run.jump ((ih (i + 1, J1, a, e) ⟨by simp; omega, by simpa using ha⟩ (by simp; omega))) ⟨rfl, rfl, rfl, rfl, rfl, rfl, trivial⟩ ((Grew.mul (Grew.refl _) _))
              · obtain ⟨n, hn⟩ := Int.eq_ofNat_of_zero_le (show 0 ≤ ws.getD k default by omega)
                have hnum := numB_cut (xs := xs) (a := a + widthsN (ws.take k)) n (by omega)
                have hnums : nums xs a (ws.take (k + 1)) = nums xs a (ws.take k) ++ [((numAt xs (a + widthsN (ws.take k)) (ws.getD k default).toNat : Nat) : Int)] := by rw [take_next hk1, nums_append]; rfl
                rw [hn] at hd hw hs hnums hb2
                rw [Int.toNat_natCast] at hw hs hnums
                have hcut : ((txt ((bitsB xs).drop (a + widthsN (ws.take k)))).drop 0).take (n - 0) = txt (((bitsB xs).drop (a + widthsN (ws.take k))).take n) := by simp [txt, List.map_take]
                have h32 : (((bitsB xs).drop (a + widthsN (ws.take k))).take n).length ≤ 32 := by rw [List.length_take]; omega
                refine Run.seq ?_
                refine Run.seq ?_
                refine Run.region ?_
                refine RunL.ok (OpOk.move rfl) rfl ?_
                refine RunL.ok (OpOk.move rfl) rfl ?_
                refine RunL.ok (OpOk.move rfl) rfl ?_
                refine RunL.ok (OpOk.idx1N rfl ti42 rfl rd2.left.left.left.left.left rfl (by omega)) rfl ?_
                refine RunL.ok (OpOk.load rfl rfl rfl (Rd.cell rd2.left.left.left.left.left (by first | assumption | rfl))) rfl ?_
                refine RunL.ok (OpOk.lenR rfl rfl rd3.left.left.left.left.left rfl) rfl ?_
                refine RunL.ok (OpOk.asT (OpOk.lss rfl rfl) (by omega)) rfl ?_
                refine RunL.ok (OpOk.move rfl) rfl ?_
                refine RunL.on rfl rfl ?_
                refine RunL.ok (OpOk.move rfl) rfl ?_
                refine RunL.on rfl rfl ?_
                refine RunL.ok (OpOk.asT (OpOk.eql rfl rfl) (by omega)) rfl ?_
                refine RunL.ok (OpOk.pickT rfl rfl) rfl ?_
                refine RunL.nil ?_
                refine Run.condT rfl ?_
                refine Run.skip ?_
                refine Run.seq ?_
                refine Run.block ?_
                refine Run.seq ?_
                refine Run.seq ?_
                refine Run.region ?_
                refine RunL.ok (OpOk.move rfl) rfl ?_
                refine RunL.ok (OpOk.move rfl) rfl ?_
                refine RunL.ok (OpOk.idx1N rfl ti42 rfl rd2.left.left.left.left.left rfl (by omega)) rfl ?_
                refine RunL.ok (OpOk.load rfl rfl rfl (Rd.cell rd2.left.left.left.left.left (by first | assumption | rfl))) rfl ?_
                refine RunL.ok (OpOk.move rfl) rfl ?_
                refine RunL.ok (OpOk.idx1N rfl ti3 rfl rd3.left.left.left.left.left rfl (by omega)) rfl ?_
                refine RunL.ok (OpOk.load rfl rfl rfl (Rd.getIE (by assumption) rd3.left.left.left.left.left (by omega))) rfl ?_
                refine RunL.ok (OpOk.move rfl) rfl ?_
                refine RunL.ok (OpOk.lenSS rfl rfl rfl) rfl ?_
                refine RunL.ok (OpOk.asF (OpOk.gtr rfl rfl) (by omega)) rfl ?_
                refine RunL.nil ?_
                refine Run.condF rfl ?_
                refine Run.skip ?_
                refine Run.seq ?_
                refine Run.region ?_
                refine RunL.ok (OpOk.move rfl) rfl ?_
                refine RunL.ok (OpOk.move rfl) rfl ?_
                refine RunL.ok (OpOk.move rfl) rfl ?_
                refine RunL.ok (OpOk.move rfl) rfl ?_
                refine RunL.ok (OpOk.idx1N rfl ti42 rfl rd2.left.left.left.left.left rfl (by omega)) rfl ?_
                refine RunL.ok (OpOk.load rfl rfl rfl (Rd.cell rd2.left.left.left.left.left (by first | assumption | rfl))) rfl ?_
                refine RunL.ok (OpOk.move rfl) rfl ?_
                refine RunL.ok (OpOk.idx1N rfl ti3 rfl rd3.left.left.left.left.left rfl (by omega)) rfl ?_
                refine RunL.ok (OpOk.load rfl rfl rfl (Rd.getIE (by assumption) rd3.left.left.left.left.left (by omega))) rfl ?_
                refine RunL.ok (OpOk.cutSS rfl rfl rfl ⟨_, rfl⟩ (by omega) (by omega)) rfl ?_
                rw [hcut]
                refine RunL.call cal24 rfl (s24 (by assumption)) rfl (fun vr1 Ar1 hr1 => ?_)
                obtain ⟨rfl, rfl⟩ := hr1
                refine RunL.litI (xs := [↑(numB (List.take n (List.drop (a + widthsN (List.take k ws)) (bitsB xs))))]) rfl ti3 rfl rfl rfl (by decide) rfl (fun vr2 rdr2 => ?_)
                refine RunL.know (fun w s => (s.conv rfl).ownRd0) (fun rdr4 => ?_)
                refine RunL.appendI rfl ti3 rfl rfl rfl (frl rfl) (Rd.right rdr4) (by omega) rfl rfl (fun vr3 rdr3 => ?_)
                refine RunL.ok (OpOk.assign rfl) rfl ?_
                refine RunL.nil ?_
                refine Run.region ?_
                refine RunL.ok (OpOk.move rfl) rfl ?_
                refine RunL.ok (OpOk.move rfl) rfl ?_
                refine RunL.ok (OpOk.move rfl) rfl ?_
                refine RunL.ok (OpOk.idx1N rfl ti42 rfl rd2.left.left.left.left.left.left rfl (by omega)) rfl ?_
                refine RunL.ok (OpOk.load rfl rfl rfl (Rd.cell rd2.left.left.left.left.left.left (by first | assumption | rfl))) rfl ?_
                refine RunL.ok (OpOk.move rfl) rfl ?_
                refine RunL.ok (OpOk.idx1N rfl ti3 rfl rd3.left.left.left.left.left.left rfl (by omega)) rfl ?_
                refine RunL.ok (OpOk.load rfl rfl rfl (Rd.getIE (by assumption) rd3.left.left.left.left.left.left (by omega))) rfl ?_
                refine RunL.ok (OpOk.cutSS rfl rfl ⟨_, rfl⟩ rfl (by omega) (by omega)) rfl ?_
                refine RunL.ok (OpOk.assign rfl) rfl ?_
                refine RunL.nil ?_
                refine Run.inBlock ?_
                refine Run.region ?_
                refine RunL.ok (OpOk.move rfl) rfl ?_
                refine RunL.ok (OpOk.addN _ 1 rfl rfl rfl rfl (by omega)) rfl ?_
                refine RunL.ok (OpOk.assign rfl) rfl ?_
                refine RunL.nil ?_
                have hrest : ((txt ((bitsB xs).drop (a + widthsN (ws.take k)))).drop n).take ((txt ((bitsB xs).drop (a + widthsN (ws.take k)))).length - n) = txt ((bitsB xs).drop (a + widthsN (ws.take (k + 1)))) := by
                  rw [List.take_of_length_le (by rw [List.length_drop]; omega), hw]
                  simp [txt, List.map_drop, Nat.add_assoc]
                rw [hrest, hnum, ← hnums]
                refine Run.jump ((ih3 (k + 1, vr3, _) ⟨by simp; omega, by show a + widthsN (ws.take (k + 1)) ≤ _; omega⟩ (by simp; omega))) ⟨rfl, rfl, rfl, rfl, rfl, rfl, rfl, rfl, rfl, rfl, rfl, trivial⟩ (Grew.of (Eq.trans (frc rfl (frc (frl rfl) (frc (frl rfl) (frc (frl rfl) rfl)))) (congrArg (· * _) (congrArg (· * _) (congrArg (· * _) (congrArg (· * _) (asg as1)))))) (Grew.refl _))
            · obtain rfl : k = ws.length := by omega
              rw [List.take_length] at *
              clear ih3
              rcases Decidable.em (e = 0) with he | he
              · have hE : takeE xs a e ws = 0 := by simp only [takeE, hg, he]; rw [if_pos trivial, if_neg (by decide), if_neg (by omega)]
                have hA : takeA xs a e ws = a + widthsN ws := by rw [takeA, if_pos hE]
                have hL : takeL xs a e ws = nums xs a ws := by rw [takeL, if_pos hE]
                rw [hE, hA, hL, hnl]
                refine Run.seq ?_
                refine Run.seq ?_
                refine Run.region ?_
                refine RunL.ok (OpOk.move rfl) rfl ?_
                refine RunL.ok (OpOk.move rfl) rfl ?_
                refine RunL.ok (OpOk.move rfl) rfl ?_
                refine RunL.ok (OpOk.idx1N rfl ti42 rfl rd2.left.left.left.left.left rfl (by omega)) rfl ?_
                refine RunL.ok (OpOk.load rfl rfl rfl (Rd.cell rd2.left.left.left.left.left (by first | assumption | rfl))) rfl ?_
                refine RunL.ok (OpOk.lenR rfl rfl rd3.left.left.left.left.left rfl) rfl ?_
                refine RunL.ok (OpOk.asF (OpOk.lss rfl rfl) (by omega)) rfl ?_
                refine RunL.ok (OpOk.move rfl) rfl ?_
                refine RunL.off rfl rfl rfl rfl ?_
                refine RunL.off rfl rfl rfl rfl ?_
                refine RunL.ok (OpOk.pickF rfl rfl) rfl ?_
                refine RunL.nil ?_
                refine Run.condF rfl ?_
                refine Run.exit rfl ?_
                refine Run.seq ?_
                refine Run.seq ?_
                refine Run.region ?_
                refine RunL.ok (OpOk.move rfl) rfl ?_
                refine RunL.ok (OpOk.asT (OpOk.eql rfl rfl) (by omega)) rfl ?_
                refine RunL.nil ?_
                refine Run.condT rfl ?_
                refine Run.region ?_
                refine RunL.ok (OpOk.move rfl) rfl ?_
                refine RunL.ok (OpOk.assign rfl) rfl ?_
                refine RunL.nil ?_
                refine Run.seq ?_
                refine Run.seq ?_
                refine Run.region ?_
                refine RunL.ok (OpOk.move rfl) rfl ?_
                refine RunL.ok (OpOk.as (c := false) (OpOk.neq rfl rfl) (by rw [decide_eq_true (by omega)]; rfl)) rfl ?_
                refine RunL.nil ?_
                refine Run.condF rfl ?_
                refine Run.region ?_
                refine RunL.ok (OpOk.move rfl) rfl ?_
                refine RunL.ok (OpOk.assign rfl) rfl ?_
                refine RunL.nil ?_
                refine Run.seq ?_
                refine Run.seq ?_
                refine Run.region ?_
                refine RunL.ok (OpOk.move rfl) rfl ?_
                refine RunL.mem (frc (frl (frl rfl)) (frc (frl (frl rfl)) rfl)) ?_
                refine RunL.call cal25 rfl (s25) rfl (fun vt1 At1 ht1 => ?_)
                obtain ⟨rfl, rfl⟩ := ht1
                refine RunL.ok (OpOk.move rfl) rfl ?_
                refine RunL.ok (OpOk.as (c := false) (OpOk.neq rfl rfl) (by rw [decide_eq_true (by omega)]; rfl)) rfl ?_
                refine RunL.ok (OpOk.move rfl) rfl ?_
                refine RunL.on rfl rfl ?_
                refine RunL.ok (OpOk.move rfl) rfl ?_
                refine RunL.on rfl rfl ?_
                refine RunL.call cal26 rfl (s26 (by omega) (by assumption)) rfl (fun vt2 At2 ht2 => ?_)
                obtain ⟨rfl, rfl⟩ := ht2
                refine RunL.on rfl rfl ?_
                refine RunL.ok (OpOk.move rfl) rfl ?_
                refine RunL.on rfl rfl ?_
                refine RunL.ok (OpOk.lenSS rfl rfl rfl) rfl ?_
                refine RunL.on rfl rfl ?_
                refine RunL.ok (OpOk.as (c := false) (OpOk.neq rfl rfl) (by rw [decide_eq_true (by omega)]; rfl)) rfl ?_
                refine RunL.ok (OpOk.pickF rfl rfl) rfl ?_
                refine RunL.ok (OpOk.move rfl) rfl ?_
                refine RunL.on rfl rfl ?_
                refine RunL.ok (OpOk.move rfl) rfl ?_
                refine RunL.on rfl rfl ?_
                refine RunL.know (fun w s => (s.conv (frl (frl (frl rfl)))).ownRd0) (fun rdt3 => ?_)
                refine RunL.ok (OpOk.lenR rfl rfl (Rd.right rdt3).left.left.left rfl) rfl ?_
                refine RunL.on rfl rfl ?_
                refine RunL.ok (OpOk.move rfl) rfl ?_
                refine RunL.on rfl rfl ?_
                refine RunL.know (fun w s => (s.conv (frl (frl rfl))).ownRd0) (fun rdt4 => ?_)
                refine RunL.ok (OpOk.lenR rfl rfl (Rd.right rdt4).left.left rfl) rfl ?_
                refine RunL.on rfl rfl ?_
                refine RunL.ok (OpOk.as (c := false) (OpOk.neq rfl rfl) (by rw [decide_eq_true (by omega)]; rfl)) rfl ?_
                refine RunL.ok (OpOk.pickF rfl rfl) rfl ?_
                refine RunL.nil ?_
                refine Run.condF rfl ?_
                refine Run.skip ?_
                refine Run.seq ?_
                refine Run.region ?_
                refine RunL.ok (OpOk.assign rfl) rfl ?_
                refine RunL.nil ?_
                refine Run.block ?_
                refine Run.jump ((Run.loopJ (X := Nat) (fun k => [(17, .int .i64 (k : Int)), (12, v1), (11, vz2), (10, .int .i64 (i : Int)), (9, .int .i64 0), (8, S (txt ((bitsB xs).drop (a + widthsN ws)))), (6, .pointer (some ⟨x10, 0, none⟩)), (0, u1), (1, u2)]) (fun _ => old w0 * J1 * pts x10 (.cells #[x11, .int .i64 ((a + widthsN ws : Nat) : Int), .int .i64 (0)] 81 (0, 0)) * own 5 1 x11 (xs).length (B (xs)) * own 3 1 vz2 ws.length (I (nums xs a ws)) * own 3 1 v1 ws.length (I (nums xs a ws))) (fun k => k ≤ ws.length) (fun k => ws.length - k) 0 (Nat.zero_le _) (fun k hk ih4 => ?_))) ⟨rfl, rfl, rfl, rfl, rfl, rfl, rfl, rfl, rfl, trivial⟩ (Grew.of (frc (frl (frl rfl)) (frc (frl (frl rfl)) rfl)) (Grew.refl _))
                rcases Nat.lt_or_ge k ws.length with hk1 | hk1
                · refine Run.seq ?_
                  refine Run.seq ?_
                  refine Run.region ?_
                  refine RunL.ok (OpOk.move rfl) rfl ?_
                  refine RunL.ok (OpOk.move rfl) rfl ?_
                  refine RunL.ok (OpOk.lenR rfl rfl (Rd.right rdt3).left rfl) rfl ?_
                  refine RunL.ok (OpOk.asT (OpOk.lss rfl rfl) (by omega)) rfl ?_
                  refine RunL.nil ?_
                  refine Run.condT rfl ?_
                  refine Run.skip ?_
                  refine Run.seq ?_
                  refine Run.block ?_
                  refine Run.seq ?_
                  refine Run.know (fun w s => (s.conv (frl (frl rfl))).ownRd0) (fun rdr1 => ?_)
                  (apply Run.drawD [] (by rfl) (sep_emp _).symm; case hchk => kernel_rfl)
                  refine Sd.quiet 0 _ _ rfl rfl rfl rfl rfl (QOp.ok (fun X => OpOk.move rfl)) ?_
                  refine Sd.quiet 1 _ _ rfl rfl rfl rfl rfl (QOp.ok (fun X => OpOk.move rfl)) ?_
                  refine Sd.quiet 2 _ _ rfl rfl rfl rfl rfl (QOp.ok (fun X => OpOk.idx1N rfl ti3 rfl (Rd.right rdt3).left.left.left rfl (by omega))) ?_
                  refine Sd.quiet 3 _ _ rfl rfl rfl rfl rfl (QOp.ok (fun X => OpOk.load rfl rfl rfl (Rd.getI (Rd.right rdt3).left.left.left (by omega)))) ?_
                  refine Sd.quiet 4 _ _ rfl rfl rfl rfl rfl (QOp.ok (fun X => OpOk.move rfl)) ?_
                  refine Sd.quiet 5 _ _ rfl rfl rfl rfl rfl (QOp.ok (fun X => OpOk.move rfl)) ?_
                  refine Sd.quiet 6 _ _ rfl rfl rfl rfl rfl (QOp.ok (fun X => OpOk.idx1N rfl ti3 rfl (Rd.right rdt4).left.left rfl (by omega))) ?_
                  refine Sd.quiet 7 _ _ rfl rfl rfl rfl rfl (QOp.ok (fun X => OpOk.load rfl rfl rfl (Rd.getI (Rd.right rdt4).left.left (by omega)))) ?_
                  refine Sd.quiet 8 _ _ rfl rfl rfl rfl rfl (QOp.ok (fun X => OpOk.as (c := false) (OpOk.neq rfl rfl) (by rw [decide_eq_true (by omega)]; rfl))) ?_
                  (apply Sd.tail; case hall => kernel_rfl)
                  refine RunL.mem (fl2 (sep_emp _) (sep_emp _)) ?_
                  refine RunL.nil ?_
                  refine Run.condF rfl ?_
                  refine Run.skip ?_
                  refine Run.inBlock ?_
                  refine Run.region ?_
                  refine RunL.ok (OpOk.move rfl) rfl ?_
                  refine RunL.ok (OpOk.addN _ 1 rfl rfl rfl rfl (by omega)) rfl ?_
                  refine RunL.ok (OpOk.assign rfl) rfl ?_
                  refine RunL.nil ?_
                  refine Run.jump ((ih4 (k + 1) (by omega) (by omega))) ⟨rfl, rfl, rfl, rfl, rfl, rfl, rfl, rfl, rfl, trivial⟩ ((Grew.refl _))
                · obtain rfl : k = ws.length := by omega
                  clear ih4
                  refine Run.seq ?_
                  refine Run.seq ?_
                  refine Run.region ?_
                  refine RunL.ok (OpOk.move rfl) rfl ?_
                  refine RunL.ok (OpOk.move rfl) rfl ?_
                  refine RunL.ok (OpOk.lenR rfl rfl (Rd.right rdt3).left rfl) rfl ?_
                  refine RunL.ok (OpOk.asF (OpOk.lss rfl rfl) (by omega)) rfl ?_
                  refine RunL.nil ?_
                  refine Run.condF rfl ?_
                  refine Run.exit rfl ?_
                  refine Run.inBlock ?_
                  refine Run.region ?_
                  refine RunL.ok (OpOk.move rfl) rfl ?_
                  refine RunL.ok (OpOk.addN _ 1 rfl rfl rfl rfl (by omega)) rfl ?_
                  refine RunL.ok (OpOk.assign rfl) rfl ?_
                  refine RunL.nil ?_
                  refine Run.jump ((ih (i + 1, _, a + widthsN ws, 0) ⟨by simp; omega, hak⟩ (by simp; omega))) ⟨rfl, rfl, rfl, rfl, rfl, rfl, trivial⟩ (Grew.of (Eq.trans (frc (frl (frl rfl)) (frc (frl (frl rfl)) rfl)) (congrArg (· * _) (congrArg (· * _) (asg (asg as1))))) (Grew.refl _))
              · have hE : takeE xs a e ws = e := by simp [takeE, he]
                have hA : takeA xs a e ws = a := by rw [takeA, if_neg (by rw [hE]; exact he)]
                have hL : takeL xs a e ws = [] := by rw [takeL, if_neg (by rw [hE]; exact he)]
                rw [hE, hA, hL, List.length_nil]
                refine Run.seq ?_
                refine Run.seq ?_
                refine Run.region ?_
                refine RunL.ok (OpOk.move rfl) rfl ?_
                refine RunL.ok (OpOk.move rfl) rfl ?_
                refine RunL.ok (OpOk.move rfl) rfl ?_
                refine RunL.ok (OpOk.idx1N rfl ti42 rfl rd2.left.left.left.left.left rfl (by omega)) rfl ?_
                refine RunL.ok (OpOk.load rfl rfl rfl (Rd.cell rd2.left.left.left.left.left (by first | assumption | rfl))) rfl ?_
                refine RunL.ok (OpOk.lenR rfl rfl rd3.left.left.left.left.left rfl) rfl ?_
                refine RunL.ok (OpOk.asF (OpOk.lss rfl rfl) (by omega)) rfl ?_
                refine RunL.ok (OpOk.move rfl) rfl ?_
                refine RunL.off rfl rfl rfl rfl ?_
                refine RunL.off rfl rfl rfl rfl ?_
                refine RunL.ok (OpOk.pickF rfl rfl) rfl ?_
                refine RunL.nil ?_
                refine Run.condF rfl ?_
                refine Run.exit rfl ?_
                refine Run.seq ?_
                refine Run.seq ?_
                refine Run.region ?_
                refine RunL.ok (OpOk.move rfl) rfl ?_
                refine RunL.ok (OpOk.asF (OpOk.eql rfl rfl) (by omega)) rfl ?_
                refine RunL.nil ?_
                refine Run.condF rfl ?_
                refine Run.skip ?_
                refine Run.seq ?_
                refine Run.seq ?_
                refine Run.region ?_
                refine RunL.ok (OpOk.move rfl) rfl ?_
                refine RunL.ok (OpOk.as (c := true) (OpOk.neq rfl rfl) (by rw [decide_eq_false (by omega)]; rfl)) rfl ?_
                refine RunL.nil ?_
                refine Run.condT rfl ?_
                refine Run.region ?_
                refine RunL.ok (OpOk.assign rfl) rfl ?_
                refine RunL.nil ?_
                refine Run.seq ?_
                refine Run.seq ?_
                refine Run.region ?_
                refine RunL.ok (OpOk.move rfl) rfl ?_
                refine RunL.mem (frc (frl (frl rfl)) (frc (frl (frl rfl)) rfl)) ?_
                refine RunL.call cal25 rfl (s25) rfl (fun vt1 At1 ht1 => ?_)
                obtain ⟨rfl, rfl⟩ := ht1
                refine RunL.ok (OpOk.move rfl) rfl ?_
                refine RunL.ok (OpOk.as (c := false) (OpOk.neq rfl rfl) (by rw [decide_eq_true (by omega)]; rfl)) rfl ?_
                refine RunL.ok (OpOk.move rfl) rfl ?_
                refine RunL.on rfl rfl ?_
                refine RunL.ok (OpOk.move rfl) rfl ?_
                refine RunL.on rfl rfl ?_
                refine RunL.call cal26 rfl (s26 (by omega) (by assumption)) rfl (fun vt2 At2 ht2 => ?_)
                obtain ⟨rfl, rfl⟩ := ht2
                refine RunL.on rfl rfl ?_
                refine RunL.ok (OpOk.move rfl) rfl ?_
                refine RunL.on rfl rfl ?_
                refine RunL.ok (OpOk.lenSS rfl rfl rfl) rfl ?_
                refine RunL.on rfl rfl ?_
                refine RunL.ok (OpOk.as (c := false) (OpOk.neq rfl rfl) (by rw [decide_eq_true (by omega)]; rfl)) rfl ?_
                refine RunL.ok (OpOk.pickF rfl rfl) rfl ?_
                refine RunL.ok (OpOk.move rfl) rfl ?_
                refine RunL.on rfl rfl ?_
                refine RunL.ok (OpOk.move rfl) rfl ?_
                refine RunL.on rfl rfl ?_
                refine RunL.know (fun w s => (s.conv (frl (frl (frl rfl)))).ownRd0) (fun rdt3 => ?_)
                refine RunL.ok (OpOk.lenR rfl rfl (Rd.right rdt3).left.left.left rfl) rfl ?_
                refine RunL.on rfl rfl ?_
                refine RunL.ok (OpOk.move rfl) rfl ?_
                refine RunL.on rfl rfl ?_
                refine RunL.ok (OpOk.lenV rfl rfl rfl) rfl ?_
                refine RunL.on rfl rfl ?_
                refine RunL.ok (OpOk.as (c := false) (OpOk.neq rfl rfl) (by rw [decide_eq_true (by omega)]; rfl)) rfl ?_
                refine RunL.ok (OpOk.pickF rfl rfl) rfl ?_
                refine RunL.nil ?_
                refine Run.condF rfl ?_
                refine Run.skip ?_
                refine Run.seq ?_
                refine Run.region ?_
                refine RunL.ok (OpOk.assign rfl) rfl ?_
                refine RunL.nil ?_
                refine Run.block ?_
                refine Run.jump ((Run.loopJ (X := Nat) (fun _ => [(17, .int .i64 0), (12, .slice none 0 0), (11, vz2), (10, .int .i64 (i : Int)), (9, .int .i64 e), (8, S (txt ((bitsB xs).drop a))), (6, .pointer (some ⟨x10, 0, none⟩)), (0, u1), (1, u2)]) (fun _ => old w0 * J1 * pts x10 (.cells #[x11, .int .i64 ((a : Nat) : Int), .int .i64 (e)] 81 (0, 0)) * own 5 1 x11 (xs).length (B (xs)) * own 3 1 vz2 0 (I [])) (fun k => k = 0) (fun k => k) 0 rfl (fun k hk ih4 => ?_))) ⟨rfl, rfl, rfl, rfl, rfl, rfl, rfl, rfl, rfl, trivial⟩ (Grew.of (frc (frl (frl rfl)) (frc (frl (frl rfl)) rfl)) (Grew.mul (Grew.refl _) _))
                clear ih4
                refine Run.seq ?_
                refine Run.seq ?_
                refine Run.region ?_
                refine RunL.ok (OpOk.move rfl) rfl ?_
                refine RunL.ok (OpOk.move rfl) rfl ?_
                refine RunL.ok (OpOk.lenR rfl rfl (Rd.right rdt3) rfl) rfl ?_
                refine RunL.ok (OpOk.asF (OpOk.lss rfl rfl) (by omega)) rfl ?_
                refine RunL.nil ?_
                refine Run.condF rfl ?_
                refine Run.exit rfl ?_
                refine Run.inBlock ?_
                refine Run.region ?_
                refine RunL.ok (OpOk.move rfl) rfl ?_
                refine RunL.ok (OpOk.addN _ 1 rfl rfl rfl rfl (by omega)) rfl ?_
                refine RunL.ok (OpOk.assign rfl) rfl ?_
                refine RunL.nil ?_
                refine Run.jump ((ih (i + 1, J1, a, e) ⟨by simp; omega, by simpa using ha⟩ (by simp; omega))) ⟨rfl, rfl, rfl, rfl, rfl, rfl, trivial⟩ ((Grew.mul (Grew.refl _) _))
      refine Run.exit rfl ?_
      refine Run.seq ?_
      refine Run.region ?_
      refine RunL.ok (OpOk.move rfl) rfl ?_
      refine RunL.call cal26 rfl (s26 (by omega) (by assumption)) rfl (fun vz3 Az3 hz3 => ?_)
      obtain ⟨rfl, rfl⟩ := hz3
      refine RunL.ok (OpOk.move rfl) rfl ?_
      refine RunL.ok (OpOk.lenSS rfl rfl rfl) rfl ?_
      refine RunL.ok (OpOk.asT (OpOk.eql rfl rfl) (by omega)) rfl ?_
      refine RunL.ok (OpOk.assign rfl) rfl ?_
      refine RunL.nil ?_
      refine Run.ret1 Try.func4 rfl rfl ?_
      exact ⟨rfl, ⟨_, (asg (asg as1))⟩⟩
    · obtain rfl : i = wss.length := by omega
      clear ih
      refine Run.seq ?_
      refine Run.seq ?_
      refine Run.region ?_
      refine RunL.ok (OpOk.move rfl) rfl ?_
      refine RunL.ok (OpOk.move rfl) rfl ?_
      refine RunL.ok (OpOk.lenR rfl rfl rd2.left.left.left rfl) rfl ?_
      refine RunL.ok (OpOk.asF (OpOk.lss rfl rfl) (by omega)) rfl ?_
      refine RunL.ok (OpOk.move rfl) rfl ?_
      refine RunL.off rfl rfl rfl rfl ?_
      refine RunL.off rfl rfl rfl rfl ?_
      refine RunL.ok (OpOk.pickF rfl rfl) rfl ?_
      refine RunL.nil ?_
      refine Run.condF rfl ?_
      refine Run.exit rfl ?_
      refine Run.seq ?_
      refine Run.region ?_
      refine RunL.ok (OpOk.move rfl) rfl ?_
      refine RunL.call cal26 rfl (s26 (by omega) (by assumption)) rfl (fun vz1 Az1 hz1 => ?_)
      obtain ⟨rfl, rfl⟩ := hz1
      refine RunL.ok (OpOk.move rfl) rfl ?_
      refine RunL.ok (OpOk.lenSS rfl rfl rfl) rfl ?_
      refine RunL.ok (OpOk.asT (OpOk.eql rfl rfl) (by omega)) rfl ?_
      refine RunL.ok (OpOk.assign rfl) rfl ?_
      refine RunL.nil ?_
      refine Run.ret1 Try.func4 rfl rfl ?_
      exact ⟨rfl, ⟨_, (asg (asg as1))⟩⟩
end Go.Proofs.Ytlheianbmpgefaa
