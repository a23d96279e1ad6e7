/- Part 3 of the proof of ShellFormats. -/
import Derived.Test.YteopadjihklkmaaMShellFormats2
import Derived.Laws.StructEq
section
namespace Go.Proofs.Yteopadjihklkmaa
open Go Go.Proofs
/-- What nobody needs any more is let go. -/
theorem Run.keep {P : Program} {fid : Fid} {n : Nat} {R : Ending → World → Prop} {w0 : World} {k : List Item} {E : Env} {A : Asn} (A' : Asn) (g : Grew A' A) (h : Run P fid n R w0 k E A') : Run P fid n R w0 k E A :=
  ⟨fun a w he hs => by obtain ⟨J, rfl⟩ := g; exact h.out a w he hs.weak⟩
theorem RunL.keep {P : Program} {n : Nat} {w0 : World} {ops : Array Oper} {l : List Oper} {K : Act → World → Prop} {E : Env} {A : Asn} (A' : Asn) (g : Grew A' A) (h : RunL P n w0 ops l K E A') : RunL P n w0 ops l K E A :=
  ⟨fun a w he hs => by obtain ⟨J, rfl⟩ := g; exact h.out a w he hs.weak⟩
theorem Spec.keep {P : Program} {w0 : World} {f : FuncId} {args : List Value} {A : Asn} {R R' : Value → Asn → Prop} (h : Spec P w0 f args A R) (hr : ∀ v A1, R v A1 → ∃ A2, Grew A2 A1 ∧ R' v A2) : Spec P w0 f args A R' :=
  ⟨fun w hs => (h.out w hs).mono fun _ _ ⟨v, _, hR, he, hs⟩ => let ⟨A2, ⟨_, h1⟩, h2⟩ := hr _ _ hR; ⟨v, A2, h2, he, (hs.conv h1).weak⟩⟩
/-- The block b holds these cells. -/
structure Blk (w0 : World) (A : Asn) (b : Nat) (cs : List Value) : Prop where
  out : ∀ j u, cs[j]? = some u → Cell w0 A ⟨b, j, none⟩ u
theorem Blk.pts {w0 : World} {A : Asn} {b : Nat} {cs : List Value} {t : TypeId} {fr : Nat × Nat} : Blk w0 (A * pts b (.cells cs.toArray t fr)) b cs :=
  ⟨fun j u h => Cell.pts (by simpa using h)⟩
theorem Blk.left {w0 : World} {A C : Asn} {b : Nat} {cs : List Value} (h : Blk w0 A b cs) : Blk w0 (A * C) b cs := ⟨fun j u hj => (h.out j u hj).left⟩
section
variable {P : Program} {n : Nat} {w0 : World} {ops : Array Oper} {l : List Oper} {K : Act → World → Prop} {E : Env} {A : Asn} {ty : TypeId}
theorem OpOk.loadS {t : TypeId} {d : TypeDesc} {x : Operand} {b m : Nat} {cs : List Value} (hu : P.underlying t = some d) (hd : aggD d = true) {zz : Value} {bb : Nat} (hz : TyI P t zz m bb) (hx : ev E x = some (.pointer (some ⟨b, 0, none⟩)))
    (h : Blk w0 A b cs) (hl : cs.length = m) : OpOk P n w0 (.load t x) ty E A (.agg cs.toArray) :=
  OpOk.loadG hu hd hz hx hl fun j u hj => by
    have e : (⟨b, 0, none⟩ : Addr).add j = ⟨b, j, none⟩ := by unfold Addr.add; split <;> simp_all
    rw [e]
    exact h.out j u hj
/-- A struct in a slice. -/
theorem OpOk.loadR {t : TypeId} {d : TypeDesc} {x : Operand} {v : Value} {q m size : Nat} {xs cs : List Value} (hu : P.underlying t = some d) (hd : aggD d = true) {zz : Value} {bb : Nat} (hz : TyI P t zz size bb) (hx : ev E x = some (.pointer (some ((adr v).add q))))
    (rd : Rd w0 A v size m xs) (hc : cs.length = size) (hk : ∀ j u, cs[j]? = some u → xs[q + j]? = some u) : OpOk P n w0 (.load t x) ty E A (.agg cs.toArray) :=
  OpOk.loadG hu hd hz hx hc fun j u hj => by
    have := rd.cell (hk j u hj)
    have e : ((adr v).add q).add j = (adr v).add (q + j) := by
      unfold Addr.add
      by_cases e1 : q = 0
      · simp [e1]
      · by_cases e2 : j = 0
        · simp [e1, e2]
        · simp [e1, e2, Nat.add_assoc]
    rw [e]
    exact this
end
section
variable {P : Program} {fid : Fid} {n : Nat} {w0 : World} {E : Env} {A : Asn}
theorem loadVar_blk {t : TypeId} {d : TypeDesc} {b m : Nat} {cs : List Value} {w : World} (hu : P.underlying t = some d) (hd : aggD d = true) {zz : Value} {bb : Nat} (hz : TyI P t zz m bb) (h : Blk w0 A b cs) (hl : cs.length = m) (hs : Sat w0 w A) :
    (loadVar t ⟨b, 0, none⟩).run P w = .ok (.agg cs.toArray) w := by
  obtain ⟨f, hf, hsz⟩ := Option.map_eq_some_iff.1 hz.size
  have e : ∀ j, (⟨b, 0, none⟩ : Addr).add j = ⟨b, j, none⟩ := fun j => by unfold Addr.add; split <;> simp_all
  have h := run_loadCells_list (P := P) w ⟨b, 0, none⟩ cs (fun j v hj => by rw [e]; exact (h.out j v hj).out w hs)
  simp only [loadVar, Sem.run_bind, Sem.run_pure, Result.andThen_ok, run_isAgg w hu, hd, if_true, sizeOf, typeInfo, hf, run_program, hsz, ← hl, h]
/-- A struct and a value of one cell. -/
theorem Run.retC2 {f : FuncId} {fn : Func} {R' : Value → Asn → Prop} {q t q2 : Nat} {d : TypeDesc} {b m : Nat} {cs : List Value} {v2 : Value} {todo : List Item} (hf : P.funcs[f]? = some fn) (hr : fn.results = #[.cell q t, .tmp q2]) (hu : P.underlying t = some d) (hd : aggD d = true) {zz : Value} {bb : Nat} (hz : TyI P t zz m bb)
    (hq : lk E q = some (.pointer (some ⟨b, 0, none⟩))) (hq2 : lk E q2 = some v2) (h : Blk w0 A b cs) (hl : cs.length = m) {A' : Asn} (g : Grew A' A) (hR : R' (.tuple #[.agg cs.toArray, v2]) A') : Run P ⟨f, none, []⟩ n (Post w0 R') w0 (.code .ret :: todo) E A := by
  refine ⟨fun a w he hs => ?_⟩
  obtain ⟨J, hJ⟩ := g
  refine Runs.ret hf he.defers (v := .tuple #[.agg cs.toArray, v2]) ?_ hR (hs.conv hJ).weak
  have e2 := he.look q2 _ hq2
  simp only [results, hr]
  rw [show #[ResultVar.cell q t, ResultVar.tmp q2] = [ResultVar.cell q t, ResultVar.tmp q2].toArray from rfl, List.mapM_toArray]
  have e1 := he.look q _ hq
  rw [Array.getD_eq_getD_getElem?] at e1 e2
  simp [asAddr, e1, e2, loadVar_blk hu hd hz h hl hs]
end
end Go.Proofs.Yteopadjihklkmaa
end
