/- Elements of slices that have been given a name. Words of our own. -/
import Derived.Test.YteopadjihklkmaaMp
namespace Go.Proofs.Yteopadjihklkmaa
open Go Go.Proofs
section
variable {P : Program} {n : Nat} {w0 : World} {E : Env} {A : Asn} {ty : TypeId}
theorem OpOk.loadFl1E {α : Type} {enc : α → List Value} {t : TypeId} {d : TypeDesc} {x : Operand} {v u : Value} {i j m size : Nat} {ys : List α} {z y : α} (he : ys.getD i z = y) (hu : P.underlying t = some d) (hd : aggD d = false) (hx : ev E x = some (.pointer (some ((adr v).add (i * size + j)))))
    (rd : Rd w0 A v size m (Fl enc ys)) (hs : ∀ y, (enc y).length = size) (h0 : Nat.ble 1 size = true) (hi : i < m) (hj : (enc y)[j]? = some u) : OpOk P n w0 (.load t x) ty E A u := by
  subst he
  exact OpOk.loadFl1 z hu hd hx rd hs h0 hi hj
theorem OpOk.loadFlGE {α : Type} {enc : α → List Value} {t : TypeId} {d : TypeDesc} {x : Operand} {v : Value} {i o m size sz : Nat} {ys : List α} {z y : α} (he : ys.getD i z = y) (cs : List Value) (hu : P.underlying t = some d) (hd : aggD d = true) {zz : Value} {bb : Nat} (hz : TyI P t zz sz bb)
    (hx : ev E x = some (.pointer (some ((adr v).add (i * size + o))))) (rd : Rd w0 A v size m (Fl enc ys)) (hs : ∀ y, (enc y).length = size) (hi : i < m) (hm : ys.length = m) (hc : ((enc y).drop o).take sz = cs) (hl : cs.length = sz) :
    OpOk P n w0 (.load t x) ty E A (.agg cs.toArray) := by
  subst he
  exact OpOk.loadFlG z cs hu hd hz hx rd hs hi hm hc hl
end
end Go.Proofs.Yteopadjihklkmaa
