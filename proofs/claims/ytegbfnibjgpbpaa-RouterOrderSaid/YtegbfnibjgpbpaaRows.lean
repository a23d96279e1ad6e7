/-
  No cell of these rows narrows 'for every input' (looked for: loops, veiled, ifaces, maps, wideKeys, modest, calm, conditions, laid).
  DERIVED. THE GIVEN ROWS OF THIS SEAT. 11 by the template 'for every input the law returns true; each argument reads behind the call as it read before'; 0 by the template 'total and deterministic' (their statements: YtegbfnibjgpbpaaTotals.lean).
  GIVEN WITH THE SEED: the statements are not yours to turn. If you find one false, say at which input.
  Laid BY PROGRAM, IN A SANDBOX (cutbox-rows.mjs): the forced cells as the released guide's own fill.sh prints them over the translation 00fdfd12b644967d… (all of the seat's roots in one cut). By AI agents, Wed Nov 11 2026. No macro, syntax, notation, axiom, sorry.
-/
import Derived.Test.YtegbfnibjgpbpaaChecked
import GoSem.Claim
import GoSem.ClaimJoined
import GoSem.ClaimMapViews
import Derived.JoinedTies
import Derived.KernelRfl
namespace Go.Proofs.Ytegbfnibjgpbpaa
/- THE CELL 'sum', in the pinned program and in every row, IS THE sha256 OF THE DUMP (.gsa) THAT YtegbfnibjgpbpaaProg.lean LOADS. Nothing in Lean hashes anything: it is a label: what it is worth is what the hold of that sum in a sandbox is worth. -/
noncomputable def Try.pinned : Pinned := { name := "ytegbfnibjgpbpaa", sum := "00fdfd12b644967d375b3daf69d9279dfb037f27b792fc6272273f65f3f48895", checked := Try.checked }
namespace Rows
def none {H : Type} : Left H := { results := [], args := [] }

/-- 'fareboxlaw19.LinkOrder': WHATEVER THE INPUT: true; the input reads as it did. -/
def linkOrderSpec : ChangeSpec := { name := "linkOrder", fn := fun _ => fun
  | [d1, d2, d3] => { results := [.lit (.bool true)], args := [d1, d2, d3] }
  | _ => none }
def linkOrderRow : OpenClaim := { program := "ytegbfnibjgpbpaa", sum := "00fdfd12b644967d375b3daf69d9279dfb037f27b792fc6272273f65f3f48895", func := "farebox/fareboxlaw19.LinkOrder", spec := "linkOrder", unfollowed := true, recurses := true, plainKeys := false, apart := false }
def LinkOrderSaid : Prop := linkOrderRow.holds Try.pinned (OpenSpec.ofChange linkOrderSpec)

/-- ITS FALSE NEIGHBOUR: 'it returns false'. Refute it at one input. -/
def linkOrderWrong : ChangeSpec := { name := "linkOrder", fn := fun _ => fun
  | [d1, d2, d3] => { results := [.lit (.bool false)], args := [d1, d2, d3] }
  | _ => none }
def LinkOrderWrongFalsely : Prop := linkOrderRow.holds Try.pinned (OpenSpec.ofChange linkOrderWrong)

/-- 'fareboxlaw19.LinkSweeps': WHATEVER THE INPUT: true; the input reads as it did. -/
def linkSweepsSpec : ChangeSpec := { name := "linkSweeps", fn := fun _ => fun
  | [d1, d2] => { results := [.lit (.bool true)], args := [d1, d2] }
  | _ => none }
def linkSweepsRow : OpenClaim := { program := "ytegbfnibjgpbpaa", sum := "00fdfd12b644967d375b3daf69d9279dfb037f27b792fc6272273f65f3f48895", func := "farebox/fareboxlaw19.LinkSweeps", spec := "linkSweeps", unfollowed := true, recurses := true, plainKeys := false, apart := false }
def LinkSweepsSaid : Prop := linkSweepsRow.holds Try.pinned (OpenSpec.ofChange linkSweepsSpec)

/-- ITS FALSE NEIGHBOUR: 'it returns false'. Refute it at one input. -/
def linkSweepsWrong : ChangeSpec := { name := "linkSweeps", fn := fun _ => fun
  | [d1, d2] => { results := [.lit (.bool false)], args := [d1, d2] }
  | _ => none }
def LinkSweepsWrongFalsely : Prop := linkSweepsRow.holds Try.pinned (OpenSpec.ofChange linkSweepsWrong)

/-- 'fareboxlaw19.LinkPlays': WHATEVER THE INPUT: true; the input reads as it did. -/
def linkPlaysSpec : ChangeSpec := { name := "linkPlays", fn := fun _ => fun
  | [d] => { results := [.lit (.bool true)], args := [d] }
  | _ => none }
def linkPlaysRow : OpenClaim := { program := "ytegbfnibjgpbpaa", sum := "00fdfd12b644967d375b3daf69d9279dfb037f27b792fc6272273f65f3f48895", func := "farebox/fareboxlaw19.LinkPlays", spec := "linkPlays", unfollowed := true, recurses := true, plainKeys := false, apart := false }
def LinkPlaysSaid : Prop := linkPlaysRow.holds Try.pinned (OpenSpec.ofChange linkPlaysSpec)

/-- ITS FALSE NEIGHBOUR: 'it returns false'. Refute it at one input. -/
def linkPlaysWrong : ChangeSpec := { name := "linkPlays", fn := fun _ => fun
  | [d] => { results := [.lit (.bool false)], args := [d] }
  | _ => none }
def LinkPlaysWrongFalsely : Prop := linkPlaysRow.holds Try.pinned (OpenSpec.ofChange linkPlaysWrong)

/-- 'fareboxlaw19.LinkKeeps': WHATEVER THE INPUT: true; the input reads as it did. -/
def linkKeepsSpec : ChangeSpec := { name := "linkKeeps", fn := fun _ => fun
  | [d1, d2, d3] => { results := [.lit (.bool true)], args := [d1, d2, d3] }
  | _ => none }
def linkKeepsRow : OpenClaim := { program := "ytegbfnibjgpbpaa", sum := "00fdfd12b644967d375b3daf69d9279dfb037f27b792fc6272273f65f3f48895", func := "farebox/fareboxlaw19.LinkKeeps", spec := "linkKeeps", unfollowed := true, recurses := true, plainKeys := false, apart := false }
def LinkKeepsSaid : Prop := linkKeepsRow.holds Try.pinned (OpenSpec.ofChange linkKeepsSpec)

/-- ITS FALSE NEIGHBOUR: 'it returns false'. Refute it at one input. -/
def linkKeepsWrong : ChangeSpec := { name := "linkKeeps", fn := fun _ => fun
  | [d1, d2, d3] => { results := [.lit (.bool false)], args := [d1, d2, d3] }
  | _ => none }
def LinkKeepsWrongFalsely : Prop := linkKeepsRow.holds Try.pinned (OpenSpec.ofChange linkKeepsWrong)

/-- 'fareboxlaw22.LedgerTogether': WHATEVER THE INPUT: true; the input reads as it did. -/
def ledgerTogetherSpec : ChangeSpec := { name := "ledgerTogether", fn := fun _ => fun
  | [d1, d2] => { results := [.lit (.bool true)], args := [d1, d2] }
  | _ => none }
def ledgerTogetherRow : OpenClaim := { program := "ytegbfnibjgpbpaa", sum := "00fdfd12b644967d375b3daf69d9279dfb037f27b792fc6272273f65f3f48895", func := "farebox/fareboxlaw22.LedgerTogether", spec := "ledgerTogether", plainKeys := false, apart := false }
def LedgerTogetherSaid : Prop := ledgerTogetherRow.holds Try.pinned (OpenSpec.ofChange ledgerTogetherSpec)

/-- ITS FALSE NEIGHBOUR: 'it returns false'. Refute it at one input. -/
def ledgerTogetherWrong : ChangeSpec := { name := "ledgerTogether", fn := fun _ => fun
  | [d1, d2] => { results := [.lit (.bool false)], args := [d1, d2] }
  | _ => none }
def LedgerTogetherWrongFalsely : Prop := ledgerTogetherRow.holds Try.pinned (OpenSpec.ofChange ledgerTogetherWrong)

/-- 'fareboxlaw22.LedgerTurned': WHATEVER THE INPUT: true; the input reads as it did. -/
def ledgerTurnedSpec : ChangeSpec := { name := "ledgerTurned", fn := fun _ => fun
  | [d1, d2] => { results := [.lit (.bool true)], args := [d1, d2] }
  | _ => none }
def ledgerTurnedRow : OpenClaim := { program := "ytegbfnibjgpbpaa", sum := "00fdfd12b644967d375b3daf69d9279dfb037f27b792fc6272273f65f3f48895", func := "farebox/fareboxlaw22.LedgerTurned", spec := "ledgerTurned", plainKeys := false, apart := false }
def LedgerTurnedSaid : Prop := ledgerTurnedRow.holds Try.pinned (OpenSpec.ofChange ledgerTurnedSpec)

/-- ITS FALSE NEIGHBOUR: 'it returns false'. Refute it at one input. -/
def ledgerTurnedWrong : ChangeSpec := { name := "ledgerTurned", fn := fun _ => fun
  | [d1, d2] => { results := [.lit (.bool false)], args := [d1, d2] }
  | _ => none }
def LedgerTurnedWrongFalsely : Prop := ledgerTurnedRow.holds Try.pinned (OpenSpec.ofChange ledgerTurnedWrong)

/-- 'fareboxlaw20.RouterPlays': WHATEVER THE INPUT: true; the input reads as it did. -/
def routerPlaysSpec : ChangeSpec := { name := "routerPlays", fn := fun _ => fun
  | [d1, d2, d3] => { results := [.lit (.bool true)], args := [d1, d2, d3] }
  | _ => none }
def routerPlaysRow : OpenClaim := { program := "ytegbfnibjgpbpaa", sum := "00fdfd12b644967d375b3daf69d9279dfb037f27b792fc6272273f65f3f48895", func := "farebox/fareboxlaw20.RouterPlays", spec := "routerPlays", unfollowed := true, recurses := true, plainKeys := false, apart := false }
def RouterPlaysSaid : Prop := routerPlaysRow.holds Try.pinned (OpenSpec.ofChange routerPlaysSpec)

/-- ITS FALSE NEIGHBOUR: 'it returns false'. Refute it at one input. -/
def routerPlaysWrong : ChangeSpec := { name := "routerPlays", fn := fun _ => fun
  | [d1, d2, d3] => { results := [.lit (.bool false)], args := [d1, d2, d3] }
  | _ => none }
def RouterPlaysWrongFalsely : Prop := routerPlaysRow.holds Try.pinned (OpenSpec.ofChange routerPlaysWrong)

/-- 'fareboxlaw20.RouterOrder': WHATEVER THE INPUT: true; the input reads as it did. -/
def routerOrderSpec : ChangeSpec := { name := "routerOrder", fn := fun _ => fun
  | [d1, d2] => { results := [.lit (.bool true)], args := [d1, d2] }
  | _ => none }
def routerOrderRow : OpenClaim := { program := "ytegbfnibjgpbpaa", sum := "00fdfd12b644967d375b3daf69d9279dfb037f27b792fc6272273f65f3f48895", func := "farebox/fareboxlaw20.RouterOrder", spec := "routerOrder", unfollowed := true, recurses := true, plainKeys := false, apart := false }
def RouterOrderSaid : Prop := routerOrderRow.holds Try.pinned (OpenSpec.ofChange routerOrderSpec)

/-- ITS FALSE NEIGHBOUR: 'it returns false'. Refute it at one input. -/
def routerOrderWrong : ChangeSpec := { name := "routerOrder", fn := fun _ => fun
  | [d1, d2] => { results := [.lit (.bool false)], args := [d1, d2] }
  | _ => none }
def RouterOrderWrongFalsely : Prop := routerOrderRow.holds Try.pinned (OpenSpec.ofChange routerOrderWrong)

/-- 'fareboxlaw20.RouterApart': WHATEVER THE INPUT: true; the input reads as it did. -/
def routerApartSpec : ChangeSpec := { name := "routerApart", fn := fun _ => fun
  | [d1, d2, d3] => { results := [.lit (.bool true)], args := [d1, d2, d3] }
  | _ => none }
def routerApartRow : OpenClaim := { program := "ytegbfnibjgpbpaa", sum := "00fdfd12b644967d375b3daf69d9279dfb037f27b792fc6272273f65f3f48895", func := "farebox/fareboxlaw20.RouterApart", spec := "routerApart", unfollowed := true, recurses := true, plainKeys := false, apart := false }
def RouterApartSaid : Prop := routerApartRow.holds Try.pinned (OpenSpec.ofChange routerApartSpec)

/-- ITS FALSE NEIGHBOUR: 'it returns false'. Refute it at one input. -/
def routerApartWrong : ChangeSpec := { name := "routerApart", fn := fun _ => fun
  | [d1, d2, d3] => { results := [.lit (.bool false)], args := [d1, d2, d3] }
  | _ => none }
def RouterApartWrongFalsely : Prop := routerApartRow.holds Try.pinned (OpenSpec.ofChange routerApartWrong)

/-- 'fareboxlaw22.LedgerPlays': WHATEVER THE INPUT: true; the input reads as it did. -/
def ledgerPlaysSpec : ChangeSpec := { name := "ledgerPlays", fn := fun _ => fun
  | [d1, d2] => { results := [.lit (.bool true)], args := [d1, d2] }
  | _ => none }
def ledgerPlaysRow : OpenClaim := { program := "ytegbfnibjgpbpaa", sum := "00fdfd12b644967d375b3daf69d9279dfb037f27b792fc6272273f65f3f48895", func := "farebox/fareboxlaw22.LedgerPlays", spec := "ledgerPlays", plainKeys := false, apart := false }
def LedgerPlaysSaid : Prop := ledgerPlaysRow.holds Try.pinned (OpenSpec.ofChange ledgerPlaysSpec)

/-- ITS FALSE NEIGHBOUR: 'it returns false'. Refute it at one input. -/
def ledgerPlaysWrong : ChangeSpec := { name := "ledgerPlays", fn := fun _ => fun
  | [d1, d2] => { results := [.lit (.bool false)], args := [d1, d2] }
  | _ => none }
def LedgerPlaysWrongFalsely : Prop := ledgerPlaysRow.holds Try.pinned (OpenSpec.ofChange ledgerPlaysWrong)

/-- 'fareboxlaw22.LedgerEven': WHATEVER THE INPUT: true; the input reads as it did. -/
def ledgerEvenSpec : ChangeSpec := { name := "ledgerEven", fn := fun _ => fun
  | [d1, d2] => { results := [.lit (.bool true)], args := [d1, d2] }
  | _ => none }
def ledgerEvenRow : OpenClaim := { program := "ytegbfnibjgpbpaa", sum := "00fdfd12b644967d375b3daf69d9279dfb037f27b792fc6272273f65f3f48895", func := "farebox/fareboxlaw22.LedgerEven", spec := "ledgerEven", plainKeys := false, apart := false }
def LedgerEvenSaid : Prop := ledgerEvenRow.holds Try.pinned (OpenSpec.ofChange ledgerEvenSpec)

/-- ITS FALSE NEIGHBOUR: 'it returns false'. Refute it at one input. -/
def ledgerEvenWrong : ChangeSpec := { name := "ledgerEven", fn := fun _ => fun
  | [d1, d2] => { results := [.lit (.bool false)], args := [d1, d2] }
  | _ => none }
def LedgerEvenWrongFalsely : Prop := ledgerEvenRow.holds Try.pinned (OpenSpec.ofChange ledgerEvenWrong)

/- THE SECOND FORM. 'bulk': how many values and letters a reading holds, each counted each time it is reached (what is shared counts as often as it is met; a slice's spare places count too). A statement '..UptoSaid' is the law's where the arguments, and the package variables that the reading takes, are together of bulk at most 1048576: NARROWER than '..Said'. Prove '..Said' where nothing that the law and all that it calls make is longer than what came in: it says more and counts as full. Else prove '..UptoSaid'. A law counts once. -/
mutual
def uptoBulk {H : Type} : DataW H → Nat
  | .lit (.string bytes) => bytes.length + 1
  | .lit _ => 1
  | .nil => 1
  | .ptr d => uptoBulk d + 1
  | .slice elems spare => uptoBulkAll elems + uptoBulkAll spare + 1
  | .agg parts => uptoBulkAll parts + 1
  | .iface _ d => uptoBulk d + 1
  | .map entries => uptoBulkEntries entries + 1
  | .held _ => 1
def uptoBulkAll {H : Type} : List (DataW H) → Nat
  | [] => 0
  | d :: r => uptoBulk d + uptoBulkAll r
def uptoBulkEntries {H : Type} : List (Lit × DataW H) → Nat
  | [] => 0
  | x :: r => uptoBulkEntry x + uptoBulkEntries r
def uptoBulkEntry {H : Type} : Lit × DataW H → Nat
  | (.string bytes, d) => bytes.length + uptoBulk d + 1
  | (_, d) => uptoBulk d + 1
 end
def uptoSmall : (H : Type) → List (DataW H) → Bool := fun _ ds => decide (uptoBulkAll ds ≤ 1048576)
def OpenSpec.upto (s : _root_.Go.ChangeSpec) : _root_.Go.OpenSpec := { _root_.Go.OpenSpec.ofChange s with cond := some uptoSmall }

/-- 'fareboxlaw19.LinkOrder', WHERE WHAT IT READS IS OF BULK AT MOST 1048576: true; the input reads as it did. -/
def linkOrderUptoRow : OpenClaim := { program := "ytegbfnibjgpbpaa", sum := "00fdfd12b644967d375b3daf69d9279dfb037f27b792fc6272273f65f3f48895", func := "farebox/fareboxlaw19.LinkOrder", spec := "linkOrder", unfollowed := true, recurses := true, plainKeys := false, apart := false, narrowed := true }
def LinkOrderUptoSaid : Prop := linkOrderUptoRow.holds Try.pinned (OpenSpec.upto linkOrderSpec)

/-- 'fareboxlaw19.LinkSweeps', WHERE WHAT IT READS IS OF BULK AT MOST 1048576: true; the input reads as it did. -/
def linkSweepsUptoRow : OpenClaim := { program := "ytegbfnibjgpbpaa", sum := "00fdfd12b644967d375b3daf69d9279dfb037f27b792fc6272273f65f3f48895", func := "farebox/fareboxlaw19.LinkSweeps", spec := "linkSweeps", unfollowed := true, recurses := true, plainKeys := false, apart := false, narrowed := true }
def LinkSweepsUptoSaid : Prop := linkSweepsUptoRow.holds Try.pinned (OpenSpec.upto linkSweepsSpec)

/-- 'fareboxlaw19.LinkPlays', WHERE WHAT IT READS IS OF BULK AT MOST 1048576: true; the input reads as it did. -/
def linkPlaysUptoRow : OpenClaim := { program := "ytegbfnibjgpbpaa", sum := "00fdfd12b644967d375b3daf69d9279dfb037f27b792fc6272273f65f3f48895", func := "farebox/fareboxlaw19.LinkPlays", spec := "linkPlays", unfollowed := true, recurses := true, plainKeys := false, apart := false, narrowed := true }
def LinkPlaysUptoSaid : Prop := linkPlaysUptoRow.holds Try.pinned (OpenSpec.upto linkPlaysSpec)

/-- 'fareboxlaw19.LinkKeeps', WHERE WHAT IT READS IS OF BULK AT MOST 1048576: true; the input reads as it did. -/
def linkKeepsUptoRow : OpenClaim := { program := "ytegbfnibjgpbpaa", sum := "00fdfd12b644967d375b3daf69d9279dfb037f27b792fc6272273f65f3f48895", func := "farebox/fareboxlaw19.LinkKeeps", spec := "linkKeeps", unfollowed := true, recurses := true, plainKeys := false, apart := false, narrowed := true }
def LinkKeepsUptoSaid : Prop := linkKeepsUptoRow.holds Try.pinned (OpenSpec.upto linkKeepsSpec)

/-- 'fareboxlaw22.LedgerTogether', WHERE WHAT IT READS IS OF BULK AT MOST 1048576: true; the input reads as it did. -/
def ledgerTogetherUptoRow : OpenClaim := { program := "ytegbfnibjgpbpaa", sum := "00fdfd12b644967d375b3daf69d9279dfb037f27b792fc6272273f65f3f48895", func := "farebox/fareboxlaw22.LedgerTogether", spec := "ledgerTogether", plainKeys := false, apart := false, narrowed := true }
def LedgerTogetherUptoSaid : Prop := ledgerTogetherUptoRow.holds Try.pinned (OpenSpec.upto ledgerTogetherSpec)

/-- 'fareboxlaw22.LedgerTurned', WHERE WHAT IT READS IS OF BULK AT MOST 1048576: true; the input reads as it did. -/
def ledgerTurnedUptoRow : OpenClaim := { program := "ytegbfnibjgpbpaa", sum := "00fdfd12b644967d375b3daf69d9279dfb037f27b792fc6272273f65f3f48895", func := "farebox/fareboxlaw22.LedgerTurned", spec := "ledgerTurned", plainKeys := false, apart := false, narrowed := true }
def LedgerTurnedUptoSaid : Prop := ledgerTurnedUptoRow.holds Try.pinned (OpenSpec.upto ledgerTurnedSpec)

/-- 'fareboxlaw20.RouterPlays', WHERE WHAT IT READS IS OF BULK AT MOST 1048576: true; the input reads as it did. -/
def routerPlaysUptoRow : OpenClaim := { program := "ytegbfnibjgpbpaa", sum := "00fdfd12b644967d375b3daf69d9279dfb037f27b792fc6272273f65f3f48895", func := "farebox/fareboxlaw20.RouterPlays", spec := "routerPlays", unfollowed := true, recurses := true, plainKeys := false, apart := false, narrowed := true }
def RouterPlaysUptoSaid : Prop := routerPlaysUptoRow.holds Try.pinned (OpenSpec.upto routerPlaysSpec)

/-- 'fareboxlaw20.RouterOrder', WHERE WHAT IT READS IS OF BULK AT MOST 1048576: true; the input reads as it did. -/
def routerOrderUptoRow : OpenClaim := { program := "ytegbfnibjgpbpaa", sum := "00fdfd12b644967d375b3daf69d9279dfb037f27b792fc6272273f65f3f48895", func := "farebox/fareboxlaw20.RouterOrder", spec := "routerOrder", unfollowed := true, recurses := true, plainKeys := false, apart := false, narrowed := true }
def RouterOrderUptoSaid : Prop := routerOrderUptoRow.holds Try.pinned (OpenSpec.upto routerOrderSpec)

/-- 'fareboxlaw20.RouterApart', WHERE WHAT IT READS IS OF BULK AT MOST 1048576: true; the input reads as it did. -/
def routerApartUptoRow : OpenClaim := { program := "ytegbfnibjgpbpaa", sum := "00fdfd12b644967d375b3daf69d9279dfb037f27b792fc6272273f65f3f48895", func := "farebox/fareboxlaw20.RouterApart", spec := "routerApart", unfollowed := true, recurses := true, plainKeys := false, apart := false, narrowed := true }
def RouterApartUptoSaid : Prop := routerApartUptoRow.holds Try.pinned (OpenSpec.upto routerApartSpec)

/-- 'fareboxlaw22.LedgerPlays', WHERE WHAT IT READS IS OF BULK AT MOST 1048576: true; the input reads as it did. -/
def ledgerPlaysUptoRow : OpenClaim := { program := "ytegbfnibjgpbpaa", sum := "00fdfd12b644967d375b3daf69d9279dfb037f27b792fc6272273f65f3f48895", func := "farebox/fareboxlaw22.LedgerPlays", spec := "ledgerPlays", plainKeys := false, apart := false, narrowed := true }
def LedgerPlaysUptoSaid : Prop := ledgerPlaysUptoRow.holds Try.pinned (OpenSpec.upto ledgerPlaysSpec)

/-- 'fareboxlaw22.LedgerEven', WHERE WHAT IT READS IS OF BULK AT MOST 1048576: true; the input reads as it did. -/
def ledgerEvenUptoRow : OpenClaim := { program := "ytegbfnibjgpbpaa", sum := "00fdfd12b644967d375b3daf69d9279dfb037f27b792fc6272273f65f3f48895", func := "farebox/fareboxlaw22.LedgerEven", spec := "ledgerEven", plainKeys := false, apart := false, narrowed := true }
def LedgerEvenUptoSaid : Prop := ledgerEvenUptoRow.holds Try.pinned (OpenSpec.upto ledgerEvenSpec)

end Rows
end Go.Proofs.Ytegbfnibjgpbpaa
