/-
  NARROWER THAN 'FOR EVERY INPUT', by the rows' own cells (each row's printed sentence says how): TlvPuts: loops · TlvCuts: loops · TlvJoins: loops · TlvBack: loops · TlvAsks: loops.
  DERIVED. THE GIVEN ROWS OF THIS SEAT. 12 by the template 'for every input the law returns true; each argument reads behind the call as it read before'; 0 by the template 'total and deterministic' (their statements: YtlheianbmpgefaaTotals.lean).
  GIVEN WITH THE SEED: the statements are not yours to turn. If you find one false, say at which input.
  Laid BY PROGRAM, IN A SANDBOX (cutbox-rows.mjs): the forced cells as the released guide's own fill.sh prints them over the translation a719a2c54ed8b3ff… (all of the seat's roots in one cut). By AI agents, Wed Nov 11 2026. No macro, syntax, notation, axiom, sorry.
-/
import Derived.Test.YtlheianbmpgefaaChecked
import GoSem.Claim
import GoSem.ClaimJoined
import GoSem.ClaimMapViews
import Derived.JoinedTies
import Derived.KernelRfl
namespace Go.Proofs.Ytlheianbmpgefaa
/- THE CELL 'sum', in the pinned program and in every row, IS THE sha256 OF THE DUMP (.gsa) THAT YtlheianbmpgefaaProg.lean LOADS. Nothing in Lean hashes anything: it is a label: what it is worth is what the hold of that sum in a sandbox is worth. -/
noncomputable def Try.pinned : Pinned := { name := "ytlheianbmpgefaa", sum := "a719a2c54ed8b3ffced9e34f5b32926ef784c001cb0ecad5cfd8c9ea7f06b18c", checked := Try.checked }
namespace Rows
def none {H : Type} : Left H := { results := [], args := [] }

/-- 'fareboxlaw01.BitsPuts': WHATEVER THE INPUT: true; the input reads as it did. -/
def bitsPutsSpec : ChangeSpec := { name := "bitsPuts", fn := fun _ => fun
  | [d] => { results := [.lit (.bool true)], args := [d] }
  | _ => none }
def bitsPutsRow : OpenClaim := { program := "ytlheianbmpgefaa", sum := "a719a2c54ed8b3ffced9e34f5b32926ef784c001cb0ecad5cfd8c9ea7f06b18c", func := "farebox/fareboxlaw01.BitsPuts", spec := "bitsPuts", apart := false }
def BitsPutsSaid : Prop := bitsPutsRow.holds Try.pinned (OpenSpec.ofChange bitsPutsSpec)

/-- ITS FALSE NEIGHBOUR: 'it returns false'. Refute it at one input. -/
def bitsPutsWrong : ChangeSpec := { name := "bitsPuts", fn := fun _ => fun
  | [d] => { results := [.lit (.bool false)], args := [d] }
  | _ => none }
def BitsPutsWrongFalsely : Prop := bitsPutsRow.holds Try.pinned (OpenSpec.ofChange bitsPutsWrong)

/-- 'fareboxlaw01.BitsTakes': WHATEVER THE INPUT: true; the input reads as it did. -/
def bitsTakesSpec : ChangeSpec := { name := "bitsTakes", fn := fun _ => fun
  | [d1, d2] => { results := [.lit (.bool true)], args := [d1, d2] }
  | _ => none }
def bitsTakesRow : OpenClaim := { program := "ytlheianbmpgefaa", sum := "a719a2c54ed8b3ffced9e34f5b32926ef784c001cb0ecad5cfd8c9ea7f06b18c", func := "farebox/fareboxlaw01.BitsTakes", spec := "bitsTakes", apart := false }
def BitsTakesSaid : Prop := bitsTakesRow.holds Try.pinned (OpenSpec.ofChange bitsTakesSpec)

/-- ITS FALSE NEIGHBOUR: 'it returns false'. Refute it at one input. -/
def bitsTakesWrong : ChangeSpec := { name := "bitsTakes", fn := fun _ => fun
  | [d1, d2] => { results := [.lit (.bool false)], args := [d1, d2] }
  | _ => none }
def BitsTakesWrongFalsely : Prop := bitsTakesRow.holds Try.pinned (OpenSpec.ofChange bitsTakesWrong)

/-- 'fareboxlaw01.BitsCuts': WHATEVER THE INPUT: true; the input reads as it did. -/
def bitsCutsSpec : ChangeSpec := { name := "bitsCuts", fn := fun _ => fun
  | [d1, d2, d3] => { results := [.lit (.bool true)], args := [d1, d2, d3] }
  | _ => none }
def bitsCutsRow : OpenClaim := { program := "ytlheianbmpgefaa", sum := "a719a2c54ed8b3ffced9e34f5b32926ef784c001cb0ecad5cfd8c9ea7f06b18c", func := "farebox/fareboxlaw01.BitsCuts", spec := "bitsCuts", apart := false }
def BitsCutsSaid : Prop := bitsCutsRow.holds Try.pinned (OpenSpec.ofChange bitsCutsSpec)

/-- ITS FALSE NEIGHBOUR: 'it returns false'. Refute it at one input. -/
def bitsCutsWrong : ChangeSpec := { name := "bitsCuts", fn := fun _ => fun
  | [d1, d2, d3] => { results := [.lit (.bool false)], args := [d1, d2, d3] }
  | _ => none }
def BitsCutsWrongFalsely : Prop := bitsCutsRow.holds Try.pinned (OpenSpec.ofChange bitsCutsWrong)

/-- 'fareboxlaw01.BitsBack': WHATEVER THE INPUT: true; the input reads as it did. -/
def bitsBackSpec : ChangeSpec := { name := "bitsBack", fn := fun _ => fun
  | [d] => { results := [.lit (.bool true)], args := [d] }
  | _ => none }
def bitsBackRow : OpenClaim := { program := "ytlheianbmpgefaa", sum := "a719a2c54ed8b3ffced9e34f5b32926ef784c001cb0ecad5cfd8c9ea7f06b18c", func := "farebox/fareboxlaw01.BitsBack", spec := "bitsBack", apart := false }
def BitsBackSaid : Prop := bitsBackRow.holds Try.pinned (OpenSpec.ofChange bitsBackSpec)

/-- ITS FALSE NEIGHBOUR: 'it returns false'. Refute it at one input. -/
def bitsBackWrong : ChangeSpec := { name := "bitsBack", fn := fun _ => fun
  | [d] => { results := [.lit (.bool false)], args := [d] }
  | _ => none }
def BitsBackWrongFalsely : Prop := bitsBackRow.holds Try.pinned (OpenSpec.ofChange bitsBackWrong)

/-- 'fareboxlaw01.BitsJoins': WHATEVER THE INPUT: true; the input reads as it did. -/
def bitsJoinsSpec : ChangeSpec := { name := "bitsJoins", fn := fun _ => fun
  | [d1, d2] => { results := [.lit (.bool true)], args := [d1, d2] }
  | _ => none }
def bitsJoinsRow : OpenClaim := { program := "ytlheianbmpgefaa", sum := "a719a2c54ed8b3ffced9e34f5b32926ef784c001cb0ecad5cfd8c9ea7f06b18c", func := "farebox/fareboxlaw01.BitsJoins", spec := "bitsJoins", apart := false }
def BitsJoinsSaid : Prop := bitsJoinsRow.holds Try.pinned (OpenSpec.ofChange bitsJoinsSpec)

/-- ITS FALSE NEIGHBOUR: 'it returns false'. Refute it at one input. -/
def bitsJoinsWrong : ChangeSpec := { name := "bitsJoins", fn := fun _ => fun
  | [d1, d2] => { results := [.lit (.bool false)], args := [d1, d2] }
  | _ => none }
def BitsJoinsWrongFalsely : Prop := bitsJoinsRow.holds Try.pinned (OpenSpec.ofChange bitsJoinsWrong)

/-- 'fareboxlaw04.TlvPuts': WHATEVER THE INPUT: true; the input reads as it did. -/
def tlvPutsSpec : ChangeSpec := { name := "tlvPuts", fn := fun _ => fun
  | [d] => { results := [.lit (.bool true)], args := [d] }
  | _ => none }
def tlvPutsRow : OpenClaim := { program := "ytlheianbmpgefaa", sum := "a719a2c54ed8b3ffced9e34f5b32926ef784c001cb0ecad5cfd8c9ea7f06b18c", func := "farebox/fareboxlaw04.TlvPuts", spec := "tlvPuts", unfollowed := true, recurses := true, loops := true, apart := false }
def TlvPutsSaid : Prop := tlvPutsRow.holds Try.pinned (OpenSpec.ofChange tlvPutsSpec)

/-- ITS FALSE NEIGHBOUR: 'it returns false'. Refute it at one input. -/
def tlvPutsWrong : ChangeSpec := { name := "tlvPuts", fn := fun _ => fun
  | [d] => { results := [.lit (.bool false)], args := [d] }
  | _ => none }
def TlvPutsWrongFalsely : Prop := tlvPutsRow.holds Try.pinned (OpenSpec.ofChange tlvPutsWrong)

/-- 'fareboxlaw04.TlvGets': WHATEVER THE INPUT: true; the input reads as it did. -/
def tlvGetsSpec : ChangeSpec := { name := "tlvGets", fn := fun _ => fun
  | [d] => { results := [.lit (.bool true)], args := [d] }
  | _ => none }
def tlvGetsRow : OpenClaim := { program := "ytlheianbmpgefaa", sum := "a719a2c54ed8b3ffced9e34f5b32926ef784c001cb0ecad5cfd8c9ea7f06b18c", func := "farebox/fareboxlaw04.TlvGets", spec := "tlvGets", unfollowed := true, recurses := true, apart := false }
def TlvGetsSaid : Prop := tlvGetsRow.holds Try.pinned (OpenSpec.ofChange tlvGetsSpec)

/-- ITS FALSE NEIGHBOUR: 'it returns false'. Refute it at one input. -/
def tlvGetsWrong : ChangeSpec := { name := "tlvGets", fn := fun _ => fun
  | [d] => { results := [.lit (.bool false)], args := [d] }
  | _ => none }
def TlvGetsWrongFalsely : Prop := tlvGetsRow.holds Try.pinned (OpenSpec.ofChange tlvGetsWrong)

/-- 'fareboxlaw04.TlvCuts': WHATEVER THE INPUT: true; the input reads as it did. -/
def tlvCutsSpec : ChangeSpec := { name := "tlvCuts", fn := fun _ => fun
  | [d1, d2] => { results := [.lit (.bool true)], args := [d1, d2] }
  | _ => none }
def tlvCutsRow : OpenClaim := { program := "ytlheianbmpgefaa", sum := "a719a2c54ed8b3ffced9e34f5b32926ef784c001cb0ecad5cfd8c9ea7f06b18c", func := "farebox/fareboxlaw04.TlvCuts", spec := "tlvCuts", unfollowed := true, recurses := true, loops := true, apart := false }
def TlvCutsSaid : Prop := tlvCutsRow.holds Try.pinned (OpenSpec.ofChange tlvCutsSpec)

/-- ITS FALSE NEIGHBOUR: 'it returns false'. Refute it at one input. -/
def tlvCutsWrong : ChangeSpec := { name := "tlvCuts", fn := fun _ => fun
  | [d1, d2] => { results := [.lit (.bool false)], args := [d1, d2] }
  | _ => none }
def TlvCutsWrongFalsely : Prop := tlvCutsRow.holds Try.pinned (OpenSpec.ofChange tlvCutsWrong)

/-- 'fareboxlaw04.TlvJoins': WHATEVER THE INPUT: true; the input reads as it did. -/
def tlvJoinsSpec : ChangeSpec := { name := "tlvJoins", fn := fun _ => fun
  | [d1, d2] => { results := [.lit (.bool true)], args := [d1, d2] }
  | _ => none }
def tlvJoinsRow : OpenClaim := { program := "ytlheianbmpgefaa", sum := "a719a2c54ed8b3ffced9e34f5b32926ef784c001cb0ecad5cfd8c9ea7f06b18c", func := "farebox/fareboxlaw04.TlvJoins", spec := "tlvJoins", unfollowed := true, recurses := true, loops := true, apart := false }
def TlvJoinsSaid : Prop := tlvJoinsRow.holds Try.pinned (OpenSpec.ofChange tlvJoinsSpec)

/-- ITS FALSE NEIGHBOUR: 'it returns false'. Refute it at one input. -/
def tlvJoinsWrong : ChangeSpec := { name := "tlvJoins", fn := fun _ => fun
  | [d1, d2] => { results := [.lit (.bool false)], args := [d1, d2] }
  | _ => none }
def TlvJoinsWrongFalsely : Prop := tlvJoinsRow.holds Try.pinned (OpenSpec.ofChange tlvJoinsWrong)

/-- 'fareboxlaw04.TlvNums': WHATEVER THE INPUT: true; the input reads as it did. -/
def tlvNumsSpec : ChangeSpec := { name := "tlvNums", fn := fun _ => fun
  | [d1, d2] => { results := [.lit (.bool true)], args := [d1, d2] }
  | _ => none }
def tlvNumsRow : OpenClaim := { program := "ytlheianbmpgefaa", sum := "a719a2c54ed8b3ffced9e34f5b32926ef784c001cb0ecad5cfd8c9ea7f06b18c", func := "farebox/fareboxlaw04.TlvNums", spec := "tlvNums", unfollowed := true, recurses := true, apart := false }
def TlvNumsSaid : Prop := tlvNumsRow.holds Try.pinned (OpenSpec.ofChange tlvNumsSpec)

/-- ITS FALSE NEIGHBOUR: 'it returns false'. Refute it at one input. -/
def tlvNumsWrong : ChangeSpec := { name := "tlvNums", fn := fun _ => fun
  | [d1, d2] => { results := [.lit (.bool false)], args := [d1, d2] }
  | _ => none }
def TlvNumsWrongFalsely : Prop := tlvNumsRow.holds Try.pinned (OpenSpec.ofChange tlvNumsWrong)

/-- 'fareboxlaw04.TlvBack': WHATEVER THE INPUT: true; the input reads as it did. -/
def tlvBackSpec : ChangeSpec := { name := "tlvBack", fn := fun _ => fun
  | [d1, d2] => { results := [.lit (.bool true)], args := [d1, d2] }
  | _ => none }
def tlvBackRow : OpenClaim := { program := "ytlheianbmpgefaa", sum := "a719a2c54ed8b3ffced9e34f5b32926ef784c001cb0ecad5cfd8c9ea7f06b18c", func := "farebox/fareboxlaw04.TlvBack", spec := "tlvBack", unfollowed := true, recurses := true, loops := true, apart := false }
def TlvBackSaid : Prop := tlvBackRow.holds Try.pinned (OpenSpec.ofChange tlvBackSpec)

/-- ITS FALSE NEIGHBOUR: 'it returns false'. Refute it at one input. -/
def tlvBackWrong : ChangeSpec := { name := "tlvBack", fn := fun _ => fun
  | [d1, d2] => { results := [.lit (.bool false)], args := [d1, d2] }
  | _ => none }
def TlvBackWrongFalsely : Prop := tlvBackRow.holds Try.pinned (OpenSpec.ofChange tlvBackWrong)

/-- 'fareboxlaw04.TlvAsks': WHATEVER THE INPUT: true; the input reads as it did. -/
def tlvAsksSpec : ChangeSpec := { name := "tlvAsks", fn := fun _ => fun
  | [d1, d2, d3] => { results := [.lit (.bool true)], args := [d1, d2, d3] }
  | _ => none }
def tlvAsksRow : OpenClaim := { program := "ytlheianbmpgefaa", sum := "a719a2c54ed8b3ffced9e34f5b32926ef784c001cb0ecad5cfd8c9ea7f06b18c", func := "farebox/fareboxlaw04.TlvAsks", spec := "tlvAsks", unfollowed := true, recurses := true, loops := true, apart := false }
def TlvAsksSaid : Prop := tlvAsksRow.holds Try.pinned (OpenSpec.ofChange tlvAsksSpec)

/-- ITS FALSE NEIGHBOUR: 'it returns false'. Refute it at one input. -/
def tlvAsksWrong : ChangeSpec := { name := "tlvAsks", fn := fun _ => fun
  | [d1, d2, d3] => { results := [.lit (.bool false)], args := [d1, d2, d3] }
  | _ => none }
def TlvAsksWrongFalsely : Prop := tlvAsksRow.holds Try.pinned (OpenSpec.ofChange tlvAsksWrong)

/- THE SECOND FORM. 'bulk': how many values and letters a reading holds, each counted each time it is reached (what is shared counts as often as it is met; a slice's spare places count too). A statement '..UptoSaid' is the law's where the arguments, and the package variables that the reading takes, are together of bulk at most 1048576: NARROWER than '..Said'. Prove '..Said' where nothing that the law and all that it calls make is longer than what came in: it says more and counts as full. Else prove '..UptoSaid'. A law counts once. -/
mutual
def uptoBulk {H : Type} : DataW H → Nat
  | .lit (.string bytes) => bytes.length + 1
  | .lit _ => 1
  | .nil => 1
  | .ptr d => uptoBulk d + 1
  | .slice elems spare => uptoBulkAll elems + uptoBulkAll spare + 1
  | .agg parts => uptoBulkAll parts + 1
  | .iface _ d => uptoBulk d + 1
  | .map entries => uptoBulkEntries entries + 1
  | .held _ => 1
def uptoBulkAll {H : Type} : List (DataW H) → Nat
  | [] => 0
  | d :: r => uptoBulk d + uptoBulkAll r
def uptoBulkEntries {H : Type} : List (Lit × DataW H) → Nat
  | [] => 0
  | x :: r => uptoBulkEntry x + uptoBulkEntries r
def uptoBulkEntry {H : Type} : Lit × DataW H → Nat
  | (.string bytes, d) => bytes.length + uptoBulk d + 1
  | (_, d) => uptoBulk d + 1
 end
def uptoSmall : (H : Type) → List (DataW H) → Bool := fun _ ds => decide (uptoBulkAll ds ≤ 1048576)
def OpenSpec.upto (s : _root_.Go.ChangeSpec) : _root_.Go.OpenSpec := { _root_.Go.OpenSpec.ofChange s with cond := some uptoSmall }

/-- 'fareboxlaw01.BitsPuts', WHERE WHAT IT READS IS OF BULK AT MOST 1048576: true; the input reads as it did. -/
def bitsPutsUptoRow : OpenClaim := { program := "ytlheianbmpgefaa", sum := "a719a2c54ed8b3ffced9e34f5b32926ef784c001cb0ecad5cfd8c9ea7f06b18c", func := "farebox/fareboxlaw01.BitsPuts", spec := "bitsPuts", apart := false, narrowed := true }
def BitsPutsUptoSaid : Prop := bitsPutsUptoRow.holds Try.pinned (OpenSpec.upto bitsPutsSpec)

/-- 'fareboxlaw01.BitsTakes', WHERE WHAT IT READS IS OF BULK AT MOST 1048576: true; the input reads as it did. -/
def bitsTakesUptoRow : OpenClaim := { program := "ytlheianbmpgefaa", sum := "a719a2c54ed8b3ffced9e34f5b32926ef784c001cb0ecad5cfd8c9ea7f06b18c", func := "farebox/fareboxlaw01.BitsTakes", spec := "bitsTakes", apart := false, narrowed := true }
def BitsTakesUptoSaid : Prop := bitsTakesUptoRow.holds Try.pinned (OpenSpec.upto bitsTakesSpec)

/-- 'fareboxlaw01.BitsCuts', WHERE WHAT IT READS IS OF BULK AT MOST 1048576: true; the input reads as it did. -/
def bitsCutsUptoRow : OpenClaim := { program := "ytlheianbmpgefaa", sum := "a719a2c54ed8b3ffced9e34f5b32926ef784c001cb0ecad5cfd8c9ea7f06b18c", func := "farebox/fareboxlaw01.BitsCuts", spec := "bitsCuts", apart := false, narrowed := true }
def BitsCutsUptoSaid : Prop := bitsCutsUptoRow.holds Try.pinned (OpenSpec.upto bitsCutsSpec)

/-- 'fareboxlaw01.BitsBack', WHERE WHAT IT READS IS OF BULK AT MOST 1048576: true; the input reads as it did. -/
def bitsBackUptoRow : OpenClaim := { program := "ytlheianbmpgefaa", sum := "a719a2c54ed8b3ffced9e34f5b32926ef784c001cb0ecad5cfd8c9ea7f06b18c", func := "farebox/fareboxlaw01.BitsBack", spec := "bitsBack", apart := false, narrowed := true }
def BitsBackUptoSaid : Prop := bitsBackUptoRow.holds Try.pinned (OpenSpec.upto bitsBackSpec)

/-- 'fareboxlaw01.BitsJoins', WHERE WHAT IT READS IS OF BULK AT MOST 1048576: true; the input reads as it did. -/
def bitsJoinsUptoRow : OpenClaim := { program := "ytlheianbmpgefaa", sum := "a719a2c54ed8b3ffced9e34f5b32926ef784c001cb0ecad5cfd8c9ea7f06b18c", func := "farebox/fareboxlaw01.BitsJoins", spec := "bitsJoins", apart := false, narrowed := true }
def BitsJoinsUptoSaid : Prop := bitsJoinsUptoRow.holds Try.pinned (OpenSpec.upto bitsJoinsSpec)

/-- 'fareboxlaw04.TlvPuts', WHERE WHAT IT READS IS OF BULK AT MOST 1048576: true; the input reads as it did. -/
def tlvPutsUptoRow : OpenClaim := { program := "ytlheianbmpgefaa", sum := "a719a2c54ed8b3ffced9e34f5b32926ef784c001cb0ecad5cfd8c9ea7f06b18c", func := "farebox/fareboxlaw04.TlvPuts", spec := "tlvPuts", unfollowed := true, recurses := true, loops := true, apart := false, narrowed := true }
def TlvPutsUptoSaid : Prop := tlvPutsUptoRow.holds Try.pinned (OpenSpec.upto tlvPutsSpec)

/-- 'fareboxlaw04.TlvGets', WHERE WHAT IT READS IS OF BULK AT MOST 1048576: true; the input reads as it did. -/
def tlvGetsUptoRow : OpenClaim := { program := "ytlheianbmpgefaa", sum := "a719a2c54ed8b3ffced9e34f5b32926ef784c001cb0ecad5cfd8c9ea7f06b18c", func := "farebox/fareboxlaw04.TlvGets", spec := "tlvGets", unfollowed := true, recurses := true, apart := false, narrowed := true }
def TlvGetsUptoSaid : Prop := tlvGetsUptoRow.holds Try.pinned (OpenSpec.upto tlvGetsSpec)

/-- 'fareboxlaw04.TlvCuts', WHERE WHAT IT READS IS OF BULK AT MOST 1048576: true; the input reads as it did. -/
def tlvCutsUptoRow : OpenClaim := { program := "ytlheianbmpgefaa", sum := "a719a2c54ed8b3ffced9e34f5b32926ef784c001cb0ecad5cfd8c9ea7f06b18c", func := "farebox/fareboxlaw04.TlvCuts", spec := "tlvCuts", unfollowed := true, recurses := true, loops := true, apart := false, narrowed := true }
def TlvCutsUptoSaid : Prop := tlvCutsUptoRow.holds Try.pinned (OpenSpec.upto tlvCutsSpec)

/-- 'fareboxlaw04.TlvJoins', WHERE WHAT IT READS IS OF BULK AT MOST 1048576: true; the input reads as it did. -/
def tlvJoinsUptoRow : OpenClaim := { program := "ytlheianbmpgefaa", sum := "a719a2c54ed8b3ffced9e34f5b32926ef784c001cb0ecad5cfd8c9ea7f06b18c", func := "farebox/fareboxlaw04.TlvJoins", spec := "tlvJoins", unfollowed := true, recurses := true, loops := true, apart := false, narrowed := true }
def TlvJoinsUptoSaid : Prop := tlvJoinsUptoRow.holds Try.pinned (OpenSpec.upto tlvJoinsSpec)

/-- 'fareboxlaw04.TlvNums', WHERE WHAT IT READS IS OF BULK AT MOST 1048576: true; the input reads as it did. -/
def tlvNumsUptoRow : OpenClaim := { program := "ytlheianbmpgefaa", sum := "a719a2c54ed8b3ffced9e34f5b32926ef784c001cb0ecad5cfd8c9ea7f06b18c", func := "farebox/fareboxlaw04.TlvNums", spec := "tlvNums", unfollowed := true, recurses := true, apart := false, narrowed := true }
def TlvNumsUptoSaid : Prop := tlvNumsUptoRow.holds Try.pinned (OpenSpec.upto tlvNumsSpec)

/-- 'fareboxlaw04.TlvBack', WHERE WHAT IT READS IS OF BULK AT MOST 1048576: true; the input reads as it did. -/
def tlvBackUptoRow : OpenClaim := { program := "ytlheianbmpgefaa", sum := "a719a2c54ed8b3ffced9e34f5b32926ef784c001cb0ecad5cfd8c9ea7f06b18c", func := "farebox/fareboxlaw04.TlvBack", spec := "tlvBack", unfollowed := true, recurses := true, loops := true, apart := false, narrowed := true }
def TlvBackUptoSaid : Prop := tlvBackUptoRow.holds Try.pinned (OpenSpec.upto tlvBackSpec)

/-- 'fareboxlaw04.TlvAsks', WHERE WHAT IT READS IS OF BULK AT MOST 1048576: true; the input reads as it did. -/
def tlvAsksUptoRow : OpenClaim := { program := "ytlheianbmpgefaa", sum := "a719a2c54ed8b3ffced9e34f5b32926ef784c001cb0ecad5cfd8c9ea7f06b18c", func := "farebox/fareboxlaw04.TlvAsks", spec := "tlvAsks", unfollowed := true, recurses := true, loops := true, apart := false, narrowed := true }
def TlvAsksUptoSaid : Prop := tlvAsksUptoRow.holds Try.pinned (OpenSpec.upto tlvAsksSpec)

end Rows
end Go.Proofs.Ytlheianbmpgefaa
