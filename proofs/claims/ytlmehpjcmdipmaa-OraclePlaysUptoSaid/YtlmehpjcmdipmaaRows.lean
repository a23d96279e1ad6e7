/-
  No cell of these rows narrows 'for every input' (looked for: loops, veiled, ifaces, maps, wideKeys, modest, calm, conditions, laid).
  DERIVED. THE GIVEN ROWS OF THIS SEAT. 10 by the template 'for every input the law returns true; each argument reads behind the call as it read before'; 0 by the template 'total and deterministic' (their statements: YtlmehpjcmdipmaaTotals.lean).
  GIVEN WITH THE SEED: the statements are not yours to turn. If you find one false, say at which input.
  Laid BY PROGRAM, IN A SANDBOX (cutbox-rows.mjs): the forced cells as the released guide's own fill.sh prints them over the translation ce6277360a3170be… (all of the seat's roots in one cut). By AI agents, Wed Nov 11 2026. No macro, syntax, notation, axiom, sorry.
-/
import Derived.Test.YtlmehpjcmdipmaaChecked
import GoSem.Claim
import GoSem.ClaimJoined
import GoSem.ClaimMapViews
import Derived.JoinedTies
import Derived.KernelRfl
namespace Go.Proofs.Ytlmehpjcmdipmaa
/- THE CELL 'sum', in the pinned program and in every row, IS THE sha256 OF THE DUMP (.gsa) THAT YtlmehpjcmdipmaaProg.lean LOADS. Nothing in Lean hashes anything: it is a label: what it is worth is what the hold of that sum in a sandbox is worth. -/
noncomputable def Try.pinned : Pinned := { name := "ytlmehpjcmdipmaa", sum := "ce6277360a3170be719b3cacb91fe69a5ff3990a263d9e2bb80b349bfc9e4300", checked := Try.checked }
namespace Rows
def none {H : Type} : Left H := { results := [], args := [] }

/-- 'fareboxlaw08.OracleTrue': WHATEVER THE INPUT: true; the input reads as it did. -/
def oracleTrueSpec : ChangeSpec := { name := "oracleTrue", fn := fun _ => fun
  | [d1, d2] => { results := [.lit (.bool true)], args := [d1, d2] }
  | _ => none }
def oracleTrueRow : OpenClaim := { program := "ytlmehpjcmdipmaa", sum := "ce6277360a3170be719b3cacb91fe69a5ff3990a263d9e2bb80b349bfc9e4300", func := "farebox/fareboxlaw08.OracleTrue", spec := "oracleTrue", plainKeys := false, apart := false }
def OracleTrueSaid : Prop := oracleTrueRow.holds Try.pinned (OpenSpec.ofChange oracleTrueSpec)

/-- ITS FALSE NEIGHBOUR: 'it returns false'. Refute it at one input. -/
def oracleTrueWrong : ChangeSpec := { name := "oracleTrue", fn := fun _ => fun
  | [d1, d2] => { results := [.lit (.bool false)], args := [d1, d2] }
  | _ => none }
def OracleTrueWrongFalsely : Prop := oracleTrueRow.holds Try.pinned (OpenSpec.ofChange oracleTrueWrong)

/-- 'fareboxlaw06.CardTears': WHATEVER THE INPUT: true; the input reads as it did. -/
def cardTearsSpec : ChangeSpec := { name := "cardTears", fn := fun _ => fun
  | [d1, d2] => { results := [.lit (.bool true)], args := [d1, d2] }
  | _ => none }
def cardTearsRow : OpenClaim := { program := "ytlmehpjcmdipmaa", sum := "ce6277360a3170be719b3cacb91fe69a5ff3990a263d9e2bb80b349bfc9e4300", func := "farebox/fareboxlaw06.CardTears", spec := "cardTears", plainKeys := false, apart := false }
def CardTearsSaid : Prop := cardTearsRow.holds Try.pinned (OpenSpec.ofChange cardTearsSpec)

/-- ITS FALSE NEIGHBOUR: 'it returns false'. Refute it at one input. -/
def cardTearsWrong : ChangeSpec := { name := "cardTears", fn := fun _ => fun
  | [d1, d2] => { results := [.lit (.bool false)], args := [d1, d2] }
  | _ => none }
def CardTearsWrongFalsely : Prop := cardTearsRow.holds Try.pinned (OpenSpec.ofChange cardTearsWrong)

/-- 'fareboxlaw06.CardApart': WHATEVER THE INPUT: true; the input reads as it did. -/
def cardApartSpec : ChangeSpec := { name := "cardApart", fn := fun _ => fun
  | [d1, d2, d3] => { results := [.lit (.bool true)], args := [d1, d2, d3] }
  | _ => none }
def cardApartRow : OpenClaim := { program := "ytlmehpjcmdipmaa", sum := "ce6277360a3170be719b3cacb91fe69a5ff3990a263d9e2bb80b349bfc9e4300", func := "farebox/fareboxlaw06.CardApart", spec := "cardApart", plainKeys := false, apart := false }
def CardApartSaid : Prop := cardApartRow.holds Try.pinned (OpenSpec.ofChange cardApartSpec)

/-- ITS FALSE NEIGHBOUR: 'it returns false'. Refute it at one input. -/
def cardApartWrong : ChangeSpec := { name := "cardApart", fn := fun _ => fun
  | [d1, d2, d3] => { results := [.lit (.bool false)], args := [d1, d2, d3] }
  | _ => none }
def CardApartWrongFalsely : Prop := cardApartRow.holds Try.pinned (OpenSpec.ofChange cardApartWrong)

/-- 'fareboxlaw06.CardPlays': WHATEVER THE INPUT: true; the input reads as it did. -/
def cardPlaysSpec : ChangeSpec := { name := "cardPlays", fn := fun _ => fun
  | [d] => { results := [.lit (.bool true)], args := [d] }
  | _ => none }
def cardPlaysRow : OpenClaim := { program := "ytlmehpjcmdipmaa", sum := "ce6277360a3170be719b3cacb91fe69a5ff3990a263d9e2bb80b349bfc9e4300", func := "farebox/fareboxlaw06.CardPlays", spec := "cardPlays", plainKeys := false, apart := false }
def CardPlaysSaid : Prop := cardPlaysRow.holds Try.pinned (OpenSpec.ofChange cardPlaysSpec)

/-- ITS FALSE NEIGHBOUR: 'it returns false'. Refute it at one input. -/
def cardPlaysWrong : ChangeSpec := { name := "cardPlays", fn := fun _ => fun
  | [d] => { results := [.lit (.bool false)], args := [d] }
  | _ => none }
def CardPlaysWrongFalsely : Prop := cardPlaysRow.holds Try.pinned (OpenSpec.ofChange cardPlaysWrong)

/-- 'fareboxlaw06.CardImages': WHATEVER THE INPUT: true; the input reads as it did. -/
def cardImagesSpec : ChangeSpec := { name := "cardImages", fn := fun _ => fun
  | [d1, d2, d3] => { results := [.lit (.bool true)], args := [d1, d2, d3] }
  | _ => none }
def cardImagesRow : OpenClaim := { program := "ytlmehpjcmdipmaa", sum := "ce6277360a3170be719b3cacb91fe69a5ff3990a263d9e2bb80b349bfc9e4300", func := "farebox/fareboxlaw06.CardImages", spec := "cardImages", plainKeys := false, apart := false }
def CardImagesSaid : Prop := cardImagesRow.holds Try.pinned (OpenSpec.ofChange cardImagesSpec)

/-- ITS FALSE NEIGHBOUR: 'it returns false'. Refute it at one input. -/
def cardImagesWrong : ChangeSpec := { name := "cardImages", fn := fun _ => fun
  | [d1, d2, d3] => { results := [.lit (.bool false)], args := [d1, d2, d3] }
  | _ => none }
def CardImagesWrongFalsely : Prop := cardImagesRow.holds Try.pinned (OpenSpec.ofChange cardImagesWrong)

/-- 'fareboxlaw15.FileGrows': WHATEVER THE INPUT: true; the input reads as it did. -/
def fileGrowsSpec : ChangeSpec := { name := "fileGrows", fn := fun _ => fun
  | [d1, d2] => { results := [.lit (.bool true)], args := [d1, d2] }
  | _ => none }
def fileGrowsRow : OpenClaim := { program := "ytlmehpjcmdipmaa", sum := "ce6277360a3170be719b3cacb91fe69a5ff3990a263d9e2bb80b349bfc9e4300", func := "farebox/fareboxlaw15.FileGrows", spec := "fileGrows", plainKeys := false, apart := false }
def FileGrowsSaid : Prop := fileGrowsRow.holds Try.pinned (OpenSpec.ofChange fileGrowsSpec)

/-- ITS FALSE NEIGHBOUR: 'it returns false'. Refute it at one input. -/
def fileGrowsWrong : ChangeSpec := { name := "fileGrows", fn := fun _ => fun
  | [d1, d2] => { results := [.lit (.bool false)], args := [d1, d2] }
  | _ => none }
def FileGrowsWrongFalsely : Prop := fileGrowsRow.holds Try.pinned (OpenSpec.ofChange fileGrowsWrong)

/-- 'fareboxlaw15.FileTogether': WHATEVER THE INPUT: true; the input reads as it did. -/
def fileTogetherSpec : ChangeSpec := { name := "fileTogether", fn := fun _ => fun
  | [d1, d2, d3] => { results := [.lit (.bool true)], args := [d1, d2, d3] }
  | _ => none }
def fileTogetherRow : OpenClaim := { program := "ytlmehpjcmdipmaa", sum := "ce6277360a3170be719b3cacb91fe69a5ff3990a263d9e2bb80b349bfc9e4300", func := "farebox/fareboxlaw15.FileTogether", spec := "fileTogether", plainKeys := false, apart := false }
def FileTogetherSaid : Prop := fileTogetherRow.holds Try.pinned (OpenSpec.ofChange fileTogetherSpec)

/-- ITS FALSE NEIGHBOUR: 'it returns false'. Refute it at one input. -/
def fileTogetherWrong : ChangeSpec := { name := "fileTogether", fn := fun _ => fun
  | [d1, d2, d3] => { results := [.lit (.bool false)], args := [d1, d2, d3] }
  | _ => none }
def FileTogetherWrongFalsely : Prop := fileTogetherRow.holds Try.pinned (OpenSpec.ofChange fileTogetherWrong)

/-- 'fareboxlaw15.FilePlays': WHATEVER THE INPUT: true; the input reads as it did. -/
def filePlaysSpec : ChangeSpec := { name := "filePlays", fn := fun _ => fun
  | [d1, d2] => { results := [.lit (.bool true)], args := [d1, d2] }
  | _ => none }
def filePlaysRow : OpenClaim := { program := "ytlmehpjcmdipmaa", sum := "ce6277360a3170be719b3cacb91fe69a5ff3990a263d9e2bb80b349bfc9e4300", func := "farebox/fareboxlaw15.FilePlays", spec := "filePlays", plainKeys := false, apart := false }
def FilePlaysSaid : Prop := filePlaysRow.holds Try.pinned (OpenSpec.ofChange filePlaysSpec)

/-- ITS FALSE NEIGHBOUR: 'it returns false'. Refute it at one input. -/
def filePlaysWrong : ChangeSpec := { name := "filePlays", fn := fun _ => fun
  | [d1, d2] => { results := [.lit (.bool false)], args := [d1, d2] }
  | _ => none }
def FilePlaysWrongFalsely : Prop := filePlaysRow.holds Try.pinned (OpenSpec.ofChange filePlaysWrong)

/-- 'fareboxlaw08.OraclePlays': WHATEVER THE INPUT: true; the input reads as it did. -/
def oraclePlaysSpec : ChangeSpec := { name := "oraclePlays", fn := fun _ => fun
  | [d] => { results := [.lit (.bool true)], args := [d] }
  | _ => none }
def oraclePlaysRow : OpenClaim := { program := "ytlmehpjcmdipmaa", sum := "ce6277360a3170be719b3cacb91fe69a5ff3990a263d9e2bb80b349bfc9e4300", func := "farebox/fareboxlaw08.OraclePlays", spec := "oraclePlays", unfollowed := true, recurses := true, plainKeys := false, apart := false }
def OraclePlaysSaid : Prop := oraclePlaysRow.holds Try.pinned (OpenSpec.ofChange oraclePlaysSpec)

/-- ITS FALSE NEIGHBOUR: 'it returns false'. Refute it at one input. -/
def oraclePlaysWrong : ChangeSpec := { name := "oraclePlays", fn := fun _ => fun
  | [d] => { results := [.lit (.bool false)], args := [d] }
  | _ => none }
def OraclePlaysWrongFalsely : Prop := oraclePlaysRow.holds Try.pinned (OpenSpec.ofChange oraclePlaysWrong)

/-- 'fareboxlaw08.OracleOrder': WHATEVER THE INPUT: true; the input reads as it did. -/
def oracleOrderSpec : ChangeSpec := { name := "oracleOrder", fn := fun _ => fun
  | [d] => { results := [.lit (.bool true)], args := [d] }
  | _ => none }
def oracleOrderRow : OpenClaim := { program := "ytlmehpjcmdipmaa", sum := "ce6277360a3170be719b3cacb91fe69a5ff3990a263d9e2bb80b349bfc9e4300", func := "farebox/fareboxlaw08.OracleOrder", spec := "oracleOrder", unfollowed := true, recurses := true, plainKeys := false, apart := false }
def OracleOrderSaid : Prop := oracleOrderRow.holds Try.pinned (OpenSpec.ofChange oracleOrderSpec)

/-- ITS FALSE NEIGHBOUR: 'it returns false'. Refute it at one input. -/
def oracleOrderWrong : ChangeSpec := { name := "oracleOrder", fn := fun _ => fun
  | [d] => { results := [.lit (.bool false)], args := [d] }
  | _ => none }
def OracleOrderWrongFalsely : Prop := oracleOrderRow.holds Try.pinned (OpenSpec.ofChange oracleOrderWrong)

/- THE SECOND FORM. 'bulk': how many values and letters a reading holds, each counted each time it is reached (what is shared counts as often as it is met; a slice's spare places count too). A statement '..UptoSaid' is the law's where the arguments, and the package variables that the reading takes, are together of bulk at most 1048576: NARROWER than '..Said'. Prove '..Said' where nothing that the law and all that it calls make is longer than what came in: it says more and counts as full. Else prove '..UptoSaid'. A law counts once. -/
mutual
def uptoBulk {H : Type} : DataW H → Nat
  | .lit (.string bytes) => bytes.length + 1
  | .lit _ => 1
  | .nil => 1
  | .ptr d => uptoBulk d + 1
  | .slice elems spare => uptoBulkAll elems + uptoBulkAll spare + 1
  | .agg parts => uptoBulkAll parts + 1
  | .iface _ d => uptoBulk d + 1
  | .map entries => uptoBulkEntries entries + 1
  | .held _ => 1
def uptoBulkAll {H : Type} : List (DataW H) → Nat
  | [] => 0
  | d :: r => uptoBulk d + uptoBulkAll r
def uptoBulkEntries {H : Type} : List (Lit × DataW H) → Nat
  | [] => 0
  | x :: r => uptoBulkEntry x + uptoBulkEntries r
def uptoBulkEntry {H : Type} : Lit × DataW H → Nat
  | (.string bytes, d) => bytes.length + uptoBulk d + 1
  | (_, d) => uptoBulk d + 1
 end
def uptoSmall : (H : Type) → List (DataW H) → Bool := fun _ ds => decide (uptoBulkAll ds ≤ 1048576)
def OpenSpec.upto (s : _root_.Go.ChangeSpec) : _root_.Go.OpenSpec := { _root_.Go.OpenSpec.ofChange s with cond := some uptoSmall }

/-- 'fareboxlaw08.OracleTrue', WHERE WHAT IT READS IS OF BULK AT MOST 1048576: true; the input reads as it did. -/
def oracleTrueUptoRow : OpenClaim := { program := "ytlmehpjcmdipmaa", sum := "ce6277360a3170be719b3cacb91fe69a5ff3990a263d9e2bb80b349bfc9e4300", func := "farebox/fareboxlaw08.OracleTrue", spec := "oracleTrue", plainKeys := false, apart := false, narrowed := true }
def OracleTrueUptoSaid : Prop := oracleTrueUptoRow.holds Try.pinned (OpenSpec.upto oracleTrueSpec)

/-- 'fareboxlaw06.CardTears', WHERE WHAT IT READS IS OF BULK AT MOST 1048576: true; the input reads as it did. -/
def cardTearsUptoRow : OpenClaim := { program := "ytlmehpjcmdipmaa", sum := "ce6277360a3170be719b3cacb91fe69a5ff3990a263d9e2bb80b349bfc9e4300", func := "farebox/fareboxlaw06.CardTears", spec := "cardTears", plainKeys := false, apart := false, narrowed := true }
def CardTearsUptoSaid : Prop := cardTearsUptoRow.holds Try.pinned (OpenSpec.upto cardTearsSpec)

/-- 'fareboxlaw06.CardApart', WHERE WHAT IT READS IS OF BULK AT MOST 1048576: true; the input reads as it did. -/
def cardApartUptoRow : OpenClaim := { program := "ytlmehpjcmdipmaa", sum := "ce6277360a3170be719b3cacb91fe69a5ff3990a263d9e2bb80b349bfc9e4300", func := "farebox/fareboxlaw06.CardApart", spec := "cardApart", plainKeys := false, apart := false, narrowed := true }
def CardApartUptoSaid : Prop := cardApartUptoRow.holds Try.pinned (OpenSpec.upto cardApartSpec)

/-- 'fareboxlaw06.CardPlays', WHERE WHAT IT READS IS OF BULK AT MOST 1048576: true; the input reads as it did. -/
def cardPlaysUptoRow : OpenClaim := { program := "ytlmehpjcmdipmaa", sum := "ce6277360a3170be719b3cacb91fe69a5ff3990a263d9e2bb80b349bfc9e4300", func := "farebox/fareboxlaw06.CardPlays", spec := "cardPlays", plainKeys := false, apart := false, narrowed := true }
def CardPlaysUptoSaid : Prop := cardPlaysUptoRow.holds Try.pinned (OpenSpec.upto cardPlaysSpec)

/-- 'fareboxlaw06.CardImages', WHERE WHAT IT READS IS OF BULK AT MOST 1048576: true; the input reads as it did. -/
def cardImagesUptoRow : OpenClaim := { program := "ytlmehpjcmdipmaa", sum := "ce6277360a3170be719b3cacb91fe69a5ff3990a263d9e2bb80b349bfc9e4300", func := "farebox/fareboxlaw06.CardImages", spec := "cardImages", plainKeys := false, apart := false, narrowed := true }
def CardImagesUptoSaid : Prop := cardImagesUptoRow.holds Try.pinned (OpenSpec.upto cardImagesSpec)

/-- 'fareboxlaw15.FileGrows', WHERE WHAT IT READS IS OF BULK AT MOST 1048576: true; the input reads as it did. -/
def fileGrowsUptoRow : OpenClaim := { program := "ytlmehpjcmdipmaa", sum := "ce6277360a3170be719b3cacb91fe69a5ff3990a263d9e2bb80b349bfc9e4300", func := "farebox/fareboxlaw15.FileGrows", spec := "fileGrows", plainKeys := false, apart := false, narrowed := true }
def FileGrowsUptoSaid : Prop := fileGrowsUptoRow.holds Try.pinned (OpenSpec.upto fileGrowsSpec)

/-- 'fareboxlaw15.FileTogether', WHERE WHAT IT READS IS OF BULK AT MOST 1048576: true; the input reads as it did. -/
def fileTogetherUptoRow : OpenClaim := { program := "ytlmehpjcmdipmaa", sum := "ce6277360a3170be719b3cacb91fe69a5ff3990a263d9e2bb80b349bfc9e4300", func := "farebox/fareboxlaw15.FileTogether", spec := "fileTogether", plainKeys := false, apart := false, narrowed := true }
def FileTogetherUptoSaid : Prop := fileTogetherUptoRow.holds Try.pinned (OpenSpec.upto fileTogetherSpec)

/-- 'fareboxlaw15.FilePlays', WHERE WHAT IT READS IS OF BULK AT MOST 1048576: true; the input reads as it did. -/
def filePlaysUptoRow : OpenClaim := { program := "ytlmehpjcmdipmaa", sum := "ce6277360a3170be719b3cacb91fe69a5ff3990a263d9e2bb80b349bfc9e4300", func := "farebox/fareboxlaw15.FilePlays", spec := "filePlays", plainKeys := false, apart := false, narrowed := true }
def FilePlaysUptoSaid : Prop := filePlaysUptoRow.holds Try.pinned (OpenSpec.upto filePlaysSpec)

/-- 'fareboxlaw08.OraclePlays', WHERE WHAT IT READS IS OF BULK AT MOST 1048576: true; the input reads as it did. -/
def oraclePlaysUptoRow : OpenClaim := { program := "ytlmehpjcmdipmaa", sum := "ce6277360a3170be719b3cacb91fe69a5ff3990a263d9e2bb80b349bfc9e4300", func := "farebox/fareboxlaw08.OraclePlays", spec := "oraclePlays", unfollowed := true, recurses := true, plainKeys := false, apart := false, narrowed := true }
def OraclePlaysUptoSaid : Prop := oraclePlaysUptoRow.holds Try.pinned (OpenSpec.upto oraclePlaysSpec)

/-- 'fareboxlaw08.OracleOrder', WHERE WHAT IT READS IS OF BULK AT MOST 1048576: true; the input reads as it did. -/
def oracleOrderUptoRow : OpenClaim := { program := "ytlmehpjcmdipmaa", sum := "ce6277360a3170be719b3cacb91fe69a5ff3990a263d9e2bb80b349bfc9e4300", func := "farebox/fareboxlaw08.OracleOrder", spec := "oracleOrder", unfollowed := true, recurses := true, plainKeys := false, apart := false, narrowed := true }
def OracleOrderUptoSaid : Prop := oracleOrderUptoRow.holds Try.pinned (OpenSpec.upto oracleOrderSpec)

end Rows
end Go.Proofs.Ytlmehpjcmdipmaa
